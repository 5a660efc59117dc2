/- Several texts of mine, one behind the other. Conditions: as each says. -/
import Derived.Calls
set_option linter.unusedVariables false
set_option linter.unusedSimpArgs false
namespace Go
def Result.world {α:Type}:Result α→World
 | .ok _ w=>w
 | .halt _ w=>w
theorem ZV {p:Program} {w w':World} {a k:Addr} {u:TypeId} {v:Value} {at_:Bool} {l:List Addr} (h:w.viewStore p a u k v at_ = .ok (w',l)):w'.drawn=w.drawn:=by
 unfold World.viewStore at h;simp only [bind,Except.bind,pure,Except.pure] at h;repeat' split at h
 all_goals first | (cases h; rfl) | (simp at h; done) | skip
theorem ZW {p:Program} {w w':World} {a:Addr} {v:Value} {at_:Bool} {l:List Addr} (h:w.farStore p a v at_ = .ok (w',l)):w'.drawn=w.drawn:=by
 unfold World.farStore at h;split at h
 ·split at h
  ·rename_i hv;cases h;exact ZV hv
  ·cases h
 ·cases h
theorem ZX {α:Type}:∀ (x:Ask α) (w:World),w.drawn≤(w.ask x).2.drawn:=by
 intro x
 induction x with
 |done a=>intro w; exact Nat.le_refl _
 |ask acC range k ih =>
  intro w;unfold World.ask;dsimp only;split
  ·exact ih _ _
  ·exact Nat.le_trans (Nat.le_succ _) (ih _ { w with drawn:=w.drawn+1 })
theorem Qi (w:World) (c:Sys):w.drawn≤(w.sys c).2.drawn:=by
 unfold World.sys;have:=ZX (Kernel.perform c w.os) w;split
 ·exact Nat.le_refl _
 ·rename_i h; rw [h] at this; exact this
theorem ZY (w:World) (a:Addr) (n:Nat):(w.freeze a n).drawn=w.drawn:=by unfold World.freeze; split <;> rfl
theorem Sem.DL {α:Type} (p:Program) (x:Sem α):∀ (w:World),w.drawn≤(x.run p w).world.drawn:=by
 induction x with
 |pure a=>intro w; exact Nat.le_refl _
 |halt h=>intro w; exact Nat.le_refl _
 |load m a k ih =>
  intro w;unfold Sem.run;repeat' split
  all_goals first | exact Nat.le_refl _ | exact ih _ w
 |store m a v k ih =>
  intro w;cases v;all_goals first
   |exact Nat.le_refl _
   |(unfold Sem.run
     repeat' split
     all_goals first | exact Nat.le_refl _ | exact ih (w.setCell a _) | (rename_i h; exact Nat.le_trans (Nat.le_of_eq (ZW h).symm) (ih _)))
 |new o k ih=>intro w; exact ih _ { w with heap:=w.heap.push o }
 |shape r k ih=>intro w; exact ih _ w
 |freeze a n k ih=>intro w; exact Nat.le_trans (Nat.le_of_eq (ZY w a n).symm) (ih (w.freeze a n))
 |frozen a k ih=>intro w; exact ih _ w
 |getObj r k ih =>
  intro w;unfold Sem.run;repeat' split
  all_goals first | exact Nat.le_refl _ | exact ih _ w
 |setObj r o k ih =>
  intro w;unfold Sem.run;repeat' split
  all_goals first | exact Nat.le_refl _ | exact ih { w with heap:=w.heap.setIfInBounds r o }
 |choose q k ih =>
  intro w;unfold Sem.run;split
  ·exact ih _ w
  ·exact Nat.le_trans (Nat.le_succ _) (ih _ { w with drawn:=w.drawn+1 })
 |sys c k ih=>intro w; exact Nat.le_trans (Qi w c) (ih _ _)
 |program k ih=>intro w; exact ih p w
 |mark m k ih=>intro w; exact ih w
theorem Sem.ZZ {α:Type} (p:Program) (x:Sem α):∀ (w:World) (es:Array Event),(x.runT p w es).1=x.run p w:=by
 induction x with
 |pure a=>intro w es; rfl
 |halt h=>intro w es; rfl
 |load m a k ih =>
  intro w es;unfold Sem.runT Sem.run;repeat' split
  all_goals first | rfl | exact ih _ _ _ | simp_all
 |store m a v k ih =>
  intro w es;cases v;all_goals first
   |rfl
   |(unfold Sem.runT Sem.run
     repeat' split
     all_goals first | rfl | exact ih _ _ | simp_all)
 |new o k ih=>intro w es; exact ih _ _ _
 |shape r k ih=>intro w es; exact ih _ _ _
 |freeze a n k ih=>intro w es; exact ih _ _
 |frozen a k ih=>intro w es; exact ih _ _ _
 |getObj r k ih =>
  intro w es;unfold Sem.runT Sem.run;repeat' split
  all_goals first | rfl | exact ih _ _ _ | simp_all
 |setObj r o k ih =>
  intro w es;unfold Sem.runT Sem.run;repeat' split
  all_goals first | rfl | exact ih _ _ | simp_all
 |choose q k ih =>
  intro w es;unfold Sem.runT Sem.run;split
  ·exact ih _ _ _
  ·exact ih _ _ _
 |sys c k ih=>intro w es; exact ih _ _ _
 |program k ih=>intro w es; exact ih _ _ _
 |mark m k ih=>intro w es; exact ih _ _
theorem Sem.AX {α:Type} (p:Program) (x:Sem α) (w:World) (es:Array Event):w.drawn≤(x.runT p w es).1.world.drawn:=by
 rw [Sem.ZZ]; exact x.DL p w
def GStep.world:GStep→World
 | .go _ w _=>w
 | .comm _ _ _ _ w _=>w
 | .spawn _ _ w _=>w
 | .count _ w _=>w
 | .timer _ _ w _=>w
 | .alone _ _ w _=>w
 | .newcoro _ _ _ w _=>w
 | .coroswitch _ _ _ w _=>w
 | .collect _ w _=>w
 | .watch _ w _=>w
 | .ended _ w _=>w
theorem GStep.Z0 (es:Array Event) (s:GStep):(s.after es).world=s.world:=by cases s <;> rfl
def db (d:Nat) (s:GStep):Prop:=d≤s.world.drawn
theorem Z1 {d:Nat} {c:Prop} [Decidable c] {a b:GStep} (h:db d a) (k:db d b):db d (if c then a else b):=by split <;> assumption
theorem db.after {d:Nat} {es:Array Event} {s:GStep} (h:db d s):db d (s.after es):=by unfold db; rw [GStep.Z0]; exact h
theorem iy {α:Type} {p:Program} {x:Sem α} {w w':World} {a:α} (h:x.run p w = .ok a w'):w.drawn≤w'.drawn:=by have:=x.DL p w; rw [h] at this; exact this
theorem rL {α:Type} {p:Program} {x:Sem α} {w w':World} {a:Halt} (h:x.run p w = .halt a w'):w.drawn≤w'.drawn:=by have:=x.DL p w; rw [h] at this; exact this
theorem DM {α:Type} {p:Program} {x:Sem α} {w w':World} {es ew:Array Event} {a:α} (h:x.runT p w es=(.ok a w',ew)):w.drawn≤w'.drawn:=by have:=x.AX p w es; rw [h] at this; exact this
theorem DN {α:Type} {p:Program} {x:Sem α} {w w':World} {es ew:Array Event} {a:Halt} (h:x.runT p w es=(.halt a w',ew)):w.drawn≤w'.drawn:=by have:=x.AX p w es; rw [h] at this; exact this
theorem mn {α:Type} {p:Program} {x:Sem α} {w w':World} {es:Array Event} {a:α} (h:(x.runT p w es).1 = .ok a w'):w.drawn≤w'.drawn:=by have:=x.AX p w es; rw [h] at this; exact this
theorem na {α:Type} {p:Program} {x:Sem α} {w w':World} {es:Array Event} {a:Halt} (h:(x.runT p w es).1 = .halt a w'):w.drawn≤w'.drawn:=by have:=x.AX p w es; rw [h] at this; exact this
theorem Qj {w w':World} {c:Sys} {r:SysRet} (h:w.sys c=(r,w')):w.drawn≤w'.drawn:=by have:=Qi w c; rw [h] at this; exact this
theorem Z2 (w:World) (fd:Nat) (t:ByteArray) (o:Outcome):db w.drawn (endWith w fd t o):=by
 unfold endWith;dsimp only;repeat' split
 all_goals
  first
   |exact Nat.le_refl _
   |exact Qj (by assumption)
   |exact iy (by assumption)
   |exact rL (by assumption)
   |exact DM (by assumption)
   |exact DN (by assumption)
theorem AY (fr:Frame) (m:String) (w:World):db w.drawn (endThrow fr m w):=Nat.le_refl _
theorem xS (p:Program) (fr:Frame) (v:Value) (w:World):db w.drawn (endPrinting p fr v w):=by
 unfold endPrinting;dsimp only;repeat' split
 all_goals
  first
   |exact Nat.le_refl _
   |exact Qj (by assumption)
   |exact iy (by assumption)
   |exact rL (by assumption)
   |exact DM (by assumption)
   |exact DN (by assumption)
theorem db.up {d e:Nat} {s:GStep} (h:d≤e) (k:db e s):db d s:=Nat.le_trans h k
theorem IV (p:Program) (fr:Frame) (callers:List Frame) (dying:Option Dying) (m:String) (w:World):db w.drawn (endFatal p fr callers dying m w):=by
 unfold endFatal;dsimp only;split
 ·exact iy (by assumption)
 ·exact rL (by assumption)
 ·exact rL (by assumption)
theorem Z3 (p:Program) (fr:Frame) (d:Dying) (f:Fatal) (w:World):db w.drawn (writeOn p fr d f w):=by
 unfold writeOn;dsimp only;split
 ·exact Nat.le_refl _
 ·split;all_goals first | exact DM (by assumption) | exact DN (by assumption)
theorem Z4 (p:Program) (fr:Frame) (d:Dying) (w:World):db w.drawn (die p fr d w):=by
 unfold die;split
 ·exact Z3 ..
 ·split
  ·split
   ·exact Nat.le_refl _
   ·exact Z2 ..
  ·dsimp only;split
   ·exact Nat.le_refl _
   ·split
    ·exact iy (by assumption)
    ·exact rL (by assumption)
   ·apply db.after;split;all_goals first | exact Nat.le_refl _ | exact mn (by assumption) | exact na (by assumption) | exact db.up (na (by assumption)) (xS ..)
   ·exact Nat.le_refl _
theorem DO (p:Program) (main:Bool) (fr:Frame) (callers:List Frame) (dying:Option Dying) (v:Value) (w:World):db w.drawn (doReturn p main fr callers dying v w):=by
 unfold doReturn;dsimp only;repeat' split
 all_goals exact Nat.le_refl _
theorem Z5 (p:Program) (fr:Frame) (callers:List Frame) (dying:Option Dying) (d:Deferred) (w:World):db w.drawn (callDeferred p fr callers dying d w):=by
 unfold callDeferred;dsimp only;refine Z1 (Nat.le_refl _) ?_
 ·apply db.after;repeat' split
  all_goals
  first
   |exact Nat.le_refl _
   |exact mn (by assumption)
   |exact na (by assumption)
   |exact db.up (mn (by assumption)) (xS ..)
   |exact db.up (na (by assumption)) (xS ..)
   |exact db.up (na (by assumption)) (IV ..)
   |exact db.up (na (by assumption)) (AY ..)
   |exact db.up (mn (by assumption)) (AY ..)
   |exact db.up (mn (by assumption)) (DO ..)
theorem Z6 (p:Program) (main:Bool) (fr:Frame) (callers:List Frame) (dying:Option Dying) (w:World):db w.drawn (unwind p main fr callers dying w):=by
 unfold unwind;dsimp only;split
 ·apply db.after;split
  ·exact mn (by assumption)
  ·exact na (by assumption)
 ·exact Z5 ..
 ·split
  ·exact Nat.le_refl _
  ·repeat' split
   all_goals first | exact Nat.le_refl _ | exact iy (by assumption) | exact rL (by assumption) | exact xS ..
  ·split
   ·exact DO ..
   ·apply db.after;split;all_goals
    first
     |exact Nat.le_refl _
     |exact mn (by assumption)
     |exact na (by assumption)
     |exact db.up (mn (by assumption)) (xS ..)
     |exact db.up (na (by assumption)) (xS ..)
     |exact db.up (na (by assumption)) (IV ..)
     |exact db.up (na (by assumption)) (AY ..)
     |exact db.up (mn (by assumption)) (AY ..)
     |exact db.up (mn (by assumption)) (DO ..)
theorem Z7 (p:Program) (fr:Frame) (callers:List Frame) (dying:Option Dying) (g:Nat) (w:World):db w.drawn (early p fr callers dying g w):=by
 unfold early;dsimp only;repeat' split
 all_goals first | exact Nat.le_refl _ | exact (iy ‹Sem.run p _ w = .ok _ _› :) | exact iy (by assumption) | exact rL (by assumption) | exact DM (by assumption) | exact DN (by assumption)
theorem DP (p:Program) (listen:Bool) (fr:Frame) (callers:List Frame) (dying:Option Dying) (s:Sem Next) (w:World):db w.drawn (stepG.apply p listen fr callers dying s w):=by
 unfold stepG.apply;dsimp only;apply db.after;obtain ⟨r,hr,hw⟩:∃ r,(if listen=true then s.runT p w #[] else (s.run p w,#[])).1=r∧w.drawn≤r.world.drawn:=⟨_,rfl,by split; exact s.AX p w #[]; exact s.DL p w⟩;rw [hr];clear hr;repeat' split
 all_goals first | exact hw | exact db.up hw (AY ..) | exact db.up hw (IV ..) | exact db.up hw (Z7 ..)
theorem Qk (p:Program) (listen:Bool) (fr:Frame) (callers:List Frame) (dying:Option Dying) (w:World):db w.drawn (stepG.oper p listen fr callers dying w):=by
 unfold stepG.oper;repeat' split
 all_goals first | exact Nat.le_refl _ | exact DP ..
theorem Ql {α:Type} {d:Nat} {o:Option α} {a:GStep} {f:α→GStep} (h:db d a) (k:∀ x,db d (f x)):db d (o.elim a f):=by cases o; exact h; exact k _
theorem Z8 (p:Program) (main listen:Bool) (fr:Frame) (callers:List Frame) (dying:Option Dying) (w:World):db w.drawn (stepG.exec p main listen fr callers dying w):=by
 unfold stepG.exec;dsimp only;split;all_goals first
  |exact Nat.le_refl _
  |exact DP ..
  |(split <;> exact Nat.le_refl _)
  |skip
 all_goals (try refine Ql ?_ fun _=>Nat.le_refl _)
 all_goals first
  |exact Ql (Nat.le_refl _) fun _=>DP ..
  |(split
    all_goals first
    | exact Nat.le_refl _
    | (split <;> exact Nat.le_refl _)
    | (apply db.after
       split
       all_goals first | exact na (by assumption) | exact (mn (by assumption) :) | exact db.up (mn (by assumption)) (DO ..)))
  |(apply db.after
    split
    all_goals first | exact na (by assumption) | exact mn (by assumption) | exact db.up (mn (by assumption)) (DP ..))
  |(split
    all_goals first
    | exact Nat.le_refl _
    | exact Qk ..
    | (split <;> first | exact iy (by assumption) | exact rL (by assumption) | exact Qk .. | exact Nat.le_refl _))
theorem Z9 (p:Program) (main:Bool) (g:Goroutine) (w:World) (listen:Bool):db w.drawn (stepG p main g w listen):=by
 unfold stepG;dsimp only;split
 ·exact Z4 ..
 ·exact Z8 ..
 ·exact Z6 ..
def kN (d:Nat):Stepped→Prop
 | .next m=>d≤m.world.drawn
 | .ended .. => True
theorem kN.up {d e:Nat} {s:Stepped} (h:d≤e) (k:kN e s):kN d s:=by cases s; exact Nat.le_trans h k; trivial
theorem Z' {rest:Rest} {cases:Array CommCase} {w w':World} (h:waitingAt rest cases w=some w'):w.drawn≤w'.drawn:=by
 unfold waitingAt at h;split at h
 ·split at h
  ·cases h; exact Nat.le_refl _
  ·cases h
 ·cases h; exact Nat.le_refl _
theorem IW {d:Nat} {c:Prop} [Decidable c] {a b:Stepped × Array MemOp} (h:kN d a.1) (k:kN d b.1):kN d (if c then a else b).1:=by split <;> assumption
theorem aaa (p:Program) (rest:Rest) (gs:Array Goroutine) (i:Nat) (g:Goroutine) (cases:Array CommCase) (aab:Bool) (shape:CommShape) (w:World):kN w.drawn (communicate p rest gs i g cases aab shape w).1:=by
 unfold communicate;dsimp only;refine IW trivial (IW (IW ?_ (Nat.le_refl _)) ?_)
 ·split
  ·exact Z' (by assumption)
  ·trivial
 ·split
  ·trivial
  ·repeat' split
   all_goals first
    |trivial
    |exact (iy ‹Sem.run p _ w = .ok _ _› :)
    |exact Nat.le_trans (iy ‹Sem.run p _ w = .ok _ _› :) (iy (by assumption) :)
    |(rename_i h _ _ _ k; exact Nat.le_trans (iy h :) (rL k :))
theorem aac (p:Program) (m:Machine) (k:Nat):kN m.world.drawn (serve p m k):=by
 unfold serve;split
 ·trivial
 ·exact Nat.le_refl _
 ·dsimp only;split
  ·trivial
  ·exact Nat.le_refl _
theorem aad (w:World) (c:Nat):(drain w c).2.drawn=w.drawn:=by unfold drain; split <;> rfl
theorem Qm (m:Machine) (k:Nat) (t:Timer) (a b:Nat):(retime m k t a b).2.world.drawn=m.world.drawn:=by
 unfold retime;split;rename_i h;split at h
 ·rename_i c _;have:=aad m.world c; rw [h] at this; exact this
 ·cases h; rfl
theorem Qn {m m':Machine} {a:Addr} (h:timerOp.opened m a=some m'):m'.world.drawn=m.world.drawn:=by
 unfold timerOp.opened at h;split at h
 ·split at h
  ·cases h; rfl
  ·cases h
 ·cases h; rfl
theorem Qo {m m':Machine} {a:Addr} {f:Nat→Timer→Value × Machine} {v:Value} (h:timerOp.named m a f = .ok (v,m')) (k:∀ x y,(f x y).2.world.drawn=m.world.drawn):m'.world.drawn=m.world.drawn:=by
 unfold timerOp.named at h;split at h
 ·have e:=Except.ok.inj h;have:=congrArg (fun x:Value × Machine=>x.2.world.drawn) e;exact this.symm.trans (k _ _)
 ·cases h
theorem aae {m m':Machine} {o:TimerOp} {v:Value} (h:timerOp m o = .ok (v,m')):m'.world.drawn=m.world.drawn:=by
 unfold timerOp at h;split at h
 ·split at h
  ·cases h; rfl
  ·split at h
   ·split at h
    ·cases h
    ·cases h; rfl
   ·cases h
 ·exact Qo h fun _ _=>Qm ..
 ·split at h
  ·rename_i e;exact (Qo h fun _ _=>(Qm ..).trans (by first | rfl | exact Qn e | exact (Qn e).symm))
  ·cases h
 ·cases h; rfl
theorem IX (p:Program) (gs:Array Goroutine) (rest:Rest) (w:World):kN w.drawn (look p gs rest w):=by
 unfold look;split
 ·dsimp only;split
  ·trivial
  ·split
   ·trivial
   ·split
    ·exact (iy ‹Sem.run p _ w = .ok _ _› :)
    ·trivial
    ·trivial
 ·trivial
theorem Qp {fr:Frame} {m:String} {w w':World} {g:Goroutine} {es:Array Event} (h:endThrow fr m w = .go g w' es):w'.drawn=w.drawn:=by
 unfold endThrow dieOf at h;cases h; rfl
theorem aaf (p:Program) (m:Machine) (i:Nat) (l:Bool):kN m.world.drawn (runT p m i l).1:=by
 unfold runT;dsimp only;generalize m.gs.swapAt! i _=sw;have hs:=Z9 p (i==0) sw.1 m.world l;split;all_goals (rename_i heq; rw [heq] at hs)
 ·trivial
 ·exact kN.up hs (aaa ..)
 ·exact hs
 ·exact hs
 ·dsimp only;split
  ·trivial
  ·exact hs
 ·exact hs
 ·exact kN.up hs (IX ..)
 ·exact hs
 ·exact hs
 ·dsimp only;split
  ·exact hs
  ·split
   ·exact Nat.le_trans hs (Nat.le_of_eq (Qp (by assumption)).symm)
   ·trivial
  ·trivial
 ·dsimp only;split
  ·rename_i h;exact Nat.le_trans hs (Nat.le_of_eq (aae h).symm)
  ·split
   ·exact Nat.le_trans hs (Nat.le_of_eq (Qp (by assumption)).symm)
   ·trivial
  ·trivial
  ·trivial
def lE (d:Nat):Move→Prop
 | .goroutine m _=>d≤m.world.drawn
 | .machine s _=>kN d s
theorem lE.up {d e:Nat} {s:Move} (h:d≤e) (k:lE e s):lE d s:=by cases s; exact Nat.le_trans h k; exact kN.up h k
theorem AZ {d:Nat} {c:Prop} [Decidable c] {a b:Move} (h:lE d a) (k:lE d b):lE d (if c then a else b):=by split <;> assumption
theorem IY (p : Program) (m : Machine) (rs : List Nat) : lE m.world.drawn (match (choose (.sched rs.length)).run p m.world with
      | .halt _ w => .machine (.ended (.stuck "sched" "") w)
      | .ok k world =>
        if rs.length ≤ 1 then .goroutine { m with world } (rs.getD k 0) else
        match (choose (.extern "sched.slice" 65536)).run p world with
        | .halt _ w => .machine (.ended (.stuck "sched.slice" "") w)
        | .ok n world => .goroutine { m with world, rest := { m.rest with slice := if n = 0 then none else some (rs.getD k 0, n) } } (rs.getD k 0)) := by
 split
 ·trivial
 ·have e:=iy (by assumption);refine AZ e ?_;split
  ·trivial
  ·exact Nat.le_trans e (iy (by assumption))
theorem IZ (p:Program) (m:Machine):lE m.world.drawn (askOn p m):=by
 unfold askOn;dsimp only;split
 ·trivial
 ·have e:=iy (by assumption);refine AZ (kN.up e (aac ..)) ?_;split
  ·split
   ·exact e
   ·refine AZ e ?_;split <;> trivial
  ·split
   ·exact lE.up e (IY p { m with world:=_ } _)
   ·split
    ·trivial
    ·exact lE.up (Nat.le_trans e (iy (by assumption))) (IY p { m with world:=_ } _)
    ·rename_i h; exact Nat.le_trans e (iy h :)
    ·rename_i h; exact lE.up (Nat.le_trans e (iy h :)) (IY p (Machine.advanceTo { m with world:=_ } _) _)
theorem Qq (p:Program) (m:Machine):lE m.world.drawn (ask p m):=by
 unfold ask;split
 ·split
  ·trivial
  ·have e:=iy (by assumption);split
   ·rename_i w1 _ _ _ h;have l:=IX p m.gs m.rest w1;rw [h] at l; exact lE.up (Nat.le_trans e l) (IZ ..)
   ·exact kN.up e (IX ..)
  ·exact lE.up (iy (by assumption)) (IZ p { m with world:=_ })
 ·exact IZ ..
theorem aag (p:Program) (m:Machine):lE m.world.drawn (move p m):=by
 unfold move;split
 ·exact AZ (Nat.le_refl _) trivial
 ·split
  ·exact AZ (Nat.le_refl _) (Qq p { m with rest:=_ })
  ·exact Qq ..
theorem aah {p:Program} {m m':Machine} (h:step p m = .next m'):m.world.drawn≤m'.world.drawn:=by
 have k:=aag p m;unfold step stepT at h;split at h
 ·rename_i m1 i e; rw [e] at k;have r:=aaf p m1 i true;rw [h] at r;exact Nat.le_trans k r
 ·rename_i e; rw [e] at k; dsimp only at h; rw [h] at k; exact k
theorem Qr {p:Program}:∀ {n:Nat} {m m':Machine},runN p n m = .next m'→m.world.drawn≤m'.world.drawn
 | 0,m,m',h=>by cases h; exact Nat.le_refl _
 |n+1,m,m',h=>by
  unfold runN at h;split at h
  ·exact Nat.le_trans (aah (by assumption)) (Qr h)
  ·rename_i k; exact absurd h (k _)
theorem Steps.drawn {p:Program} {m m':Machine} (h:Steps p m m'):m.world.drawn≤m'.world.drawn:=h.elim fun _=>Qr
theorem Calls.drawn {P:Program} {f:FuncId} {args:Array Value} {w:World} {R:Ending→World→Prop} (h:Calls P f args w R) (hr:∀ e w',R e w'→∃ v,e = .returned v):Calls P f args w fun e w'=>R e w'∧w.drawn≤w'.drawn:=by
 intro cs;obtain ⟨e,w',fr,r,c,k⟩:=h cs;obtain ⟨v,rfl⟩:=hr e w' r;exact ⟨_,w',fr,⟨r,Steps.drawn (m:=lone _ cs w) (m':=lone fr cs w') c⟩,c,k⟩
end Go
