/- Lemmas of mine. Conditions: as stated. -/
import Derived.Test.YtlhehdgciafakaaGreatDoorQ15
import Derived.Calls
set_option linter.unusedVariables false
set_option linter.unusedSimpArgs false
open Array renaming getElem?_eq_some_iff->ajS
open List renaming length_append->ah5,length_singleton->aj4,mem_append->aif,append_assoc->aiK,mem_of_getElem?->aiQ,length_take->ah1,getElem?_eq_getElem->aiX,eq_nil_of_length_eq_zero->ahM,take_of_length_le->ajq,getElem?_of_mem->aiN,mem_singleton->alI,mem_map->ahY,getElem?_map->ahy,range->ais,flatMap_append->akg,getElem?_take->ahS,getElem?_append_left->ahT,getElem?_append_right->aiH,getElem?_range->anD,mem_of_mem_take->akx
open Nat renaming le_refl->ahL,le_trans->aic,zero_le->ai4,le_of_eq->aiu,mul_one->amn,add_zero->ah3,lt_or_ge->ahs
open Go.Sem renaming run->ahz,runT->anz
section
namespace Go
def Result.world{α:Type}:Result α->World
 | .ok _ w=>w
 | .halt _ w=>w
theorem acU{p:Program}{w w':World}{a k:Addr}{u:TypeId}{v:Value}{at_:Bool}{l:List Addr}(h:w.viewStore p a u k v at_=.ok (w',l)):w'.drawn=w.drawn:=by
 unfold World.viewStore at h;simp only[bind,Except.bind,pure,Except.pure]at h;repeat' split at h
 all_goals first|(cases h;rfl)|(simp at h;done)|skip
theorem acV{p:Program}{w w':World}{a:Addr}{v:Value}{at_:Bool}{l:List Addr}(h:w.farStore p a v at_=.ok (w',l)):w'.drawn=w.drawn:=by
 unfold World.farStore at h;split at h
 ·split at h
  ·rename_i hv;cases h;exact acU hv
  ·cases h
 ·cases h
theorem acW{α:Type}:∀ (x:Ask α) (w:World),w.drawn<=(w.ask x).2.drawn:=by
 intro x
 induction x with
 |done a=>intro w;exact ahL _
 |ask agZ range k ih =>
  intro w;unfold World.ask;dsimp only;split
  ·exact ih _ _
  ·exact aic (Nat.le_succ _) (ih _ { w with drawn:=w.drawn+1 })
theorem R3(w:World)(c:Sys):w.drawn<=(w.sys c).2.drawn:=by
 unfold World.sys;have:=acW (Kernel.perform c w.os) w;split
 ·exact ahL _
 ·rename_i h;rw[h]at this;exact this
theorem acX(w:World)(a:Addr)(n:Nat):(w.freeze a n).drawn=w.drawn:=by unfold World.freeze;split<;>rfl
theorem Sem.Fq{α:Type}(p:Program)(x:Sem α):∀ (w:World),w.drawn<=(x.run p w).world.drawn:=by
 induction x with
 |pure a=>intro w;exact ahL _
 |halt h=>intro w;exact ahL _
 |load m a k ih =>
  intro w;unfold ahz;repeat' split
  all_goals first|exact ahL _|exact ih _ w
 |store m a v k ih =>
  intro w;cases v;all_goals first
   |exact ahL _
   |(unfold ahz
     repeat' split
     all_goals first|exact ahL _|exact ih (w.setCell a _)|(rename_i h;exact aic (aiu (acV h).symm) (ih _)))
 |new o k ih=>intro w;exact ih _ { w with heap:=w.heap.push o }
 |shape r k ih=>intro w;exact ih _ w
 |freeze a n k ih=>intro w;exact aic (aiu (acX w a n).symm) (ih (w.freeze a n))
 |frozen a k ih=>intro w;exact ih _ w
 |getObj r k ih =>
  intro w;unfold ahz;repeat' split
  all_goals first|exact ahL _|exact ih _ w
 |setObj r o k ih =>
  intro w;unfold ahz;repeat' split
  all_goals first|exact ahL _|exact ih { w with heap:=w.heap.setIfInBounds r o }
 |choose q k ih =>
  intro w;unfold ahz;split
  ·exact ih _ w
  ·exact aic (Nat.le_succ _) (ih _ { w with drawn:=w.drawn+1 })
 |sys c k ih=>intro w;exact aic (R3 w c) (ih _ _)
 |program k ih=>intro w;exact ih p w
 |mark m k ih=>intro w;exact ih w
theorem Sem.acY{α:Type}(p:Program)(x:Sem α):∀ (w:World) (es:Array Event),(x.runT p w es).1=x.run p w:=by
 induction x with
 |pure a=>intro w es;rfl
 |halt h=>intro w es;rfl
 |load m a k ih =>
  intro w es;unfold anz ahz;repeat' split
  all_goals first|rfl|exact ih _ _ _|simp_all
 |store m a v k ih =>
  intro w es;cases v;all_goals first
   |rfl
   |(unfold anz ahz
     repeat' split
     all_goals first|rfl|exact ih _ _|simp_all)
 |new o k ih=>intro w es;exact ih _ _ _
 |shape r k ih=>intro w es;exact ih _ _ _
 |freeze a n k ih=>intro w es;exact ih _ _
 |frozen a k ih=>intro w es;exact ih _ _ _
 |getObj r k ih =>
  intro w es;unfold anz ahz;repeat' split
  all_goals first|rfl|exact ih _ _ _|simp_all
 |setObj r o k ih =>
  intro w es;unfold anz ahz;repeat' split
  all_goals first|rfl|exact ih _ _|simp_all
 |choose q k ih =>
  intro w es;unfold anz ahz;split
  ·exact ih _ _ _
  ·exact ih _ _ _
 |sys c k ih=>intro w es;exact ih _ _ _
 |program k ih=>intro w es;exact ih _ _ _
 |mark m k ih=>intro w es;exact ih _ _
theorem Sem.Cy{α:Type}(p:Program)(x:Sem α)(w:World)(es:Array Event):w.drawn<=(x.runT p w es).1.world.drawn:=by
 rw[Sem.acY];exact x.Fq p w
def GStep.world:GStep->World
 | .go _ w _=>w
 | .comm _ _ _ _ w _=>w
 | .spawn _ _ w _=>w
 | .count _ w _=>w
 | .timer _ _ w _=>w
 | .alone _ _ w _=>w
 | .newcoro _ _ _ w _=>w
 | .coroswitch _ _ _ w _=>w
 | .collect _ w _=>w
 | .watch _ w _=>w
 | .ended _ w _=>w
theorem GStep.acZ(es:Array Event)(s:GStep):(s.after es).world=s.world:=by cases s<;>rfl
def dm(d:Nat)(s:GStep):Prop:=d<=s.world.drawn
theorem ac0{d:Nat}{c:Prop}[Decidable c]{a b:GStep}(h:dm d a)(k:dm d b):dm d (if c then a else b):=by split<;>assumption
theorem dm.after{d:Nat}{es:Array Event}{s:GStep}(h:dm d s):dm d (s.after es):=by unfold dm;rw[GStep.acZ];exact h
theorem jD{α:Type}{p:Program}{x:Sem α}{w w':World}{a:α}(h:x.run p w=.ok a w'):w.drawn<=w'.drawn:=by have:=x.Fq p w;rw[h]at this;exact this
theorem ua{α:Type}{p:Program}{x:Sem α}{w w':World}{a:Halt}(h:x.run p w=.halt a w'):w.drawn<=w'.drawn:=by have:=x.Fq p w;rw[h]at this;exact this
theorem Fs{α:Type}{p:Program}{x:Sem α}{w w':World}{es ev:Array Event}{a:α}(h:x.runT p w es=(.ok a w',ev)):w.drawn<=w'.drawn:=by have:=x.Cy p w es;rw[h]at this;exact this
theorem Ft{α:Type}{p:Program}{x:Sem α}{w w':World}{es ev:Array Event}{a:Halt}(h:x.runT p w es=(.halt a w',ev)):w.drawn<=w'.drawn:=by have:=x.Cy p w es;rw[h]at this;exact this
theorem oo{α:Type}{p:Program}{x:Sem α}{w w':World}{es:Array Event}{a:α}(h:(x.runT p w es).1=.ok a w'):w.drawn<=w'.drawn:=by have:=x.Cy p w es;rw[h]at this;exact this
theorem o9{α:Type}{p:Program}{x:Sem α}{w w':World}{es:Array Event}{a:Halt}(h:(x.runT p w es).1=.halt a w'):w.drawn<=w'.drawn:=by have:=x.Cy p w es;rw[h]at this;exact this
theorem R4{w w':World}{c:Sys}{r:SysRet}(h:w.sys c=(r,w')):w.drawn<=w'.drawn:=by have:=R3 w c;rw[h]at this;exact this
theorem ac1(w:World)(fd:Nat)(t:ByteArray)(o:Outcome):dm w.drawn (endWith w fd t o):=by
 unfold endWith;dsimp only;repeat' split
 all_goals
  first
   |exact ahL _
   |exact R4 (by assumption)
   |exact jD (by assumption)
   |exact ua (by assumption)
   |exact Fs (by assumption)
   |exact Ft (by assumption)
theorem zV(p:Program)(fr:Frame)(v:Value)(w:World):dm w.drawn (endPrinting p fr v w):=by
 unfold endPrinting;dsimp only;repeat' split
 all_goals
  first
   |exact ahL _
   |exact R4 (by assumption)
   |exact jD (by assumption)
   |exact ua (by assumption)
   |exact Fs (by assumption)
   |exact Ft (by assumption)
theorem dm.up{d e:Nat}{s:GStep}(h:d<=e)(k:dm e s):dm d s:=aic h k
theorem Kz(p:Program)(fr:Frame)(callers:List Frame)(dying:Option Dying)(m:String)(w:World):dm w.drawn (endFatal p fr callers dying m w):=by
 unfold endFatal;dsimp only;split
 ·exact jD (by assumption)
 ·exact ua (by assumption)
 ·exact ua (by assumption)
theorem ac2(p:Program)(fr:Frame)(d:Dying)(f:Fatal)(w:World):dm w.drawn (writeOn p fr d f w):=by
 unfold writeOn;dsimp only;split
 ·exact ahL _
 ·split;all_goals first|exact Fs (by assumption)|exact Ft (by assumption)
theorem ac3(p:Program)(fr:Frame)(d:Dying)(w:World):dm w.drawn (die p fr d w):=by
 unfold die;split
 ·exact ac2 ..
 ·split
  ·split
   ·exact ahL _
   ·exact ac1 ..
  ·dsimp only;split
   ·exact ahL _
   ·split
    ·exact jD (by assumption)
    ·exact ua (by assumption)
   ·apply dm.after;split;all_goals first|exact ahL _|exact oo (by assumption)|exact o9 (by assumption)|exact dm.up (o9 (by assumption)) (zV ..)
   ·exact ahL _
theorem Fu(p:Program)(main:Bool)(fr:Frame)(callers:List Frame)(dying:Option Dying)(v:Value)(w:World):dm w.drawn (doReturn p main fr callers dying v w):=by
 unfold doReturn;dsimp only;repeat' split
 all_goals exact ahL _
theorem ac4(p:Program)(fr:Frame)(callers:List Frame)(dying:Option Dying)(d:Deferred)(w:World):dm w.drawn (callDeferred p fr callers dying d w):=by
 unfold callDeferred;dsimp only;refine ac0 (ahL _) ?_
 ·apply dm.after;repeat' split
  all_goals
  first
   |exact ahL _
   |exact oo (by assumption)
   |exact o9 (by assumption)
   |exact dm.up (oo (by assumption)) (zV ..)
   |exact dm.up (o9 (by assumption)) (zV ..)
   |exact dm.up (o9 (by assumption)) (Kz ..)
   |exact dm.up (o9 (by assumption)) (Fv ..)
   |exact dm.up (oo (by assumption)) (Fv ..)
   |exact dm.up (oo (by assumption)) (Fu ..)
theorem ac5(p:Program)(main:Bool)(fr:Frame)(callers:List Frame)(dying:Option Dying)(w:World):dm w.drawn (unwind p main fr callers dying w):=by
 unfold unwind;dsimp only;split
 ·apply dm.after;split
  ·exact oo (by assumption)
  ·exact o9 (by assumption)
 ·exact ac4 ..
 ·split
  ·exact ahL _
  ·repeat' split
   all_goals first|exact ahL _|exact jD (by assumption)|exact ua (by assumption)|exact zV ..
  ·split
   ·exact Fu ..
   ·apply dm.after;split;all_goals
    first
     |exact ahL _
     |exact oo (by assumption)
     |exact o9 (by assumption)
     |exact dm.up (oo (by assumption)) (zV ..)
     |exact dm.up (o9 (by assumption)) (zV ..)
     |exact dm.up (o9 (by assumption)) (Kz ..)
     |exact dm.up (o9 (by assumption)) (Fv ..)
     |exact dm.up (oo (by assumption)) (Fv ..)
     |exact dm.up (oo (by assumption)) (Fu ..)
theorem ac6(p:Program)(fr:Frame)(callers:List Frame)(dying:Option Dying)(g:Nat)(w:World):dm w.drawn (early p fr callers dying g w):=by
 unfold early;dsimp only;repeat' split
 all_goals first|exact ahL _|exact(jD ‹ahz p _ w=.ok _ _› :)|exact jD (by assumption)|exact ua (by assumption)|exact Fs (by assumption)|exact Ft (by assumption)
theorem Fw(p:Program)(listen:Bool)(fr:Frame)(callers:List Frame)(dying:Option Dying)(s:Sem Next)(w:World):dm w.drawn (stepG.apply p listen fr callers dying s w):=by
 unfold stepG.apply;dsimp only;apply dm.after;obtain⟨r,hr,hw⟩:∃ r,(if listen=true then s.runT p w #[]else(s.run p w,#[])).1=r/\w.drawn<=r.world.drawn:=⟨_,rfl,by split;exact s.Cy p w #[];exact s.Fq p w⟩;rw[hr];clear hr;repeat' split
 all_goals first|exact hw|exact dm.up hw (Fv ..)|exact dm.up hw (Kz ..)|exact dm.up hw (ac6 ..)
theorem R5(p:Program)(listen:Bool)(fr:Frame)(callers:List Frame)(dying:Option Dying)(w:World):dm w.drawn (stepG.oper p listen fr callers dying w):=by
 unfold stepG.oper;repeat' split
 all_goals first|exact ahL _|exact Fw ..
theorem R6{α:Type}{d:Nat}{o:Option α}{a:GStep}{f:α->GStep}(h:dm d a)(k:∀ x,dm d (f x)):dm d (o.elim a f):=by cases o;exact h;exact k _
theorem ac7(p:Program)(main listen:Bool)(fr:Frame)(callers:List Frame)(dying:Option Dying)(w:World):dm w.drawn (stepG.exec p main listen fr callers dying w):=by
 unfold stepG.exec;dsimp only;split;all_goals first
  |exact ahL _
  |exact Fw ..
  |(split<;>exact ahL _)
  |skip
 all_goals (try refine R6 ?_ fun _=>ahL _)
 all_goals first
  |exact R6 (ahL _) fun _=>Fw ..
  |(split
    all_goals first
    |exact ahL _
    |(split<;>exact ahL _)
    |(apply dm.after
      split
      all_goals first|exact o9 (by assumption)|exact(oo (by assumption) :)|exact dm.up (oo (by assumption)) (Fu ..)))
  |(apply dm.after
    split
    all_goals first|exact o9 (by assumption)|exact oo (by assumption)|exact dm.up (oo (by assumption)) (Fw ..))
  |(split
    all_goals first
    |exact ahL _
    |exact R5 ..
    |(split<;>first|exact jD (by assumption)|exact ua (by assumption)|exact R5 .. |exact ahL _))
theorem ac8(p:Program)(main:Bool)(g:Goroutine)(w:World)(listen:Bool):dm w.drawn (stepG p main g w listen):=by
 unfold stepG;dsimp only;split
 ·exact ac3 ..
 ·exact ac7 ..
 ·exact ac5 ..
def mC(d:Nat):Stepped->Prop
 | .next m=>d<=m.world.drawn
 | .ended .. => True
theorem mC.up{d e:Nat}{s:Stepped}(h:d<=e)(k:mC e s):mC d s:=by cases s;exact aic h k;trivial
theorem ac9{rest:Rest}{cases:Array CommCase}{w w':World}(h:waitingAt rest cases w=some w'):w.drawn<=w'.drawn:=by
 unfold waitingAt at h;split at h
 ·split at h
  ·cases h;exact ahL _
  ·cases h
 ·cases h;exact ahL _
theorem KA{d:Nat}{c:Prop}[Decidable c]{a b:Stepped × Array MemOp}(h:mC d a.1)(k:mC d b.1):mC d (if c then a else b).1:=by split<;>assumption
theorem ac'(p:Program)(rest:Rest)(gs:Array Goroutine)(i:Nat)(g:Goroutine)(cases:Array CommCase)(ada:Bool)(shape:CommShape)(w:World):mC w.drawn (communicate p rest gs i g cases ada shape w).1:=by
 unfold communicate;dsimp only;refine KA trivial (KA (KA ?_ (ahL _)) ?_)
 ·split
  ·exact ac9 (by assumption)
  ·trivial
 ·split
  ·trivial
  ·repeat' split
   all_goals first
    |trivial
    |exact(jD ‹ahz p _ w=.ok _ _› :)
    |exact aic (jD ‹ahz p _ w=.ok _ _› :) (jD (by assumption) :)
    |(rename_i h _ _ _ k;exact aic (jD h :) (ua k :))
theorem adb(p:Program)(m:Machine)(k:Nat):mC m.world.drawn (serve p m k):=by
 unfold serve;split
 ·trivial
 ·exact ahL _
 ·dsimp only;split
  ·trivial
  ·exact ahL _
theorem ade(w:World)(c:Nat):(drain w c).2.drawn=w.drawn:=by unfold drain;split<;>rfl
theorem R7(m:Machine)(k:Nat)(t:Timer)(a b:Nat):(retime m k t a b).2.world.drawn=m.world.drawn:=by
 unfold retime;split;rename_i h;split at h
 ·rename_i c _;have:=ade m.world c;rw[h]at this;exact this
 ·cases h;rfl
theorem R8{m m':Machine}{a:Addr}(h:timerOp.opened m a=some m'):m'.world.drawn=m.world.drawn:=by
 unfold timerOp.opened at h;split at h
 ·split at h
  ·cases h;rfl
  ·cases h
 ·cases h;rfl
theorem R9{m m':Machine}{a:Addr}{f:Nat->Timer->Value × Machine}{v:Value}(h:timerOp.named m a f=.ok (v,m'))(k:∀ x y,(f x y).2.world.drawn=m.world.drawn):m'.world.drawn=m.world.drawn:=by
 unfold timerOp.named at h;split at h
 ·have e:=Except.ok.inj h;have:=congrArg (fun x:Value × Machine=>x.2.world.drawn) e;exact this.symm.trans (k _ _)
 ·cases h
theorem adf{m m':Machine}{o:TimerOp}{v:Value}(h:timerOp m o=.ok (v,m')):m'.world.drawn=m.world.drawn:=by
 unfold timerOp at h;split at h
 ·split at h
  ·cases h;rfl
  ·split at h
   ·split at h
    ·cases h
    ·cases h;rfl
   ·cases h
 ·exact R9 h fun _ _=>R7 ..
 ·split at h
  ·rename_i e;exact(R9 h fun _ _=>(R7 ..).trans (by first|rfl|exact R8 e|exact(R8 e).symm))
  ·cases h
 ·cases h;rfl
theorem KB(p:Program)(gs:Array Goroutine)(rest:Rest)(w:World):mC w.drawn (look p gs rest w):=by
 unfold look;split
 ·dsimp only;split
  ·trivial
  ·split
   ·trivial
   ·split
    ·exact(jD ‹ahz p _ w=.ok _ _› :)
    ·trivial
    ·trivial
 ·trivial
theorem Sa{fr:Frame}{m:String}{w w':World}{g:Goroutine}{es:Array Event}(h:endThrow fr m w=.go g w' es):w'.drawn=w.drawn:=by
 unfold endThrow dieOf at h;cases h;rfl
theorem adg(p:Program)(m:Machine)(i:Nat)(l:Bool):mC m.world.drawn (runT p m i l).1:=by
 unfold runT;dsimp only;generalize m.gs.swapAt! i _=sw;have hs:=ac8 p (i==0) sw.1 m.world l;split;all_goals (rename_i heq;rw[heq]at hs)
 ·trivial
 ·exact mC.up hs (ac' ..)
 ·exact hs
 ·exact hs
 ·dsimp only;split
  ·trivial
  ·exact hs
 ·exact hs
 ·exact mC.up hs (KB ..)
 ·exact hs
 ·exact hs
 ·dsimp only;split
  ·exact hs
  ·split
   ·exact aic hs (aiu (Sa (by assumption)).symm)
   ·trivial
  ·trivial
 ·dsimp only;split
  ·rename_i h;exact aic hs (aiu (adf h).symm)
  ·split
   ·exact aic hs (aiu (Sa (by assumption)).symm)
   ·trivial
  ·trivial
  ·trivial
def nt(d:Nat):Move->Prop
 | .goroutine m _=>d<=m.world.drawn
 | .machine s _=>mC d s
theorem nt.up{d e:Nat}{s:Move}(h:d<=e)(k:nt e s):nt d s:=by cases s;exact aic h k;exact mC.up h k
theorem Cz{d:Nat}{c:Prop}[Decidable c]{a b:Move}(h:nt d a)(k:nt d b):nt d (if c then a else b):=by split<;>assumption
theorem KC(p : Program)(m : Machine)(rs : List Nat) : nt m.world.drawn (match (choose (.sched rs.length)).run p m.world with
      | .halt _ w => .machine (.ended (.stuck "sched" "") w)
      | .ok k world =>
        if rs.length <= 1 then .goroutine { m with world } (rs.getD k 0)else
        match (choose (.extern "sched.slice" 65536)).run p world with
        | .halt _ w => .machine (.ended (.stuck "sched.slice" "") w)
        | .ok n world => .goroutine { m with world, rest := { m.rest with slice := if n=0 then none else some (rs.getD k 0, n) } } (rs.getD k 0)) := by
 split
 ·trivial
 ·have e:=jD (by assumption);refine Cz e ?_;split
  ·trivial
  ·exact aic e (jD (by assumption))
theorem KD(p:Program)(m:Machine):nt m.world.drawn (askOn p m):=by
 unfold askOn;dsimp only;split
 ·trivial
 ·have e:=jD (by assumption);refine Cz (mC.up e (adb ..)) ?_;split
  ·split
   ·exact e
   ·refine Cz e ?_;split<;>trivial
  ·split
   ·exact nt.up e (KC p { m with world:=_ } _)
   ·split
    ·trivial
    ·exact nt.up (aic e (jD (by assumption))) (KC p { m with world:=_ } _)
    ·rename_i h;exact aic e (jD h :)
    ·rename_i h;exact nt.up (aic e (jD h :)) (KC p (Machine.advanceTo { m with world:=_ } _) _)
theorem Sb(p:Program)(m:Machine):nt m.world.drawn (ask p m):=by
 unfold ask;split
 ·split
  ·trivial
  ·have e:=jD (by assumption);split
   ·rename_i w1 _ _ _ h;have l:=KB p m.gs m.rest w1;rw[h]at l;exact nt.up (aic e l) (KD ..)
   ·exact mC.up e (KB ..)
  ·exact nt.up (jD (by assumption)) (KD p { m with world:=_ })
 ·exact KD ..
theorem adh(p:Program)(m:Machine):nt m.world.drawn (move p m):=by
 unfold move;split
 ·exact Cz (ahL _) trivial
 ·split
  ·exact Cz (ahL _) (Sb p { m with rest:=_ })
  ·exact Sb ..
theorem adi{p:Program}{m m':Machine}(h:step p m=.next m'):m.world.drawn<=m'.world.drawn:=by
 have k:=adh p m;unfold step stepT at h;split at h
 ·rename_i m1 i e;rw[e]at k;have r:=adg p m1 i true;rw[h]at r;exact aic k r
 ·rename_i e;rw[e]at k;dsimp only at h;rw[h]at k;exact k
theorem Sc{p:Program}:∀ {n:Nat} {m m':Machine},runN p n m=.next m'->m.world.drawn<=m'.world.drawn
 |0,m,m',h=>by cases h;exact ahL _
 |n+1,m,m',h=>by
  unfold runN at h;split at h
  ·exact aic (adi (by assumption)) (Sc h)
  ·rename_i k;exact absurd h (k _)
theorem Steps.drawn{p:Program}{m m':Machine}(h:Steps p m m'):m.world.drawn<=m'.world.drawn:=h.elim fun _=>Sc
theorem Calls.drawn{P:Program}{f:FuncId}{args:Array Value}{w:World}{R:Ending->World->Prop}(h:Calls P f args w R)(hr:∀ e w',R e w'->∃ v,e=.returned v):Calls P f args w fun e w'=>R e w'/\w.drawn<=w'.drawn:=by
 intro cs;obtain⟨e,w',fr,r,c,k⟩:=h cs;obtain⟨v,rfl⟩:=hr e w' r;exact⟨_,w',fr,⟨r,Steps.drawn (m:=lone _ cs w) (m':=lone fr cs w') c⟩,c,k⟩
end Go
end
section
namespace Go.Proofs.YtlhehdgciafakaaGreatDoor.P
open Go Go.az Go.RowKit
theorem FL{E:Env}{c:Cx}{t:Nat}{L:List DV}(hh:c.heap=[.cells [.own 1 0,.d (.int .i64 0),.d (.int .i8 0)],.arr 0 (t,1) L])(ho:aO E.G c)(hL:L≠[])(hc:∀ x∈L,x.cells=[x]){v0:Value}(hv:VR c (.ptr 0 0) v0) :
  ∃ (b jZ g uf:Nat) (T:TypeId) (bs:List Value),v0=.pointer (some ⟨b,0,none⟩)/\c.own 0=some (b,jZ)/\c.own 1=some (g,uf)/\bs.length=L.length/\fa T (fun _=>none) t b 0 g bs 0 c.w /\
   ∀ (j:Nat) (x:DV) (v:Value),L[j]?=some x->bs[j]?=some v->v.oneCell'=true/\VD c.bad c.w x v:=by
 have ki:c.heap[0]?=some (.cells [.own 1 0,.d (.int .i64 0),.d (.int .i8 0)]):=by rw[hh];rfl
 have oI:c.heap[1]?=some (.arr 0 (t,1) L):=by rw[hh];rfl
 obtain⟨b,jZ,vs,ty,k1,k2,k3,k4⟩:=ho.box 0 _ ki;obtain⟨a0,a1,a2,rfl⟩:∃ a0 a1 a2,vs = #[a0,a1,a2]:=by
  match vs,k3 with
  |⟨[x,y,z]⟩,_=>exact⟨x,y,z,rfl⟩
 have h0:=k4 0 _ a0 rfl rfl;have h1:=k4 1 _ a1 rfl rfl;have h2:=k4 2 _ a2 rfl rfl;obtain rfl:a1=.int .i64 0:=by cases h1 with|d _ _ h=>cases h;rfl
 obtain rfl:a2=.int .i8 0:=by cases h2 with|d _ _ h=>cases h;rfl
 rcases lu oI h0 with⟨g,cap,r1,rfl⟩|⟨lK,-,-⟩
 case inr=>exact absurd lK hL
 obtain⟨q0,q1,q2⟩:=ho.box 1 _ oI;rcases q2 with⟨q2,-⟩|⟨g',iV,us,q2,q3,q4,q5,q6,q7⟩
 ·rw[r1]at q2;cases q2
 rw[r1]at q2;cases q2;have aL:g≠b:=fun e=>by
  subst e;have:=ho.inj 0 1 g jZ cap k1 r1;cases this
 obtain rfl:v0=.pointer (some ⟨b,0,none⟩):=by
  cases hv with
  |ptr _ _ cs blk eN e1 e2=>rw[k1]at e2;cases e2;rfl
  |jK _ _ _ e1=>rw[ki]at e1;cases e1
 have hlen:us.toList.length=us.size:=Array.length_toList;simp only[amn]at q4 q7;refine⟨b,jZ,g,cap,ty,us.toList.take L.length,rfl,k1,r1,by rw[ah1,hlen];omega,⟨cap,us,?_,q3,?_,q6,q4,?_,aL⟩,fun j x v hx hv=>?_⟩
 ·have:=LibA.three_whole k2
  rwa [show(us.toList.take L.length).length+0=L.length by rw[ah1,hlen];omega]
 ·rw[ah1,hlen];omega
 ·rw[ah1,hlen,Nat.min_eq_left oM]
 ·obtain⟨u,e1,e2,e3⟩:=q7 j 0 x x hx (by rw[hc x (aiQ hx)];rfl);have hj:j<L.length:=aW hx;rw[ahS,if_pos hj]at hv;have:us[j]?=some v:=zD hv
  rw[ah3,this]at e1;cases e1;exact⟨e2,e3⟩
theorem FM{E:Env}{c:Cx}{t:Nat}{L M:List DV}{b jZ g uf:Nat}(hh:c.heap=[.cells [.own 1 0,.d (.int .i64 0),.d (.int .i8 0)],.arr 0 (t,1) L])(ho:aO E.G c)(hb:c.own 0=some (b,jZ))(hg:c.own 1=some (g,uf))
  {w':World} {T:TypeId} {g2:Nat} {bs:List Value} (hX:fa T (fun _=>none) t b 0 g2 bs 0 w') (hN:xV g g2 c.w) (hK:cD b (some g) c.w w') (hlen:bs.length=M.length) (hc:∀ x∈M,x.cells=[x])
  (hv:∀ (j:Nat) (x:DV) (v:Value),M[j]?=some x->bs[j]?=some v->v.oneCell'=true/\VD c.bad c.w x v) :
  ∃ c':Cx,c'.w=w'/\(c'.heap=[.cells [.own 1 1,.d (.int .i64 0),.d (.int .i8 0)],.arr 1 (t,1) M])/\aO E.G c'/\Rel c c':=by
 obtain⟨cap,cur,h1,h2,h3,h4,h5,h6,h7⟩:=hX;rw[hlen,ah3]at h1;rw[hlen,ah3]at h3;rw[hlen]at h6;obtain⟨cs,d1,d2,d3,d4,d5⟩:=h1;have bP:cs.size=3:=by
  rcases ahs 3 cs.size with h|h
  ·have:=d5 3 (Or.inr (ahL _));simp[h]at this
  ·have:=(ajS.1 d4).1;omega
 have Ld:∀ i n,2<=i->c.own i≠some n:=fun i n hi h=>by have:=(ho.bD i n.1 n.2 h).2;rw[hh]at this;simp at this;omega
 let c':Cx:={ own:=fun i=>if i=1 then some (g2,cap)else c.own i,heap:=[.cells [.own 1 1,.d (.int .i64 0),.d (.int .i8 0)],.arr 1 (t,1) M],aD:=c.aD,w:=w' }
 have bN:∀ i n m,c.own i=some (n,m)->i=0/\n=b/\m=jZ\/i=1/\n=g/\m=uf:=fun i n m hi=>by
  match i with
  |0=>rw[hb]at hi;cases hi;exact .inl ⟨rfl,rfl,rfl⟩
  |1=>rw[hg]at hi;cases hi;exact .inr ⟨rfl,rfl,rfl⟩
  |i+2=>exact absurd hi (Ld _ _ oM)
 have ug:∀ i n m,c'.own i=some (n,m)->i=0/\n=b/\m=jZ\/i=1/\n=g2/\m=cap:=fun i n m hi=>by
  simp only[c']at hi;split at hi
  ·rename_i he;cases hi;exact .inr ⟨he,rfl,rfl⟩
  ·rcases bN i n m hi with h|⟨h,-⟩
   ·exact .inl h
   ·contradiction
 have bW:∀ i bx,c.heap[i]?=some bx->i=0/\bx=.cells [.own 1 0,.d (.int .i64 0),.d (.int .i8 0)]\/i=1/\bx=.arr 0 (t,1) L:=fun i bx hi=>by
  rw[hh]at hi
  match i,hi with
  |0,hi=>cases hi;exact .inl ⟨rfl,rfl⟩
  |1,hi=>cases hi;exact .inr ⟨rfl,rfl⟩
 have nF:∀ k,k<c.w.heap.size->(∀ i n,c.own i≠some (k,n))->w'.heap[k]?=c.w.heap[k]? := fun k hk hn=>hK.keep k hk (fun e=>hn 0 jZ (by rw[e];exact hb)) (fun e=>hn 1 uf (by cases e;exact hg));have eK:∀ i n m,c'.own i=some (n,m)->n<c.w.heap.size->∃ m',c.own i=some (n,m'):=fun i n m hi ai=>by
  rcases ug i n m hi with⟨rfl,rfl,rfl⟩|⟨rfl,rfl,rfl⟩
  ·exact⟨_,hb⟩
  ·rcases hN with rfl|hN
   ·exact⟨_,hg⟩
   ·omega
 have bc:az.Step c c':=⟨rfl,ho.bV,hK.os,hK.tape,hK.output,hK.size,nF,eK,fun i bx hi=>by
  rcases bW i bx hi with⟨rfl,rfl⟩|⟨rfl,rfl⟩
  ·exact .inl ⟨_,rfl,rfl,rfl⟩
  ·exact .inl ⟨1,M,rfl,.inl dC⟩⟩
 have Le:VR c' (.own 1 1) (.slice (some ⟨g2,0,none⟩) M.length cap) := .own 1 1 (t,1) M g2 cap rfl rfl
 have aV:aO E.G c':=ho.next bc (fun i n m hi=>by
   rcases ug i n m hi with⟨rfl,rfl,-⟩|⟨rfl,rfl,-⟩
   ·exact⟨Lib.lt_of_heap d1,by show _<2;omega⟩
   ·exact⟨Lib.lt_of_heap h2,by show _<2;omega⟩) (fun i j n m k hi hj=>by
   rcases ug i n m hi with⟨rfl,e1,-⟩|⟨rfl,e1,-⟩<;>rcases ug j n k hj with⟨rfl,e2,-⟩|⟨rfl,e2,-⟩
   ·rfl
   ·exact absurd (e2.symm.trans e1) h7
   ·exact absurd (e1.symm.trans e2) h7
   ·rfl) (fun i bx hi=>by
  right
  match i,hi with
  |0,hi =>
   cases hi;refine⟨b,jZ,cs,T,hb,d1,bP,fun j x v hx hv=>?_⟩
   match j,hx with
   |0,hx=>cases hx;rw[show cs[0]?=_ from d2]at hv;cases hv;exact Le
   |1,hx=>cases hx;rw[show cs[1]?=_ from d3]at hv;cases hv;exact .d _ _ (.int ..)
   |2,hx=>cases hx;rw[show cs[2]?=_ from d4]at hv;cases hv;exact .d _ _ (.int ..)
  |1,hi =>
   cases hi;refine⟨Nat.one_pos,fun i e he=>by rw[hc e (aiQ he)];rfl,.inr ⟨g2,cap,cur,rfl,h2,by rw[amn];exact h5,h3,h4,fun i j e x he hx=>?_⟩⟩;rw[hc e (aiQ he)]at hx;obtain⟨rfl,rfl⟩:j=0/\x=e:=by
    match j,hx with
    |0,hx=>cases hx;exact⟨rfl,rfl⟩
   have cu:i<M.length:=aW he;have SR:bs[i]?=some (bs[i]' oM):=aiX _;obtain⟨e1,e2⟩:=hv i x _ he SR;refine⟨bs[i]' oM,?_,e1,bc.vd e2⟩;have h8:(cur.toList.take M.length)[i]?=some (bs[i]' oM):=by rw[h6];exact SR
   rw[ahS,if_pos cu]at h8
   simpa using h8)
 refine⟨c',rfl,rfl,aV,⟨rfl,hK.os,hK.tape,hK.output,hK.size,nF,eK,fun i bx hi=>?_⟩⟩;rcases bW i bx hi with⟨rfl,rfl⟩|⟨rfl,rfl⟩
 ·exact .inl ⟨_,rfl,rfl,rfl⟩
 ·exact .inl ⟨1,M,rfl,.inl dC⟩
theorem Lf{c:Cx}{L M:List DV}{bs cs:List Value}(h:∀ (j:Nat) (x:DV) (v:Value),L[j]?=some x->bs[j]?=some v->v.oneCell'=true/\VD c.bad c.w x v)(hl:bs.length=L.length)
  (k:∀ (j:Nat) (x:DV) (v:Value),M[j]?=some x->cs[j]?=some v->v.oneCell'=true/\VD c.bad c.w x v) :
  ∀ (j:Nat) (x:DV) (v:Value),(L++M)[j]?=some x->(bs++cs)[j]?=some v->v.oneCell'=true/\VD c.bad c.w x v:=fun j x v hx hv=>by
 rcases ahs j L.length with hj|hj
 ·rw[ahT hj]at hx;rw[ahT oM]at hv;exact h j x v hx hv
 ·rw[aiH hj]at hx;rw[aiH oM,hl]at hv;exact k _ x v hx hv
def SS(P:Program)(f:FuncId)(t:TypeId):Prop:=∀ (T:TypeId) (R:Nat->Option Value) (b q g:Nat) (bs:List Value) (c:Int) (w:World),fa T R t b q g bs 0 w->¬ bs.length=0->(∀ v∈bs,v.oneCell'=true)->bs.length+1<=140737488355328 ->
 Calls P f #[.pointer (some ⟨b,q,none⟩),.int .u8 c] w fun e w'=>e=.returned .nilIface/\∃ g2,xV g g2 w/\fa T R t b q g2 (bs++[.int .u8 c]) 0 w'/\cD b (some g) w w'
theorem aeV{E:Env}{f:FuncId}{t:Nat}(hS:SS E.P f t)(fJ:mc E.P f){L:List DV}{n:Int}(hL:L≠[])(hc:∀ x∈L,x.cells=[x])(sx:L.length+1<=140737488355328) :
  au E f [.cells [.own 1 0,.d (.int .i64 0),.d (.int .i8 0)],.arr 0 (t,1) L] [.ptr 0 0,.d (.int .u8 n)] (fun a h=>a=.d .fD/\h=[.cells [.own 1 1,.d (.int .i64 0),.d (.int .i8 0)],.arr 1 (t,1) (L++[.int .u8 n])]):=by
 unfold au;refine⟨fJ,kR rfl,fun c vs h1 h2 h3=>?_⟩;obtain⟨v1,v2,rfl⟩:∃ v1 v2,vs=[v1,v2]:=by
  have:=h3.1
  match vs,this with
  |[a,b],_=>exact⟨a,b,rfl⟩
 have js:=h3.2 0 _ v1 rfl rfl;have mj:=h3.2 1 _ v2 rfl rfl;obtain rfl:v2=.int .u8 n:=by cases mj with|d _ _ h=>cases h;rfl
 obtain⟨b,jZ,g,uf,T,bs,rfl,k1,k2,k3,k4,k5⟩:=FL h1 h2 hL hc js;have aL:¬ bs.length=0:=by rw[k3];exact fun h=>hL (ahM h)
 have bJ:∀ j v,bs[j]?=some v->∃ x,L[j]?=some x:=fun j v hj=>⟨L[j]'(by have:=aW hj;omega),aiX _⟩
 refine(hS T _ b 0 g bs n c.w k4 aL (fun v hv=>by
  obtain⟨j,hj⟩:=aiN hv;obtain⟨x,hx⟩:=bJ j v hj
  exact(k5 j x v hx hj).1) oM).mono fun e w' ⟨e1,g2,e2,e3,e4⟩=>?_
 obtain⟨c',q1,q2,q3,q4⟩:=FM (M:=L++[.int .u8 n]) h1 h2 k1 k2 e3 e2 e4 (by simp[k3]) (fun x hx=>(aif.1 hx).elim (hc x) fun h=>by rw[alI.1 h];rfl) (Lf k5 k3 fun j x v hx hv=>by
  match j,hx,hv with
  |0,hx,hv=>cases hx;cases hv;exact⟨rfl,.int ..⟩
  |k+1,hx,hv=>cases hx)
 exact⟨c',.d .fD,.nilIface,e1,q1,⟨rfl,q2⟩,.d _ _ .fD,q3,q4⟩
def SU(P:Program)(f:FuncId)(t:TypeId):Prop:=∀ (T:TypeId) (R:Nat->Option Value) (b q g:Nat) (bs:List Value) (s:ByteArray) (w:World),fa T R t b q g bs 0 w->¬ bs.length=0->¬ s.size=0->(∀ v∈bs,v.oneCell'=true)->bs.length+s.size<=140737488355328 ->
 Calls P f #[.pointer (some ⟨b,q,none⟩),.string s] w fun e w'=>e=.returned (.tuple #[.int .i64 s.size,.nilIface])/\∃ g2,xV g g2 w/\fa T R t b q g2 (bs++Lib.byteCells s.data.toList) 0 w'/\cD b (some g) w w'
theorem aeW{E:Env}{f:FuncId}{t:Nat}(hS:SU E.P f t)(fJ:mc E.P f){L:List DV}{s:List UInt8}(hL:L≠[])(hs:s≠[])(hc:∀ x∈L,x.cells=[x])(sx:L.length+s.length<=140737488355328) :
  au E f [.cells [.own 1 0,.d (.int .i64 0),.d (.int .i8 0)],.arr 0 (t,1) L] [.ptr 0 0,.d (.str s)] (fun a h=>a=.aG [.d (.int .i64 s.length),.d .fD]/\h=[.cells [.own 1 1,.d (.int .i64 0),.d (.int .i8 0)],.arr 1 (t,1) (L++s.map fun x => .int .u8 x.toNat)]):=by
 unfold au;refine⟨fJ,kR rfl,fun c vs h1 h2 h3=>?_⟩;obtain⟨v1,v2,rfl⟩:∃ v1 v2,vs=[v1,v2]:=by
  have:=h3.1
  match vs,this with
  |[a,b],_=>exact⟨a,b,rfl⟩
 have js:=h3.2 0 _ v1 rfl rfl;have mj:=h3.2 1 _ v2 rfl rfl;obtain rfl:v2=.string ⟨s.toArray⟩:=by cases mj with|d _ _ h=>cases h;rfl
 obtain⟨b,jZ,g,uf,T,bs,rfl,k1,k2,k3,k4,k5⟩:=FL h1 h2 hL hc js;have aL:¬ bs.length=0:=by rw[k3];exact fun h=>hL (ahM h)
 have bP:(⟨s.toArray⟩:ByteArray).size=s.length:=by simp[ByteArray.size]
 refine(hS T _ b 0 g bs ⟨s.toArray⟩ c.w k4 aL (by rw[bP];exact fun h=>hs (ahM h)) (fun v hv=>by
  obtain⟨j,hj⟩:=aiN hv
  exact(k5 j _ v (aiX (by have:=aW hj;omega)) hj).1) (by rw[bP];omega)).mono fun e w' ⟨e1,g2,e2,e3,e4⟩=>?_
 have e0:Lib.byteCells (⟨s.toArray⟩:ByteArray).data.toList=s.map fun x => .int .u8 x.toNat:=rfl;rw[e0]at e3
 obtain⟨c',q1,q2,q3,q4⟩:=FM (M:=L++s.map fun x => .int .u8 x.toNat) h1 h2 k1 k2 e3 e2 e4 (by simp[k3]) (fun x hx=>(aif.1 hx).elim (hc x) fun h=>by obtain⟨y,-,rfl⟩:=ahY.1 h;rfl) (Lf k5 k3 fun j x v hx hv=>by
  rw[ahy]at hx hv;cases hq:s[j]? with
  |none=>rw[hq]at hx;cases hx
  |some y=>rw[hq]at hx hv;cases hx;cases hv;exact⟨rfl,.int ..⟩)
 refine⟨c',.aG [.d (.int .i64 s.length),.d .fD],.tuple #[.int .i64 s.length,.nilIface],by rw[e1,bP],q1,⟨rfl,q2⟩,.aG _ _ rfl (fun j x v hx hv=>?_),q3,q4⟩
 match j,hx,hv with
 |0,hx,hv=>cases hx;cases hv;exact .d _ _ (.int ..)
 |1,hx,hv=>cases hx;cases hv;exact .d _ _ .fD
def SV(P:Program)(f:FuncId)(t:TypeId):Prop:=∀ (T:TypeId) (R:Nat->Option Value) (b q g:Nat) (bs cs:List Value) (a:Addr) (n c:Nat) (w:World),fa T R t b q g bs 0 w->¬ bs.length=0->¬ n=0->(∀ v∈bs,v.oneCell'=true) ->
 cs.length=n->a.block≠b->(∀ j v,cs[j]?=some v->w.cell? (a.add j)=some v)->(∀ v∈cs,v.oneCell'=true)->bs.length+n<=140737488355328 ->
 Calls P f #[.pointer (some ⟨b,q,none⟩),.slice (some a) n c] w fun e w'=>e=.returned (.tuple #[.int .i64 n,.nilIface])/\∃ g2,xV g g2 w/\fa T R t b q g2 (bs++cs) 0 w'/\cD b (some g) w w'
theorem aeX{E:Env}{f:FuncId}{t:Nat}(hS:SV E.P f t)(fJ:mc E.P f){L M:List DV}(hL:L≠[])(hM:M≠[])(hc:∀ x∈L,x.cells=[x])(CG:∀ x∈M,x.cells=[x])(sx:L.length+M.length<=140737488355328) :
  au E f [.cells [.own 1 0,.d (.int .i64 0),.d (.int .i8 0)],.arr 0 (t,1) L] [.ptr 0 0,.d (.sl M)] (fun a h=>a=.aG [.d (.int .i64 M.length),.d .fD]/\h=[.cells [.own 1 1,.d (.int .i64 0),.d (.int .i8 0)],.arr 1 (t,1) (L++M)]):=by
 unfold au;refine⟨fJ,kR rfl,fun c vs h1 h2 h3=>?_⟩;obtain⟨v1,v2,rfl⟩:∃ v1 v2,vs=[v1,v2]:=by
  have:=h3.1
  match vs,this with
  |[a,b],_=>exact⟨a,b,rfl⟩
 have js:=h3.2 0 _ v1 rfl rfl;have mj:=h3.2 1 _ v2 rfl rfl;obtain⟨b,jZ,g,uf,T,bs,rfl,k1,k2,k3,k4,k5⟩:=FL h1 h2 hL hc js;have aL:¬ bs.length=0:=by rw[k3];exact fun h=>hL (ahM h)
 cases mj with|d _ _ hd=>?_;cases hd with
 |slnil=>exact absurd rfl hM
 |l6 a=>exact absurd rfl hM
 |sl _ blk off cap sz f hb bP kI hlen dQ bJ bW=>?_
 have aeY:sz=1:=by
  obtain⟨e,r,rfl⟩:=List.exists_cons_of_ne_nil hM;rw[<- hlen 0 e rfl,CG e (List.mem_cons_self ..)];rfl
 subst aeY;have eE:∀ (i:Nat) (e:DV),M[i]?=some e->e.cells[0]?=some e:=fun i e he=>by rw[CG e (aiQ he)];rfl
 have ew:∀ (j:Nat) (v:Value),((ais M.length).map fun i=>f i 0)[j]?=some v->∃ e,M[j]?=some e/\v=f j 0:=fun j v hv=>by
  rw[ahy]at hv;cases hq:(ais M.length)[j]? with
  |none=>rw[hq]at hv;cases hv
  |some y =>
   have ai:j<M.length:=by have:=aW hq;simpa using this
   rw[anD ai]at hq;cases hq;rw[anD ai]at hv;cases hv;exact⟨_,aiX ai,rfl⟩
 refine(hS T _ b 0 g bs ((ais M.length).map fun i=>f i 0) ⟨blk,off,none⟩ M.length cap c.w k4 aL (fun h=>hM (ahM h)) (fun v hv=>by
  obtain⟨j,hj⟩:=aiN hv;exact(k5 j _ v (aiX (by have:=aW hj;omega)) hj).1) sP (fun e=>by cases e;exact hb hM (.inr ⟨0,jZ,k1⟩)) (fun j v hv=>by
  obtain⟨e,he,rfl⟩:=ew j v hv;have:=dQ j 0 e e he (eE j e he);rw[Lib.addr_add]
  simpa using this) (fun v hv=>by
  obtain⟨j,hj⟩:=aiN hv;obtain⟨e,he,rfl⟩:=ew j v hj
  exact bW j 0 e e he (eE j e he)) oM).mono fun e w' ⟨e1,g2,e2,e3,e4⟩=>?_
 obtain⟨c',q1,q2,q3,q4⟩:=FM (M:=L++M) h1 h2 k1 k2 e3 e2 e4 (by simp[k3]) (fun x hx=>(aif.1 hx).elim (hc x) (CG x)) (Lf k5 k3 fun j x v hx hv=>by
  obtain⟨e,he,rfl⟩:=ew j v hv;rw[hx]at he;cases he
  exact⟨bW j 0 x x hx (eE j x hx),bJ j 0 x x hx (eE j x hx)⟩)
 refine⟨c',.aG [.d (.int .i64 M.length),.d .fD],.tuple #[.int .i64 M.length,.nilIface],e1,q1,⟨rfl,q2⟩,.aG _ _ rfl (fun j x v hx hv=>?_),q3,q4⟩
 match j,hx,hv with
 |0,hx,hv=>cases hx;cases hv;exact .d _ _ (.int ..)
 |1,hx,hv=>cases hx;cases hv;exact .d _ _ .fD
def SX(P:Program)(f:FuncId)(t:TypeId):Prop:=∀ (T:TypeId) (R:Nat->Option Value) (b q:Nat) (c:Int) (w:World),LibA.Three w b q T R (.slice none 0 0) (.int .i64 0) (.int .i8 0) ->
 Calls P f #[.pointer (some ⟨b,q,none⟩),.int .u8 c] w fun e w'=>e=.returned .nilIface/\∃ g2,w.heap.size<=g2/\fa T R t b q g2 [.int .u8 c] 0 w'/\cD b none w w'
theorem aeZ{E:Env}{f:FuncId}{t:Nat}(hS:SX E.P f t)(fJ:mc E.P f){n:Int} :
  au E f [.cells [.d .aF,.d (.int .i64 0),.d (.int .i8 0)]] [.ptr 0 0,.d (.int .u8 n)] (fun a h=>a=.d .fD/\h=[.cells [.own 1 0,.d (.int .i64 0),.d (.int .i8 0)],.arr 0 (t,1) [.int .u8 n]]):=by
 unfold au;refine⟨fJ,kR rfl,fun c vs hh ho h3=>?_⟩;obtain⟨v1,v2,rfl⟩:∃ v1 v2,vs=[v1,v2]:=by
  have:=h3.1
  match vs,this with
  |[a,b],_=>exact⟨a,b,rfl⟩
 have js:=h3.2 0 _ v1 rfl rfl;have mj:=h3.2 1 _ v2 rfl rfl;obtain rfl:v2=.int .u8 n:=by cases mj with|d _ _ h=>cases h;rfl
 have ki:c.heap[0]?=some (.cells [.d .aF,.d (.int .i64 0),.d (.int .i8 0)]):=by rw[hh];rfl
 obtain⟨b,jZ,vs,ty,k1,k2,k3,k4⟩:=ho.box 0 _ ki;obtain⟨a0,a1,a2,rfl⟩:∃ a0 a1 a2,vs = #[a0,a1,a2]:=by
  match vs,k3 with
  |⟨[x,y,z]⟩,_=>exact⟨x,y,z,rfl⟩
 have h0:=k4 0 _ a0 rfl rfl;have h1:=k4 1 _ a1 rfl rfl;have h2:=k4 2 _ a2 rfl rfl;obtain rfl:a0=.slice none 0 0:=by cases h0 with|d _ _ h=>cases h;rfl
 obtain rfl:a1=.int .i64 0:=by cases h1 with|d _ _ h=>cases h;rfl
 obtain rfl:a2=.int .i8 0:=by cases h2 with|d _ _ h=>cases h;rfl
 obtain rfl:v1=.pointer (some ⟨b,0,none⟩):=by
  cases js with
  |ptr _ _ cs blk eN e1 e2=>rw[k1]at e2;cases e2;rfl
  |jK _ _ _ e1=>rw[ki]at e1;cases e1
 refine(hS ty _ b 0 n c.w (LibA.three_whole k2)).mono fun e w' ⟨e1,g2,e2,hX,hK⟩=>?_;obtain⟨cap,cur,d0,d2,d3,d4,d5,d6,d7⟩:=hX;obtain⟨cs,f1,f2,f3,f4,f5⟩:=d0;have bP:cs.size=3:=by
  rcases ahs 3 cs.size with h|h
  ·have:=f5 3 (Or.inr (ahL _));simp[h]at this
  ·have:=(ajS.1 f4).1;omega
 have WB:=(ho.bD 0 b jZ k1).1;have Ld:∀ i n,1<=i->c.own i≠some n:=fun i n hi h=>by have:=(ho.bD i n.1 n.2 h).2;rw[hh]at this;simp at this;omega
 let c':Cx:={ own:=fun i=>if i=1 then some (g2,cap)else c.own i,heap:=[.cells [.own 1 0,.d (.int .i64 0),.d (.int .i8 0)],.arr 0 (t,1) [.int .u8 n]],aD:=c.aD,w:=w' }
 have ug:∀ i n m,c'.own i=some (n,m)->i=0/\n=b/\m=jZ\/i=1/\n=g2/\m=cap:=fun i n m hi=>by
  simp only[c']at hi;split at hi
  ·rename_i he;cases hi;exact .inr ⟨he,rfl,rfl⟩
  ·match i with
   |0=>rw[k1]at hi;cases hi;exact .inl ⟨rfl,rfl,rfl⟩
   |i+1=>exact absurd hi (Ld _ _ oM)
 have bW:∀ i bx,c.heap[i]?=some bx->i=0/\bx=.cells [.d .aF,.d (.int .i64 0),.d (.int .i8 0)]:=fun i bx hi=>by
  rw[hh]at hi
  match i,hi with
  |0,hi=>cases hi;exact⟨rfl,rfl⟩
 have nF:∀ k,k<c.w.heap.size->(∀ i n,c.own i≠some (k,n))->w'.heap[k]?=c.w.heap[k]? := fun k hk hn=>hK.keep k hk (fun e=>hn 0 jZ (by rw[e];exact k1)) sP;have eK:∀ i n m,c'.own i=some (n,m)->n<c.w.heap.size->∃ m',c.own i=some (n,m'):=fun i n m hi ai=>by
  rcases ug i n m hi with⟨rfl,rfl,rfl⟩|⟨rfl,rfl,rfl⟩
  ·exact⟨_,k1⟩
  ·omega
 have bc:az.Step c c':=⟨rfl,ho.bV,hK.os,hK.tape,hK.output,hK.size,nF,eK,fun i bx hi=>by
  obtain⟨rfl,rfl⟩:=bW i bx hi
  exact .inl ⟨_,rfl,rfl,rfl⟩⟩
 have Le:VR c' (.own 1 0) (.slice (some ⟨g2,0,none⟩) 1 cap) := .own 1 0 (t,1) [.int .u8 n] g2 cap rfl rfl
 have aV:aO E.G c':=ho.next bc (fun i n m hi=>by
   rcases ug i n m hi with⟨rfl,rfl,-⟩|⟨rfl,rfl,-⟩
   ·exact⟨Lib.lt_of_heap f1,by show _<2;omega⟩
   ·exact⟨Lib.lt_of_heap d2,by show _<2;omega⟩) (fun i j n m k hi hj=>by
   rcases ug i n m hi with⟨rfl,e1,-⟩|⟨rfl,e1,-⟩<;>rcases ug j n k hj with⟨rfl,e2,-⟩|⟨rfl,e2,-⟩
   ·rfl
   ·exact absurd (e2.symm.trans e1) d7
   ·exact absurd (e1.symm.trans e2) d7
   ·rfl) (fun i bx hi=>by
  right
  match i,hi with
  |0,hi =>
   cases hi;refine⟨b,jZ,cs,ty,k1,f1,bP,fun j x v hx hv=>?_⟩
   match j,hx with
   |0,hx=>cases hx;rw[show cs[0]?=_ from f2]at hv;cases hv;exact Le
   |1,hx=>cases hx;rw[show cs[1]?=_ from f3]at hv;cases hv;exact .d _ _ (.int ..)
   |2,hx=>cases hx;rw[show cs[2]?=_ from f4]at hv;cases hv;exact .d _ _ (.int ..)
  |1,hi =>
   cases hi;refine⟨Nat.one_pos,fun i e he=>by rw[alI.1 (aiQ he)];rfl,.inr ⟨g2,cap,cur,rfl,d2,by rw[amn];exact d5,d3,d4,fun i j e x he hx=>?_⟩⟩
   match i,he with
   |0,he =>
    cases he
    match j,hx with
    |0,hx =>
     cases hx;refine⟨.int .u8 n,?_,rfl,.int ..⟩;have h8:(cur.toList.take 1)[0]?=some (.int .u8 n):=by rw[show cur.toList.take 1=_ from d6];rfl
     simpa using h8)
 refine⟨c',.d .fD,.nilIface,e1,rfl,⟨rfl,rfl⟩,.d _ _ .fD,aV,⟨rfl,hK.os,hK.tape,hK.output,hK.size,nF,eK,fun i bx hi=>?_⟩⟩;obtain⟨rfl,rfl⟩:=bW i bx hi;exact .inl ⟨_,rfl,rfl,rfl⟩
def SY(P:Program)(f:FuncId)(t:TypeId):Prop:=∀ (T:TypeId) (R:Nat->Option Value) (b q g:Nat) (bs:List Value) (s:ByteArray) (w:World),fa T R t b q g bs 0 w->s.size=0 ->
 Calls P f #[.pointer (some ⟨b,q,none⟩),.string s] w fun e w'=>e=.returned (.tuple #[.int .i64 0,.nilIface])/\fa T R t b q g bs 0 w'/\cD b (some g) w w'
theorem ae0{E:Env}{f:FuncId}{t:Nat}(hS:SY E.P f t)(fJ:mc E.P f){L:List DV}(hL:L≠[])(hc:∀ x∈L,x.cells=[x]) :
  au E f [.cells [.own 1 0,.d (.int .i64 0),.d (.int .i8 0)],.arr 0 (t,1) L] [.ptr 0 0,.d (.str [])] (fun a h=>a=.aG [.d (.int .i64 0),.d .fD]/\h=[.cells [.own 1 1,.d (.int .i64 0),.d (.int .i8 0)],.arr 1 (t,1) L]):=by
 unfold au;refine⟨fJ,kR rfl,fun c vs h1 h2 h3=>?_⟩;obtain⟨v1,v2,rfl⟩:∃ v1 v2,vs=[v1,v2]:=by
  have:=h3.1
  match vs,this with
  |[a,b],_=>exact⟨a,b,rfl⟩
 have js:=h3.2 0 _ v1 rfl rfl;have mj:=h3.2 1 _ v2 rfl rfl;obtain rfl:v2=.string ⟨([]:List UInt8).toArray⟩:=by cases mj with|d _ _ h=>cases h;rfl
 obtain⟨b,jZ,g,uf,T,bs,rfl,k1,k2,k3,k4,k5⟩:=FL h1 h2 hL hc js;refine(hS T _ b 0 g bs ⟨([]:List UInt8).toArray⟩ c.w k4 rfl).mono fun e w' ⟨e1,e3,e4⟩=>?_;obtain⟨c',q1,q2,q3,q4⟩:=FM (M:=L) h1 h2 k1 k2 e3 (.inl rfl) e4 k3 hc k5;refine⟨c',.aG [.d (.int .i64 0),.d .fD],.tuple #[.int .i64 0,.nilIface],e1,q1,⟨rfl,q2⟩,.aG _ _ rfl (fun j x v hx hv=>?_),q3,q4⟩
 match j,hx,hv with
 |0,hx,hv=>cases hx;cases hv;exact .d _ _ (.int ..)
 |1,hx,hv=>cases hx;cases hv;exact .d _ _ .fD
end Go.Proofs.YtlhehdgciafakaaGreatDoor.P
end
section
namespace Go.Proofs.YtlhehdgciafakaaGreatDoor.P
open Go Go.az
set_option maxRecDepth 100000
set_option maxHeartbeats 4000000
theorem ae5:SX Tryz.prog 185 5:=aeT Tryz.S0
theorem ae6:SS Tryz.prog 185 5:=aeO Tryz.S0
theorem ae7:SU Tryz.prog 257 5:=aeP Tryz.SZ
theorem ae8:SY Tryz.prog 257 5:=aeU Tryz.SZ
theorem ae9:SV Tryz.prog 256 5:=aeQ Tryz.ae4
theorem vP{G:List (Nat × DV)}{s:List AV}{x:Operand}{ds:List DV}(h:bk G s x (.d (.agg ds))):bk G s x (.agg (ds.map .d)):=fun c ac h3 h4=>by
 have hv:=h c ac h3 h4;generalize ac.eval x=p at hv ⊢;cases hv with
 |d _ _ hd =>
  cases hd with
  |agg _ vs hlen bJ =>
   refine .agg _ vs (zD hlen) fun j y v hy hv=>?_;rw[ahy]at hy;cases hq:ds[j]? with
   |none=>rw[hq]at hy;cases hy
   |some z=>rw[hq]at hy;cases hy;exact .d _ _ (bJ j z v hq hv)
def fQ(L:List DV):Prop:=L≠[]/\∀ x∈L,isByte x
theorem fQ.more{L M:List DV}(h:fQ L)(k:∀ x∈M,isByte x):fQ (L++M):=⟨by simp[h.1],fun x hx=>(aif.1 hx).elim (h.2 x) (k x)⟩
theorem fQ.cells{L:List DV}(h:fQ L):∀ x∈L,x.cells=[x]:=fun x hx=>by obtain⟨n,rfl⟩:=h.2 x hx;rfl
theorem p0(n:Int):∀ x∈[DV.int .u8 n],isByte x:=fun x hx=>⟨n,alI.1 hx⟩
def pc(n:Int):List DV:=[56,48,40,32,24,16,8,0].map fun k => .int .u8 (IntKind.u8.wrap (mT .shr .u64 n k))
def jH(n:Int):List DV:=[24,16,8,0].map fun k => .int .u8 (IntKind.u8.wrap (mT .shr .i64 n k))
theorem ae'(n:Int){k:Nat}(h:k<8):(pc n).take k++[.int .u8 (IntKind.u8.wrap (mT .shr .u64 n (56-8*(k:Int)).toNat))]=(pc n).take (k+1):=by
 match k,h with
 |0,_=>rfl
 |1,_=>rfl
 |2,_=>rfl
 |3,_=>rfl
 |4,_=>rfl
 |5,_=>rfl
 |6,_=>rfl
 |7,_=>rfl
theorem afa(n:Int){k:Nat}(h:k<4):(jH n).take k++[.int .u8 (IntKind.u8.wrap (mT .shr .i64 n (24-8*(k:Int)).toNat))]=(jH n).take (k+1):=by
 match k,h with
 |0,_=>rfl
 |1,_=>rfl
 |2,_=>rfl
 |3,_=>rfl
theorem Lg(n:Int):∀ x∈pc n,isByte x:=fun x hx=>by obtain⟨k,-,rfl⟩:=ahY.1 hx;exact⟨_,rfl⟩
theorem ot(n:Int):∀ x∈jH n,isByte x:=fun x hx=>by obtain⟨k,-,rfl⟩:=ahY.1 hx;exact⟨_,rfl⟩
theorem S1:mc E.P 185:=⟨_,Tryz.func185,by rfl,by decide⟩
theorem S2:mc E.P 257:=⟨_,Tryz.func257,by rfl,by decide⟩
theorem afb:mc E.P 256:=⟨_,Tryz.func256,by rfl,by decide⟩
theorem Lh(n:Int){L:List DV}(hL:fQ L)(hl:L.length+1<=140737488355328) :
  au E 185 [.cells [.own 1 0,.d (.int .i64 0),.d (.int .i8 0)],.arr 0 (5,1) L] [.ptr 0 0,.d (.int .u8 n)] (fun a h=>a=.d .fD/\h=[.cells [.own 1 1,.d (.int .i64 0),.d (.int .i8 0)],.arr 1 (5,1) (L++[.int .u8 n])]) :=
 aeV ae6 S1 hL.1 hL.cells hl
theorem afc(n:Int) :
  au E 185 [.cells [.d .aF,.d (.int .i64 0),.d (.int .i8 0)]] [.ptr 0 0,.d (.int .u8 n)] (fun a h=>a=.d .fD/\h=[.cells [.own 1 0,.d (.int .i64 0),.d (.int .i8 0)],.arr 0 (5,1) ([.int .u8 n])]) :=
 aeZ ae5 S1
theorem S3{L:List DV}(hL:fQ L) :
  au E 257 [.cells [.own 1 0,.d (.int .i64 0),.d (.int .i8 0)],.arr 0 (5,1) L] [.ptr 0 0,.d (.str [])] (fun a h=>a=.aG [.d (.int .i64 0),.d .fD]/\h=[.cells [.own 1 1,.d (.int .i64 0),.d (.int .i8 0)],.arr 1 (5,1) L]) :=
 ae0 ae8 S2 hL.1 hL.cells
theorem S4(s:Text){L:List DV}(hL:fQ L)(hs:s≠[])(hl:L.length+s.length<=140737488355328) :
  au E 257 [.cells [.own 1 0,.d (.int .i64 0),.d (.int .i8 0)],.arr 0 (5,1) L] [.ptr 0 0,.d (.str s)] (fun a h=>a=.aG [.d (.int .i64 s.length),.d .fD]/\h=[.cells [.own 1 1,.d (.int .i64 0),.d (.int .i8 0)],.arr 1 (5,1) (L++s.map me)]) :=
 aeW ae7 S2 hL.1 hs hL.cells hl
theorem afd(M:List DV){L:List DV}(hL:fQ L)(hM:fQ M)(hl:L.length+M.length<=140737488355328) :
  au E 256 [.cells [.own 1 0,.d (.int .i64 0),.d (.int .i8 0)],.arr 0 (5,1) L] [.ptr 0 0,.d (.sl M)] (fun a h=>a=.aG [.d (.int .i64 M.length),.d .fD]/\h=[.cells [.own 1 1,.d (.int .i64 0),.d (.int .i8 0)],.arr 1 (5,1) (L++M)]) :=
 aeX ae9 afb hL.1 hM.1 hL.cells hM.cells hl
theorem FO(n:Int)(L:List DV)(hL:fQ L)(hl:L.length+8<=140737488355328):au E 106 [.cells [.own 1 0,.d (.int .i64 0),.d (.int .i8 0)],.arr 0 (5,1) L] [.ptr 0 0,.d (.int .u64 n)] (fun a b=>a=.aG []/\b=[.cells [.own 1 1,.d (.int .i64 0),.d (.int .i8 0)],.arr 1 (5,1) (L++pc n)]):=by
 refine aE ?_;refine I.lP 8 (rg 4 13) (fun k=>[(4,.d (.int .i64 (56-8*(k:Int))))]) (fun k=>[(0,.cells [.own 1 1,.d (.int .i64 0),.d (.int .i8 0)]),(1,.arr 1 (5,1) (L++(pc n).take k))]) (fun k=>k<=8) (ai4 _) ?_ ?_
 ·refine sY ?_
  refine⟨by simp, ?_⟩;exact sZ
 ·intro k hk IH;refine zA ?_ ?_<;>intro h
  ·have ai:k<8:=by simp at h;omega
   have hk8:((pc n).take k).length<=7:=by rw[ah1];omega
   refine gC ?_;refine dU ?_;refine bj oM (gD ?_);refine wS (Lh _ (hL.more (M:=(pc n).take k) fun x hx=>Lg n x (akx hx)) (by rw[ah5];omega)) ?_;refine gD ?_;refine And.intro (by kernel_rfl) ?_;(conv=>whnf);refine gC ?_;refine I.back (IH (k+1) oM oM) ?_;refine sY ?_
   exact And.intro (by rw[aiK,ae' n ai]) sZ
  ·have aA:k=8:=by simp at h;omega
   subst aA;refine gC ?_;exact⟨rfl,rfl⟩
theorem CJ(n:Int)(L:List DV)(hL:fQ L)(hl:L.length+4<=140737488355328):au E 180 [.cells [.own 1 0,.d (.int .i64 0),.d (.int .i8 0)],.arr 0 (5,1) L] [.ptr 0 0,.d (.int .i64 n)] (fun a b=>a=.aG []/\b=[.cells [.own 1 1,.d (.int .i64 0),.d (.int .i8 0)],.arr 1 (5,1) (L++jH n)]):=by
 refine aE ?_;refine I.lP 4 (rg 4 13) (fun k=>[(4,.d (.int .i64 (24-8*(k:Int))))]) (fun k=>[(0,.cells [.own 1 1,.d (.int .i64 0),.d (.int .i8 0)]),(1,.arr 1 (5,1) (L++(jH n).take k))]) (fun k=>k<=4) (ai4 _) ?_ ?_
 ·refine sY ?_
  refine⟨by simp, ?_⟩;exact sZ
 ·intro k hk IH;refine zA ?_ ?_<;>intro h
  ·have ai:k<4:=by simp at h;omega
   have hk8:((jH n).take k).length<=3:=by rw[ah1];omega
   refine gC ?_;refine dU ?_;refine bj oM (gD ?_);refine wS (Lh _ (hL.more (M:=(jH n).take k) fun x hx=>ot n x (akx hx)) (by rw[ah5];omega)) ?_;refine gD ?_;refine And.intro (by kernel_rfl) ?_;(conv=>whnf);refine gC ?_;refine I.back (IH (k+1) oM oM) ?_;refine sY ?_
   exact And.intro (by rw[aiK,afa n ai]) sZ
  ·have aA:k=4:=by simp at h;omega
   subst aA;refine gC ?_;exact⟨rfl,rfl⟩
theorem uh(n:Int)(L:List DV)(hL:fQ L)(hl:L.length+1<=140737488355328):au E 183 [.cells [.own 1 0,.d (.int .i64 0),.d (.int .i8 0)],.arr 0 (5,1) L] [.ptr 0 0,.d (.int .i64 n)] (fun a b=>a=.aG []/\b=[.cells [.own 1 1,.d (.int .i64 0),.d (.int .i8 0)],.arr 1 (5,1) (L++[.int .u8 (IntKind.u8.wrap n)])]):=by
 refine aE ?_
 with_reducible refine aX (Lh _ hL hl) ?_
 refine gC ?_;exact⟨rfl,rfl⟩
theorem S5(n:Int):au E 183 [.cells [.d .aF,.d (.int .i64 0),.d (.int .i8 0)]] [.ptr 0 0,.d (.int .i64 n)] (fun a b=>a=.aG []/\b=[.cells [.own 1 0,.d (.int .i64 0),.d (.int .i8 0)],.arr 0 (5,1) ([.int .u8 (IntKind.u8.wrap n)])]):=by
 refine aE ?_
 with_reducible refine aX (afc _) ?_
 refine gC ?_;exact⟨rfl,rfl⟩
theorem pf(n:Int)(L:List DV)(hL:fQ L)(hl:L.length+8<=140737488355328):au E 179 [.cells [.own 1 0,.d (.int .i64 0),.d (.int .i8 0)],.arr 0 (5,1) L] [.ptr 0 0,.d (.int .i64 n)] (fun a b=>a=.aG []/\b=[.cells [.own 1 1,.d (.int .i64 0),.d (.int .i8 0)],.arr 1 (5,1) (L++gW n)]):=by
 refine aE ?_
 with_reducible refine aX (FO _ L hL hl) ?_
 refine gC ?_;exact⟨rfl,rfl⟩
theorem fQ.one(n:Int):fQ [DV.int .u8 n]:=⟨by simp,p0 n⟩
theorem Aa(t:Text)(L:List DV)(hL:fQ L)(hl:L.length+(fL t).length<=140737488355328):au E 182 [.cells [.own 1 0,.d (.int .i64 0),.d (.int .i8 0)],.arr 0 (5,1) L] [.ptr 0 0,.d (.str t)] (fun a b=>a=.aG []/\b=[.cells [.own 1 2,.d (.int .i64 0),.d (.int .i8 0)],.arr 2 (5,1) (L++fL t)]):=by
 rw[nS]at hl;have hM:=hL.more (p0 (IntKind.u8.wrap t.length));cases t with
 |nil =>
  refine aE ?_
  with_reducible refine aX (uh _ L hL oM) ?_
  refine gC ?_
  with_reducible refine aX (S3 hM) ?_
  refine gC ?_;exact⟨rfl,rfl⟩
 |cons c r =>
  refine aE ?_
  with_reducible refine aX (uh _ L hL oM) ?_
  refine gC ?_
  with_reducible refine aX (S4 (c::r) hM sP (by simp at hl ⊢;omega)) ?_
  refine gC ?_;exact⟨rfl,by rw[aiK];rfl⟩
theorem aff(t:Text)(hl:(fL t).length<=140737488355328):au E 182 [.cells [.d .aF,.d (.int .i64 0),.d (.int .i8 0)]] [.ptr 0 0,.d (.str t)] (fun a b=>a=.aG []/\b=[.cells [.own 1 1,.d (.int .i64 0),.d (.int .i8 0)],.arr 1 (5,1) (fL t)]):=by
 rw[nS]at hl;have hM:=fQ.one (IntKind.u8.wrap t.length);cases t with
 |nil =>
  refine aE ?_
  with_reducible refine aX (S5 _) ?_
  refine gC ?_
  with_reducible refine aX (S3 hM) ?_
  refine gC ?_;exact⟨rfl,rfl⟩
 |cons c r =>
  refine aE ?_
  with_reducible refine aX (S5 _) ?_
  refine gC ?_
  with_reducible refine aX (S4 (c::r) hM sP (by simp at hl ⊢;omega)) ?_
  refine gC ?_;exact⟨rfl,rfl⟩
theorem fQ.text(t:Text):fQ (fL t):=⟨by simp[fL],mq _⟩
def kF(q:bp):List DV:=fL q.name++[.int .u8 (IntKind.u8.wrap q.type)]
theorem Ab(q:bp):∀ x∈kF q,isByte x:=fun x hx=>(aif.1 hx).elim (mq _ x) (p0 _ x)
theorem S6(q:bp)(L:List DV)(hL:fQ L)(hl:L.length+(kF q).length<=140737488355328):au E 178 [.cells [.own 1 0,.d (.int .i64 0),.d (.int .i8 0)],.arr 0 (5,1) L] [.ptr 0 0,.d q.enc] (fun a b=>a=.aG []/\b=[.cells [.own 1 3,.d (.int .i64 0),.d (.int .i8 0)],.arr 3 (5,1) (L++kF q)]):=by
 have qw:L.length+(fL q.name).length+1<=140737488355328:=by simp[kF]at hl;omega
 apply au.kA
 case hk=>rfl
 refine aE ?_
 with_reducible refine aX (Aa q.name L hL oM) ?_
 refine gC ?_
 with_reducible refine aX (uh q.type _ (hL.more (mq _)) (by rw[ah5];omega)) ?_
 refine gC ?_;exact⟨rfl,by rw[aiK];rfl⟩
theorem afg(q:bp)(hl:(kF q).length<=140737488355328):au E 178 [.cells [.d .aF,.d (.int .i64 0),.d (.int .i8 0)]] [.ptr 0 0,.d q.enc] (fun a b=>a=.aG []/\b=[.cells [.own 2 2,.d (.int .i64 0),.d (.int .i8 0)],.cells [.d (.str q.name),.d (.int .i64 q.type)],.arr 2 (5,1) (kF q)]):=by
 have qw:(fL q.name).length+1<=140737488355328:=by simp[kF]at hl;omega
 refine aE ?_
 with_reducible refine aX (aff q.name oM) ?_
 refine gC ?_
 with_reducible refine aX (uh q.type _ (fQ.text q.name) oM) ?_
 refine gC ?_;exact⟨rfl,rfl⟩
def jI(g:dE):List DV:=fL g.ar++gW g.key++gW g.nN++gW g.bQ++gW g.upto++pc g.sum
theorem Li(g:dE):∀ x∈jI g,isByte x:=fun x hx=>by
 simp only[jI,aif]at hx;rcases hx with((((h|h)|h)|h)|h)|h
 ·exact mq _ x h
 ·exact ir _ x h
 ·exact ir _ x h
 ·exact ir _ x h
 ·exact ir _ x h
 ·exact Lg _ x h
def ou(s:dw):List DV:=if s.data=[]then jH 0++fL s.name++[.int .u8 (IntKind.u8.wrap s.type)]++gW s.dD else jH (nT s).length++nT s
theorem S7(s:dw):∀ x∈ou s,isByte x:=fun x hx=>by
 unfold ou at hx;split at hx<;>simp only[aif]at hx
 ·rcases hx with((h|h)|h)|h
  ·exact ot _ x h
  ·exact mq _ x h
  ·exact p0 _ x h
  ·exact ir _ x h
 ·exact hx.elim (ot _ x) (IV s x)
def ka(s:Signed):List DV:=ou s.set++[.int .u8 (IntKind.u8.wrap s.sigs.length)]++s.sigs.flatMap jI
theorem p9{α:Type}{f:α->List DV}{l:List α}(h:∀ y,∀ x∈f y,isByte x):∀ x∈l.flatMap f,isByte x:=fun x hx=>by
 obtain⟨y,-,hy⟩:=List.mem_flatMap.1 hx;exact h y x hy
theorem CK(s:Signed):∀ x∈ka s,isByte x:=fun x hx=>by
 simp only[ka,aif]at hx;rcases hx with(h|h)|h
 ·exact S7 _ x h
 ·exact p0 _ x h
 ·exact p9 Li x h
theorem CL{α:Type}{f:α->List DV}{l:List α}{k:Nat}{x:α}(hx:l[k]?=some x):((l.take k).flatMap f).length+(f x).length<=(l.flatMap f).length:=by
 have e:l.flatMap f=(l.take (k+1)).flatMap f++(l.drop (k+1)).flatMap f:=by rw[<- akg,List.take_append_drop]
 rw[e,cj hx,akg,ah5,ah5];simp
theorem CM{α:Type}{f:α->List DV}{l:List α}{k:Nat}{x:α}(hx:l[k]?=some x)(M:List DV):M++(l.take k).flatMap f++f x=M++(l.take (k+1)).flatMap f:=by
 rw[cj hx,akg];simp
theorem fQ.set(s:dw):fQ (nT s):=⟨by simp[nT,vn,fL],IV s⟩
theorem S8(s:Signed)(hf:s.set.Fits)(hs:s.set.data=[]\/eX s.set=true)(hg:s.sigs.length<=maxLen)(L:List DV)(hL:fQ L)(hl:L.length+(ka s).length<=140737488355328):au E 181 [.cells [.own 1 0,.d (.int .i64 0),.d (.int .i8 0)],.arr 0 (5,1) L] [.ptr 0 0,.d s.enc] (fun a b=>a=.aG []/\b=[.cells [.own 1 7,.d (.int .i64 0),.d (.int .i8 0)],.arr 7 (5,1) (L++ka s)]):=by
 have Sh:(ka s).length=(ou s.set).length+1+(s.sigs.flatMap jI).length:=by simp only[ka,ah5,aj4]
 have qw:L.length+(ou s.set).length+1+(s.sigs.flatMap jI).length<=140737488355328:=by omega
 have hM:fQ (L++(ou s.set++[.int .u8 (IntKind.u8.wrap s.sigs.length)])):=hL.more fun x hx=>(aif.1 hx).elim (S7 _ x) (p0 _ x);have S9:(L++(ou s.set++[DV.int .u8 (IntKind.u8.wrap s.sigs.length)])).length+(s.sigs.flatMap jI).length<=140737488355328:=by simp only[ah5,aj4];omega
 obtain⟨M,x7⟩:∃ M,M=L++(ou s.set++[DV.int .u8 (IntKind.u8.wrap s.sigs.length)]):=⟨_,rfl⟩;have iE:L++ka s=M++s.sigs.flatMap jI:=by rw[x7];simp[ka]
 rw[<- x7]at hM S9;rw[iE];clear hl iE;obtain⟨⟨sn,st,sl,sd⟩,l⟩:=s;simp only at hf hs hg x7 qw S9 ⊢;unfold maxLen at hg;apply au.kA
 case hk=>rfl
 show au E _ _ [_,.d (DV.agg [.str sn,.int .i64 st,.int .i64 sl,rH sd,rI l])] _;refine aE ?_;by_cases hd:sd=[]
 ·have hb:ou ⟨sn,st,sl,sd⟩=jH 0++fL sn++[DV.int .u8 (IntKind.u8.wrap st)]++gW sl:=by unfold ou;rw[if_pos hd]
  rw[hb]at qw x7;simp only[ah5,aj4]at qw;subst hd;refine aN rfl (gC ?_)
  with_reducible refine aX (CJ _ L hL (by have:(jH 0).length=4:=rfl;omega)) ?_
  refine gC ?_
  with_reducible refine aX (Aa sn _ (hL.more (ot _)) (by simp;omega)) ?_
  refine gC ?_
  with_reducible refine aX (uh st _ ((hL.more (ot _)).more (mq _)) (by simp;omega)) ?_
  refine gC ?_
  with_reducible refine aX (pf sl _ (((hL.more (ot _)).more (mq _)).more (p0 _)) (by have:(gW sl).length=8:=rfl;simp;omega)) ?_
  refine gC ?_
  with_reducible refine aX (uh _ _ ((((hL.more (ot _)).more (mq _)).more (p0 _)).more (ir _)) (by simp only[ah5,aj4];omega)) ?_
  refine gC ?_;refine I.lP l.length ([7,9]++rg 55 29) (fun k=>[(55,.d (.int .i64 k))]) (fun k=>[(0,.cells [.own 1 7,.d (.int .i64 0),.d (.int .i8 0)]),(1,.arr 7 (5,1) (M++(l.take k).flatMap jI))]) (fun k=>k<=l.length) (ai4 _) ?_ ?_
  ·refine sY ?_
   refine And.intro (by rw[x7];simp[hb]) ?_;exact sZ
  intro k hk IH;refine zA ?_ ?_<;>intro h5
  ·have ai:k<l.length:=zD h5
   obtain⟨x,hx⟩:=aI ai;have pB:=CL (f:=jI) hx;have iO:(jI x).length=(fL x.ar).length+40:=by simp only[jI,ah5,dZ];rfl
   have b0:=hM.more (p9 (f:=jI) (l:=l.take k) Li);have b1:=b0.more (mq x.ar);have b2:=b1.more (ir x.key);have b3:=b2.more (ir x.nN);have b4:=b3.more (ir x.bQ);have b5:=b4.more (ir x.upto);refine gC ?_;refine eM hx (gC ?_)
   with_reducible refine aX (Aa x.ar _ b0 (by simp only[ah5];omega)) ?_
   refine gC ?_;refine I.te ?_;refine I.run ag F181.h 2000 ?_;(conv=>whnf);refine aN dC (gC ?_);refine I.vi ag 0 rfl rfl rfl rfl rfl rfl rfl (vP (bg rfl)) (bg rfl) rfl dC rfl (gC ?_)
   with_reducible refine aX (pf x.key _ b1 (by simp only[ah5,dZ];omega)) ?_
   refine gC ?_;refine I.again ?_;refine I.run ag F181.h 2000 ?_;(conv=>whnf);refine aN dC (gC ?_);refine I.vi ag 1 rfl rfl rfl rfl rfl rfl rfl (vP (bg rfl)) (bg rfl) rfl dC rfl (gC ?_)
   with_reducible refine aX (pf x.nN _ b2 (by simp only[ah5,dZ];omega)) ?_
   refine gC ?_;refine I.again ?_;refine I.run ag F181.h 2000 ?_;(conv=>whnf);refine aN dC (gC ?_);refine I.vi ag 2 rfl rfl rfl rfl rfl rfl rfl (vP (bg rfl)) (bg rfl) rfl dC rfl (gC ?_)
   with_reducible refine aX (pf x.bQ _ b3 (by simp only[ah5,dZ];omega)) ?_
   refine gC ?_;refine I.again ?_;refine I.run ag F181.h 2000 ?_;(conv=>whnf);refine aN dC (gC ?_);refine I.vi ag 3 rfl rfl rfl rfl rfl rfl rfl (vP (bg rfl)) (bg rfl) rfl dC rfl (gC ?_)
   with_reducible refine aX (pf x.upto _ b4 (by simp only[ah5,dZ];omega)) ?_
   refine gC ?_;refine I.again ?_;refine I.run ag F181.h 2000 ?_;(conv=>whnf);refine aP dC (gC ?_)
   with_reducible refine aX (FO x.sum _ b5 (by simp only[ah5,dZ];omega)) ?_
   refine gC ?_;refine I.back (IH (k+1) oM oM) ?_;refine sY ?_
   refine And.intro (by rw[<- CM hx];simp only[jI,aiK]) ?_;exact sZ
  ·have aA:l.length<=k:=zD h5
   rw[ajq aA];refine gC ?_;exact⟨rfl,rfl⟩
 ·have aV:=hs.resolve_left hd;have hb:ou ⟨sn,st,sl,sd⟩=jH (nT ⟨sn,st,sl,sd⟩).length++nT ⟨sn,st,sl,sd⟩:=by unfold ou;rw[if_neg hd]
  rw[hb]at qw x7;simp only[ah5]at qw;have dR:(jH (nT ⟨sn,st,sl,sd⟩).length).length=4:=rfl;refine aP (zD hd) (gC ?_)
  with_reducible refine ao (Xn ⟨sn,st,sl,sd⟩ hf aV) ?_
  refine gC ?_
  with_reducible refine aX (CJ _ L hL oM) ?_
  refine gC ?_
  with_reducible refine aX (afd (nT ⟨sn,st,sl,sd⟩) (hL.more (ot _)) (fQ.set _) (by simp only[ah5];omega)) ?_
  refine gC ?_
  with_reducible refine aX (uh _ _ ((hL.more (ot _)).more (IV _)) (by simp only[ah5];omega)) ?_
  refine gC ?_;refine I.lP l.length ([7,9]++rg 55 29) (fun k=>[(55,.d (.int .i64 k))]) (fun k=>[(0,.cells [.own 1 7,.d (.int .i64 0),.d (.int .i8 0)]),(1,.arr 7 (5,1) (M++(l.take k).flatMap jI))]) (fun k=>k<=l.length) (ai4 _) ?_ ?_
  ·refine sY ?_
   refine And.intro (by rw[x7];simp[hb]) ?_;exact sZ
  intro k hk IH;refine zA ?_ ?_<;>intro h5
  ·have ai:k<l.length:=zD h5
   obtain⟨x,hx⟩:=aI ai;have pB:=CL (f:=jI) hx;have iO:(jI x).length=(fL x.ar).length+40:=by simp only[jI,ah5,dZ];rfl
   have b0:=hM.more (p9 (f:=jI) (l:=l.take k) Li);have b1:=b0.more (mq x.ar);have b2:=b1.more (ir x.key);have b3:=b2.more (ir x.nN);have b4:=b3.more (ir x.bQ);have b5:=b4.more (ir x.upto);refine gC ?_;refine eM hx (gC ?_)
   with_reducible refine aX (Aa x.ar _ b0 (by simp only[ah5];omega)) ?_
   refine gC ?_;refine I.te ?_;refine I.run ag F181.h 2000 ?_;(conv=>whnf);refine aN dC (gC ?_);refine I.vi ag 0 rfl rfl rfl rfl rfl rfl rfl (vP (bg rfl)) (bg rfl) rfl dC rfl (gC ?_)
   with_reducible refine aX (pf x.key _ b1 (by simp only[ah5,dZ];omega)) ?_
   refine gC ?_;refine I.again ?_;refine I.run ag F181.h 2000 ?_;(conv=>whnf);refine aN dC (gC ?_);refine I.vi ag 1 rfl rfl rfl rfl rfl rfl rfl (vP (bg rfl)) (bg rfl) rfl dC rfl (gC ?_)
   with_reducible refine aX (pf x.nN _ b2 (by simp only[ah5,dZ];omega)) ?_
   refine gC ?_;refine I.again ?_;refine I.run ag F181.h 2000 ?_;(conv=>whnf);refine aN dC (gC ?_);refine I.vi ag 2 rfl rfl rfl rfl rfl rfl rfl (vP (bg rfl)) (bg rfl) rfl dC rfl (gC ?_)
   with_reducible refine aX (pf x.bQ _ b3 (by simp only[ah5,dZ];omega)) ?_
   refine gC ?_;refine I.again ?_;refine I.run ag F181.h 2000 ?_;(conv=>whnf);refine aN dC (gC ?_);refine I.vi ag 3 rfl rfl rfl rfl rfl rfl rfl (vP (bg rfl)) (bg rfl) rfl dC rfl (gC ?_)
   with_reducible refine aX (pf x.upto _ b4 (by simp only[ah5,dZ];omega)) ?_
   refine gC ?_;refine I.again ?_;refine I.run ag F181.h 2000 ?_;(conv=>whnf);refine aP dC (gC ?_)
   with_reducible refine aX (FO x.sum _ b5 (by simp only[ah5,dZ];omega)) ?_
   refine gC ?_;refine I.back (IH (k+1) oM oM) ?_;refine sY ?_
   refine And.intro (by rw[<- CM hx];simp only[jI,aiK]) ?_;exact sZ
  ·have aA:l.length<=k:=zD h5
   rw[ajq aA];refine gC ?_;exact⟨rfl,rfl⟩
def Signed.pg(s:Signed):Prop:=s.set.Fits/\(s.set.data=[]\/eX s.set=true)/\s.sigs.length<=maxLen
def mF(l:List Signed):List DV:=jH l.length++l.flatMap ka
theorem S'(l:List Signed):∀ x∈mF l,isByte x:=fun x hx=>(aif.1 hx).elim (ot _ x) (p9 CK x)
theorem iU(n:Int):(jH n).length=4:=rfl
theorem Ta(l:List Signed)(hn:l.length<=maxLen)(hf:∀ s∈l,s.pg)(L:List DV)(hL:fQ L)(hl:L.length+(mF l).length<=140737488355328):au E 184 [.cells [.own 1 0,.d (.int .i64 0),.d (.int .i8 0)],.arr 0 (5,1) L] [.ptr 0 0,.d (.sl (l.map Signed.enc))] (fun a b=>a=.aG []/\b=[.cells [.own 1 1,.d (.int .i64 0),.d (.int .i8 0)],.arr 1 (5,1) (L++mF l)]):=by
 unfold maxLen at hn;have hs:(mF l).length=4+(l.flatMap ka).length:=by simp only[mF,ah5,iU]
 have hM:=hL.more (ot l.length);apply au.kA
 case hk=>rfl
 refine aE ?_
 with_reducible refine aX (CJ _ L hL oM) ?_
 refine gC ?_;refine I.lP l.length ([5]++rg 12 8) (fun k=>[(12,.d (.int .i64 k))]) (fun k=>[(0,.cells [.own 1 1,.d (.int .i64 0),.d (.int .i8 0)]),(1,.arr 1 (5,1) (L++jH l.length++(l.take k).flatMap ka))]) (fun k=>k<=l.length) (ai4 _) ?_ ?_
 ·refine sY ?_
  refine⟨by simp, ?_⟩;exact sZ
 intro k hk IH;refine zA ?_ ?_<;>intro h5
 ·have ai:k<l.length:=zD h5
  obtain⟨x,hx⟩:=aI ai;have pB:=CL (f:=ka) hx;obtain⟨f1,f2,f3⟩:=hf x (aiQ hx);refine gC ?_;refine eM hx (gC ?_)
  with_reducible refine aX (S8 x f1 f2 f3 _ (hM.more (p9 (f:=ka) (l:=l.take k) CK)) (by simp only[ah5,iU];omega)) ?_
  refine gC ?_;refine I.back (IH (k+1) oM oM) ?_;refine sY ?_
  exact And.intro (CM hx _) sZ
 ·have aA:l.length<=k:=zD h5
  rw[ajq aA];refine gC ?_;exact⟨rfl,by simp only[mF,aiK];rfl⟩
def mG(e:Entry):List DV:=ka e.signed++fL e.ar++gW e.upto
def mH(x:bZ):List DV:=gW x.time++gW x.addr++kF x.q++[.int .u8 (IntKind.u8.wrap x.answer.kind)]++fL x.answer.cut++mF x.answer.J
def qa(t:dO):List DV:=kF t.q++gW t.time++jH t.cache.list.length
def ui(v:nj):List DV:=[.int .u8 (IntKind.u8.wrap v.kind)]++kF v.q++mF v.J
def sy(t:dO):List DV:=qa t++t.cache.list.flatMap mG++jH t.heard.length++t.heard.flatMap mH++ui t.result
theorem FP(e:Entry):∀ x∈mG e,isByte x:=fun x hx=>by
 simp only[mG,aif]at hx;rcases hx with(h|h)|h
 ·exact CK _ x h
 ·exact mq _ x h
 ·exact ir _ x h
theorem Lj(e:bZ):∀ x∈mH e,isByte x:=fun x hx=>by
 simp only[mH,aif]at hx;rcases hx with((((h|h)|h)|h)|h)|h
 ·exact ir _ x h
 ·exact ir _ x h
 ·exact Ab _ x h
 ·exact p0 _ x h
 ·exact mq _ x h
 ·exact S' _ x h
theorem Tb(t:dO):fQ (qa t):=⟨by simp[qa,kF,fL],fun x hx=>by
 simp only[qa,aif]at hx;rcases hx with(h|h)|h
 ·exact Ab _ x h
 ·exact ir _ x h
 ·exact ot _ x h⟩
theorem afh(v:nj):∀ x∈ui v,isByte x:=fun x hx=>by
 simp only[ui,aif]at hx;rcases hx with(h|h)|h
 ·exact p0 _ x h
 ·exact Ab _ x h
 ·exact S' _ x h
theorem afi(t:dO):fQ (sy t):=(((Tb t).more (p9 FP)).more (ot _)).more (p9 Lj) |>.more (afh _)
structure dO.pg(t:dO):Prop where
 cl:t.cache.list.length<=maxLen
 ce:∀ e∈t.cache.list,e.signed.pg
 hl:t.heard.length<=maxLen
 he:∀ x∈t.heard,x.answer.J.length<=maxLen/\∀ s∈x.answer.J,s.pg
 rl:t.result.J.length<=maxLen
 re:∀ s∈t.result.J,s.pg
theorem afj(t:dO)(hf:t.pg)(hl:(sy t).length<=140737488355328):au E 105 [.cells [.d .aF,.d (.int .i64 0),.d (.int .i8 0)]] [.ptr 0 0,.d t.enc] (fun a b=>a=.aG []/\b=[.cells [.own 3 25,.d (.int .i64 0),.d (.int .i8 0)],.cells [.d (.str t.q.name),.d (.int .i64 t.q.type),.d (.int .i64 t.time),.d (.sl (t.cache.list.map Entry.enc)),.d (.sl (t.heard.map bZ.enc)),.d (.int .i64 t.result.kind),.d (.str t.result.q.name),.d (.int .i64 t.result.q.type),.d (.sl (t.result.J.map Signed.enc))],.cells [.d (.str t.q.name),.d (.int .i64 t.q.type)],.arr 25 (5,1) (sy t)]):=by
 have hlen:(sy t).length=(qa t).length+(t.cache.list.flatMap mG).length+4+(t.heard.flatMap mH).length+(ui t.result).length:=by simp only[sy,ah5,iU]
 have hhd:(qa t).length=(kF t.q).length+8+4:=by simp only[qa,ah5,iU,dZ]
 have H4:(ui t.result).length=1+(kF t.result.q).length+(mF t.result.J).length:=by simp only[ui,ah5,aj4]
 have CN:=Tb t;have CO:=(CN.more (p9 (f:=mG) (l:=t.cache.list) FP)).more (ot t.heard.length);have iE:sy t=qa t++t.cache.list.flatMap mG++jH t.heard.length++t.heard.flatMap mH++ui t.result:=rfl;rw[iE];have hM1:kF t.q++gW t.time++jH t.cache.list.length=qa t:=rfl;generalize afk:qa t=M1 at *;obtain⟨h1,h2,h3,h4,h5,h6⟩:=hf;have b1:fQ (kF t.q):=⟨by simp[kF,fL],Ab _⟩;have b2:=b1.more (ir t.time);clear iE;obtain⟨⟨qn,qt⟩,at_,⟨cl⟩,l,⟨rk,⟨rn,rt⟩,rl⟩⟩:=t;simp only at *;unfold maxLen at h1 h3;show au E _ _ [_,.d (DV.agg [.str qn,.int .i64 qt,.int .i64 at_,.sl (cl.map Entry.enc),.sl (l.map bZ.enc),.int .i64 rk,.str rn,.int .i64 rt,.sl (rl.map Signed.enc)])] _;refine aE ?_
 with_reducible refine aX (afg ⟨qn,qt⟩ oM) ?_
 refine gC ?_
 with_reducible refine aX (pf at_ _ b1 oM) ?_
 refine gC ?_
 with_reducible refine aX (CJ _ _ b2 (by simp only[ah5,dZ];omega)) ?_
 refine gC ?_;refine I.lP cl.length ([5]++rg 26 17) (fun k=>[(26,.d (.int .i64 k))]) (fun k=>[(0,.cells [.own 3 20,.d (.int .i64 0),.d (.int .i8 0)]),(3,.arr 20 (5,1) (M1++(cl.take k).flatMap mG))]) (fun k=>k<=cl.length) (ai4 _) ?_ ?_
 ·refine sY ?_
  refine And.intro (by rw[<- afk];simp[qa]) ?_;exact sZ
 intro k hk IH;refine zA ?_ ?_<;>intro h7
 ·have ai:k<cl.length:=zD h7
  obtain⟨x,hx⟩:=aI ai;have pB:=CL (f:=mG) hx;have iO:(mG x).length=(ka x.signed).length+(fL x.ar).length+8:=by simp only[mG,ah5,dZ]
  obtain⟨f1,f2,f3⟩:=h2 x (aiQ hx);have b0:=CN.more (p9 (f:=mG) (l:=cl.take k) FP);refine gC ?_;refine eM hx (gC ?_)
  with_reducible refine aX (S8 x.signed f1 f2 f3 _ b0 (by simp only[ah5,aj4,dZ,iU];omega)) ?_
  refine gC ?_
  with_reducible refine aX (Aa x.ar _ (b0.more (CK _)) (by simp only[ah5,aj4,dZ,iU];omega)) ?_
  refine gC ?_
  with_reducible refine aX (pf x.upto _ ((b0.more (CK _)).more (mq _)) (by simp only[ah5,aj4,dZ,iU];omega)) ?_
  refine gC ?_;refine I.back (IH (k+1) oM oM) ?_;refine sY ?_
  refine And.intro (by rw[<- CM hx];simp only[mG,aiK]) ?_;exact sZ
 have aA:cl.length<=k:=zD h7
 rw[ajq aA];refine gC ?_
 with_reducible refine aX (CJ _ _ (CN.more (p9 FP)) (by simp only[ah5,aj4,dZ,iU];omega)) ?_
 refine gC ?_;refine I.lP l.length ([7]++rg 51 32) (fun k=>[(51,.d (.int .i64 k))]) (fun k=>[(0,.cells [.own 3 20,.d (.int .i64 0),.d (.int .i8 0)]),(3,.arr 20 (5,1) (M1++cl.flatMap mG++jH l.length++(l.take k).flatMap mH))]) (fun k=>k<=l.length) (ai4 _) ?_ ?_
 ·refine sY ?_
  refine⟨by simp, ?_⟩;exact sZ
 intro k hk IH;refine zA ?_ ?_<;>intro h8
 ·have ai:k<l.length:=zD h8
  obtain⟨x,hx⟩:=aI ai;have pB:=CL (f:=mH) hx;have iO:(mH x).length=16+(kF x.q).length+1+(fL x.answer.cut).length+(mF x.answer.J).length:=by simp only[mH,ah5,aj4,dZ]
  obtain⟨f1,f2⟩:=h4 x (aiQ hx);have c0:=CO.more (p9 (f:=mH) (l:=l.take k) Lj);have c1:=c0.more (ir x.time);have c2:=c1.more (ir x.addr);have c3:=c2.more (Ab x.q);have c4:=c3.more (p0 (IntKind.u8.wrap x.answer.kind));have c5:=c4.more (mq x.answer.cut);refine gC ?_;refine eM hx (gC ?_)
  with_reducible refine aX (pf x.time _ c0 (by simp only[ah5,aj4,dZ,iU];omega)) ?_
  refine gC ?_
  with_reducible refine aX (pf x.addr _ c1 (by simp only[ah5,aj4,dZ,iU];omega)) ?_
  refine gC ?_
  with_reducible refine aX (S6 x.q _ c2 (by simp only[ah5,aj4,dZ,iU];omega)) ?_
  refine gC ?_
  with_reducible refine aX (uh x.answer.kind _ c3 (by simp only[ah5,aj4,dZ,iU];omega)) ?_
  refine gC ?_
  with_reducible refine aX (Aa x.answer.cut _ c4 (by simp only[ah5,aj4,dZ,iU];omega)) ?_
  refine gC ?_
  with_reducible refine aX (Ta x.answer.J f1 f2 _ c5 (by simp only[ah5,aj4,dZ,iU];omega)) ?_
  refine gC ?_;refine I.back (IH (k+1) oM oM) ?_;refine sY ?_
  refine And.intro (by rw[<- CM hx];simp only[mH,aiK]) ?_;exact sZ
 have aA:l.length<=k:=zD h8
 rw[ajq aA];have d0:=CO.more (p9 (f:=mH) (l:=l) Lj);have d1:=d0.more (p0 (IntKind.u8.wrap rk));have d2:=d1.more (Ab ⟨rn,rt⟩);refine gC ?_
 with_reducible refine aX (uh rk _ d0 (by simp only[ah5,aj4,dZ,iU];omega)) ?_
 refine gC ?_
 with_reducible refine aX (S6 ⟨rn,rt⟩ _ d1 (by simp only[ah5,aj4,dZ,iU];omega)) ?_
 refine gC ?_
 with_reducible refine aX (Ta rl h5 h6 _ d2 (by simp only[ah5,aj4,dZ,iU];omega)) ?_
 refine gC ?_;exact⟨rfl,by simp only[ui,aiK]⟩
theorem afl{E:Env}(hE:E.OK){s:List AV}{h:List ae}{t e b g:Nat}{ti ei:bA}{x y:Operand}{ts:Nat × Nat}{m:List DV}{j:IntKind}(hi:E.T[t]?=some ti)(hk:ti.k=.slice e)(b9:E.T[e]?=some ei)
  (hv:bk E.G s x (.own b g)) (hy:bk E.G s y (.d (.int j 0))) (hb:h[b]?=some (.arr g ts m)) (hm:m≠[]):bE E (.slice t x (some y) none none) s h (.own b g) h:=by
 refine .quiet fun o c ac e1 h2 h3 h4=>?_;subst h2;obtain⟨nJ,d,g1,g2,g3,-⟩:=cK (hE.types t ti hi);obtain rfl:=mM (hk.symm.trans g3);rcases lu hb (hv c ac h3 h4)with⟨blk,cap,q1,q2⟩|⟨hn,-,-⟩
 case inr=>exact absurd hn hm
 have q4:m.length<=cap:=by
  obtain⟨-,-,q2⟩:=h3.box b _ hb;rcases q2 with⟨q2,-⟩|⟨jL,iV,us,q2,q3,q4,q5,q6,q7⟩
  ·rw[q1]at q2;cases q2
  ·rw[q1]at q2;cases q2;exact q5
 have nI:=eT (hy c ac h3 h4);have db:=List.length_pos_iff.2 hm;have la:=GX (P:=E.P) (w:=c.w) (isSlice:=true) (len:=m.length) (cap:=cap) (lo:=some (.int j 0)) (hi:=none) (l:=some (0:Int)) (u:=none) ⟨j,rfl⟩ rfl sP sP sP oM;simp only[Option.getD_some,Option.getD_none,Int.toNat_natCast]at la;refine⟨_,?_,.own b g ts m blk cap hb q1⟩;simp only[execOp,e1,q2,nI,Instr.sliceAt,Instr.slice,Sem.run_bind,Sem.run_pure,Result.andThen_ok,run_underlying g2,Option.map_none,Option.map_some,la,az.run_sizeOf (hE.types e ei b9),oy];split
 ·simp
 ·simp
theorem afm(L:List DV):au E 109 [.cells [.own 1 0,.d (.int .i64 0),.d (.int .i8 0)],.arr 0 (5,1) L] [.ptr 0 0] (fun a b=>a=.d (.int .i64 (IntKind.i64.wrap (L.length-0)))/\b=[.cells [.own 1 0,.d (.int .i64 0),.d (.int .i8 0)],.arr 0 (5,1) L]):=by
 refine aE ?_;refine dU ?_;refine gC ?_;exact⟨rfl,rfl⟩
theorem Tc(L:List DV)(hL:L≠[]):au E 108 [.cells [.own 1 0,.d (.int .i64 0),.d (.int .i8 0)],.arr 0 (5,1) L] [.ptr 0 0] (fun a b=>a=.own 1 0/\b=[.cells [.own 1 0,.d (.int .i64 0),.d (.int .i8 0)],.arr 0 (5,1) L]):=by
 refine aE ?_;refine dU ?_;refine bU.at rfl ?_;(conv=>whnf);refine ml.op (afl ag (m:=L) rfl rfl rfl (bg rfl) (bg rfl) rfl hL) (gD ?_);refine And.intro (by kernel_rfl) ?_;(conv=>whnf);refine gC ?_;exact⟨rfl,rfl⟩
end Go.Proofs.YtlhehdgciafakaaGreatDoor.P
end
