/- The engine, part CC: regions that draw their order, in rounds of loops over functions too. No conditions. -/
import Derived.Test.YtajnanldmhpeaaaGreatDoorZEngBB
import Derived.OrdersIn
set_option linter.unusedVariables false
set_option linter.unusedSimpArgs false
namespace Go.Eng
open Go Go.RowKit
def rFence (ro:Option Nat):Fence:={ Fence.wide with round:=ro }
theorem put_def (a:Act) (d:Option Nat) (v:Value):(a.put d v).defers=a.defers:=by cases d <;> rfl
section
variable {P:Program} {ops:Array Oper} {Q:Exit→Act→World→Prop}
theorem ops_defers (hQ:∀ e a w,Q e a w→e = .normal∧a.defers=[]):∀ (l:List Nat) (a:Act) (w:World),wpOps P ops Q l a w→a.defers=[]
 | [],a,w,h=>(hQ _ _ _ h).2
 |i::l,a,w,h=>by
  simp only [wpOps] at h;split at h
  ·exact ops_defers hQ l a w h
  ·rename_i o ho;split at h
   ·rcases h with h | ⟨_,a',w',h⟩
    ·unfold Oper.wp at h;generalize (execOp a.eval o).run P w=r at h;cases r with
     |ok n w' =>
      cases n with
      |value v=>have:=ops_defers hQ l _ _ h; rwa [put_def] at this
      |skip=>have:=ops_defers hQ l _ _ h; rwa [put_def] at this
      |defer d=>have:=ops_defers hQ l _ _ h; rw [put_def] at this; cases this
      |enter f args =>
       obtain ⟨e,w'',fr,he,_⟩:=h [];cases e with
       |returned v=>have:=ops_defers hQ l _ _ he; rwa [put_def] at this
       |panicked c=>have:=(hQ _ _ _ he).1; cases this
       |outgrown=>obtain ⟨a',w',he⟩:=he; have:=(hQ _ _ _ he).1; cases this
      |row rw_ args =>
       obtain ⟨v,w'',he,_⟩:=h default [];have:=ops_defers hQ l _ _ he; rwa [put_def] at this
      |_=>exact h.elim
     |halt x w'=>cases x with
      |panic v=>have:=(hQ _ _ _ h).1; cases this
      |_=>exact h.elim
    ·have:=(hQ _ _ _ h).1; cases this
   ·have:=ops_defers hQ l _ _ h; rwa [put_def] at this
theorem ops_in (ro:Option Nat) (df:List Deferred) (hQ:∀ e a w,Q e a w→e = .normal∧a.defers=[]):∀ (l:List Nat) (t:Array Value) (w:World),wpOps P ops Q l ⟨t,[]⟩ w →
  wpOpsIn (rFence ro) 0 P ops (fun e a w=>a.defers=df∧Q e ⟨a.tmps,[]⟩ w) l ⟨t,df⟩ w
 | [],t,w,h=>⟨rfl,h⟩
 |i::l,t,w,h=>by
  have next:∀ (d:Option Nat) (v:Value) (w:World),wpOps P ops Q l ((⟨t,[]⟩:Act).put d v) w→wpOpsIn (rFence ro) 0 P ops (fun e a w=>a.defers=df∧Q e ⟨a.tmps,[]⟩ w) l ((⟨t,df⟩:Act).put d v) w:=fun d v w h=>by
   cases d with
   |none=>exact ops_in ro df hQ l t w h
   |some d=>exact ops_in ro df hQ l _ w h
  have heval:(⟨t,df⟩:Act).eval=(⟨t,[]⟩:Act).eval:=funext fun x=>by cases x <;> rfl
  simp only [wpOps] at h;simp only [wpOpsIn];cases ho:ops[i]? with
  |none=>rw [ho] at h; exact ops_in ro df hQ l t w h
  |some o =>
   rw [ho] at h;simp only at h ⊢;by_cases hw:Region.wanted o (yielded ops t)=true
   ·rw [if_pos hw] at h ⊢;rcases h with h | ⟨_,a',w',h⟩
    case inr=>have:=(hQ _ _ _ h).1; cases this
    refine ⟨fun _ _=>trivial,?_⟩;rw [heval];unfold Oper.wp at h;cases hr:(execOp (⟨t,[]⟩:Act).eval o).run P w with
    |ok n w' =>
     rw [hr] at h;cases n with
     |value v=>rw [semAt_run hr (by simp)]; exact next _ _ _ h
     |skip=>rw [semAt_run hr (by simp)]; exact next _ _ _ h
     |defer d=>have:=ops_defers hQ l _ _ h; rw [put_def] at this; cases this
     |enter f args =>
      rw [semAt_run hr (by simp)];refine ⟨fun e=>by simp [rFence,Fence.wide] at e,?_⟩;have h2:Calls P f args w' fun e w''=>match e with
        | .returned v=>wpOpsIn (rFence ro) 0 P ops (fun e a w=>a.defers=df∧Q e ⟨a.tmps,[]⟩ w) l ((⟨t,df⟩:Act).put o.dst v) w''
        | .panicked chain=>df=df∧Q (.panic chain) ⟨t,[]⟩ w''
        | .outgrown=>LetsOut (fun e a w=>a.defers=df∧Q e ⟨a.tmps,[]⟩ w):=Calls.mono h (fun e w'' he=>by
       cases e with
       |returned v=>exact next _ _ _ he
       |panicked c=>have:=(hQ _ _ _ he).1; cases this
       |outgrown=>obtain ⟨a',w',he⟩:=he; have:=(hQ _ _ _ he).1; cases this)
      have h3:=callsIn_wide (n:=0).2 h2;refine ⟨trivial,fun cs hcs=>?_⟩;obtain ⟨e,w2,fr,k1,k2,k3⟩:=h3.2 cs (room_wide _);refine ⟨e,w2,fr,?_,k2,k3⟩;cases e <;> exact k1
     |row rw_ args =>
      rw [semAt_run hr (by simp)];refine ⟨fun e=>by simp [rFence,Fence.wide] at e,fun c cs _=>?_⟩;obtain ⟨v,w2,k1,k2⟩:=h c cs;exact ⟨v,w2,next _ _ _ k1,stepsIn_wide.2 k2⟩
     |_=>exact h.elim
    |halt x w' =>
     rw [hr] at h;cases x with
     |panic v=>have:=(hQ _ _ _ h).1; cases this
     |_=>exact h.elim
   ·rw [if_neg hw] at h ⊢;exact ⟨fun _ _=>trivial,next _ _ _ h⟩
end
section
variable {E:Env} {ops:Array Oper} {fid:FuncId} {R:Post} {s:List AV} {h:List Box} {lits:List Nat}
theorem AW.anyOrder2 {id:Nat} {k:List AItem} (hm:E.P.follows .mixedOrders=true)
  (H:∀ (c:Cx) (t:Array Value) (Q:Exit→Act→World→Prop),(∀ (a:Act) (c':Cx) (s':List AV) (h':List Box),AW E R.fx.f0 ⟨⟨fid,R.fx.rnd,R.fx.dfs⟩,k,s'⟩ R.fx.cls h' R→HOk E.G c'→c'.heap=h'→a.defers=[]→VS c' s' a.tmps→Step c c'→Q .normal a c'.w)→HOk E.G c→c.heap=h→VS c s t→wpAny E.P .any ops Q ops.size (Array.replicate ops.size false) ⟨t,[]⟩ c.w) :
  AW E R.fx.f0 ⟨⟨fid,R.fx.rnd,R.fx.dfs⟩,.code (.region id ops true)::k,s⟩ R.fx.cls h R:=by
 unfold AW;intro c0 c t ts h0 h1 h2 h3 hr hrow h4 h5 cs;have hx:Proofs.YtajnanldmhpeaaaGreatDoor.Ext c.w { c.w with drawn:=c.w.drawn+1 }:=⟨rfl,rfl,rfl,Nat.le_refl _,fun _ _=>rfl⟩;obtain ⟨g1,g2⟩:=h3.grow hx
 let Q:Exit→Act→World→Prop:=fun e a w=>(e = .normal∧a.defers=[])∧∃ (c':Cx) (s':List AV) (h':List Box),AW E R.fx.f0 ⟨⟨fid,R.fx.rnd,R.fx.dfs⟩,k,s'⟩ R.fx.cls h' R∧HOk E.G c'∧c'.heap=h'∧VS c' s' a.tmps∧Step c c'∧w=c'.w
 have hwp:(Code.region id ops true).wpIn (rFence R.fx.rnd) 0 E.P (fun e a w=>a.defers=marks R.fx.dfs∧Q e ⟨a.tmps,[]⟩ w) ⟨t,marks R.fx.dfs⟩ c.w:=by
  refine wpIn_region_draw fun tt=>?_;simp only [Region.schedule,hm,Bool.true_or,if_true];refine ops_in R.fx.rnd (marks R.fx.dfs) (fun e a w he=>he.1) _ t _ (wpAny_sound ops.size tt _ _ _ ?_);exact H (c.inW { c.w with drawn:=c.w.drawn+1 }) t Q (fun a c' s' h' hK r1 r2 r3 r4 r5=>⟨⟨rfl,r3⟩,c',s',h',hK,r1,r2,r4,g2.trans r5,rfl⟩) g1 h2 (g2.vs h4)
 obtain ⟨e,a',w',⟨hd,⟨⟨rfl,-⟩,c',s',h',hA,r1,r2,r4,r5,rfl⟩⟩,harr⟩:=hwp (bf ⟨fid,R.fx.rnd,R.fx.dfs⟩) (k.map AItem.conc) (concs R.fx.cls ts++cs) rfl trivial (fun d hd=>by cases hd);unfold AW at hA;obtain ⟨c2,fr,r,v,q1,q2,q3,q3',q4,q5,q6⟩:=hA c0 c' a'.tmps ts h0 (ok_tail h1) r2 r1 (hr.step r5) (hrow.step h3 r5) r4 (r5.cr h5) cs;refine ⟨c2,fr,r,v,q1,q2,q3,q3',?_,q5,q6⟩;have ha':a'=⟨a'.tmps,marks R.fx.dfs⟩:=by cases a'; simp only at hd; subst hd; rfl
 have:Steps E.P (lone ((bf ⟨fid,R.fx.rnd,R.fx.dfs⟩).atR ⟨t,marks R.fx.dfs⟩ (.code (.region id ops true)::k.map AItem.conc)) (concs R.fx.cls ts++cs) c.w) (lone ((bf ⟨fid,R.fx.rnd,R.fx.dfs⟩).atR a' (k.map AItem.conc)) (concs R.fx.cls ts++cs) c'.w):=StepsIn.steps harr;rw [ha'] at this;exact this.trans q4
variable {k:List AItem}
theorem AWL.drawR (hE:E.OK) (hm:E.P.follows .mixedOrders=true) (m n:Nat) {id:Nat} (hchk:(chkX ops m m&&Nat.ble m ops.size)=true) (H:takeK m ops.toList fun pre=>dropK m ops.toList fun suf=>drunK E fid R ops k n [] pre suf s h):AWL E fid R lits (.code (.region id ops true)::k) s h:=by
 rw [takeK_eq,dropK_eq] at H;rw [Bool.and_eq_true] at hchk;have hmn:=Nat.le_of_ble_eq_true hchk.2;obtain ⟨pl,hp,x1,x2,x3,-⟩:=plan_join (Nat.le_refl m) hmn (plan_conv2 (drunK_sound hE n [] _ _ s h H));refine .of (AW.anyOrder2 hm fun c t Q hQ h1 h2 h4=>?_);refine phase0 (chkX_spec hchk.1) hmn x1 x2 (Kf:=fun s2 h2=>AW E R.fx.f0 ⟨⟨fid,R.fx.rnd,R.fx.dfs⟩,k,s2⟩ R.fx.cls h2 R) x3 hQ ops.size _ ⟨t,[]⟩ c h1 h2 rfl ?_ (Step.refl c h1.barlt) ⟨by simp,fun j o e _ hl=>by rw [lst0] at hl; cases hl⟩ (fun i _=>lst0 _ i) (cnt0 _ _);rw [cur_none _ 0 s _ (fun i _=>lst0 _ _)];exact h4
variable {o:Oper} {l:List Oper}
theorem AWL.yieldG (n:Nat) {i:LoopG} {fx:Operand} {args:Array Operand} {ts:Array TypeId} {av:List AV} (hl:R.fx.loops[n]? = some (.loop i)) (hg:Wanted ops o s true) (hop:o.op = .call { callee := .value fx,args:=args,argTypes:=ts }) (hf:EvOK E.G s fx (.fn (.yield i.l) [] [])) (ha:EvsOK E.G s args.toList av) (hlen:av.length=i.ps.size)
  (H:AWL E i.fn ⟨R.n,R.Q,R.rows,⟨R.fx.f0,some i.l,[],⟨⟨fid,R.fx.rnd,R.fx.dfs⟩,.reg ops (o::l)::k,s⟩::R.fx.cls,R.fx.loops,R.fx.inl⟩⟩ [] [.code i.assign,.begR,.code i.body] (setPs i.ps.toList av i.slots) h):AWL E fid R lits (.reg ops (o::l)::k) s h:=by
 refine .of ?_;unfold AW;intro c0 c t tt h0 h1 h2 h3 hr hrow h4 h5 cs;subst h2;obtain ⟨j,hj,hcn,hok⟩:=reg_at (h1 _ (List.mem_cons_self ..));have hi:LoopOK c0.w.heap.size c i:=hrow.all.each _ (List.mem_append_right _ (List.mem_of_getElem? hl));obtain ⟨v1,v2,e1,e2,e3⟩:=vr_fn (hf c ⟨t,marks R.fx.dfs⟩ h3 h4);obtain rfl:v1=[]:=List.eq_nil_of_length_eq_zero (by simpa using e2.1.symm);obtain rfl:v2=[]:=List.eq_nil_of_length_eq_zero (by simpa using e3.1.symm);have e4:=ha c ⟨t,marks R.fx.dfs⟩ h3 h4;have H:=H.to;unfold AW at H;have hsize:(#[]++args.map (⟨t,marks R.fx.dfs⟩:Act).eval).size=i.rcd.params.size:=by
  have:=e4.1;simp at this ⊢;rw [← this,hlen];rfl
 have hvs:=vs_setPs (ps:=i.ps.toList) hi.slots e4;obtain ⟨c2,fr,r,v,q1,q2,q3,q4,q5,q6⟩:=H c0 c _ (t::tt) h0 (fun x hx=>by simp at hx; rcases hx with rfl | rfl | rfl <;> trivial) rfl h3 hr hrow hvs ⟨h4,h1,h5⟩ cs;refine ⟨c2,fr,r,v,q1,q2,q3,q4,.head ?_ q5,q6⟩;have hrun:(execOp (⟨t,marks R.fx.dfs⟩:Act).eval o).run E.P c.w = .ok (.round i.l i.fn ((i.ps.toList.zip (args.toList.map (⟨t,marks R.fx.dfs⟩:Act).eval)).foldl (fun t (p,v)=>t.setIfInBounds p v) i.tm) i.assign i.body) c.w:=by
  have hy:=run_yield (P:=E.P) hi.mem hsize;simp only [execOp,hop,resolve,e1,Deferred.ofValue,invoke,Sem.run_bind,Sem.run_pure,Result.andThen_ok,hy]
  congr 2
  rw [← Array.foldl_toList,Array.toList_zip];simp [LoopG.rcd]
 have hs:=step_round (P:=E.P) (b:=bf ⟨fid,R.fx.rnd,R.fx.dfs⟩) (a:=⟨t,marks R.fx.dfs⟩) (k:=k.map AItem.conc) (cs:=concs R.fx.cls tt++cs) (rest:=(List.range ops.size).drop (ops.size - l.length)) hj (hg c t h4) hrun;simp only [AFrame.conc,List.map_cons,concs,hcn,List.cons_append];exact hs
theorem wanted_test {o oj:Oper} {j d:Nat} {s:List AV} (h:o.guard=some (j,true)) (hj:ops.toList[j]? = some oj) (hd:oj.dst=some d) (hs:s[d]? = some (.d (.bool true))):Wanted ops o s true:=wanted_lit (b:=true) h hj hd hs
end
end Go.Eng
