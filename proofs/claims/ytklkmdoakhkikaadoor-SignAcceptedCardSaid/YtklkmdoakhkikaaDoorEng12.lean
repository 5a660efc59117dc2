/- The engine, part 12: runs that compute. No conditions. -/
import Derived.Test.YtklkmdoakhkikaaDoorEngF
namespace Go.Eng
open Go Go.RowKit

/-- A test whose outcome is not known. -/
@[irreducible] def caseB (b : Bool) (A B : Prop) : Prop := (b = true → A) ∧ (b = false → B)
theorem caseB_split {b : Bool} {A B : Prop} (h1 : b = true → A) (h2 : b = false → B) : caseB b A B := by unfold caseB; exact ⟨h1, h2⟩
theorem caseB_true {A B : Prop} (h : A) : caseB true A B := caseB_split (fun _ => h) (fun h => by cases h)
theorem caseB_false {A B : Prop} (h : B) : caseB false A B := caseB_split (fun h => by cases h) (fun _ => h)
theorem caseB_yes {b : Bool} {A B : Prop} (hb : b = true) (h : A) : caseB b A B := by subst hb; exact caseB_true h
theorem caseB_no {b : Bool} {A B : Prop} (hb : b = false) (h : B) : caseB b A B := by subst hb; exact caseB_false h
theorem caseB_elim {b : Bool} {A B C : Prop} (h : caseB b A B) (h1 : b = true → A → C) (h2 : b = false → B → C) : C := by
  unfold caseB at h
  cases hb : b
  · exact h2 hb (h.2 hb)
  · exact h1 hb (h.1 hb)

/-- A call: by a contract. -/
@[irreducible] def callP (E : Env) (f : FuncId) (ds : List DV) (h : List Box) (K : AV → List Box → Prop) : Prop :=
  (∃ R1, PCalls E f ds R1 ∧ ∀ r, R1 r → K (.d r) h) ∨ ∃ Q, ACalls E f [] (ds.map .d) Q ∧ ∀ r h1, Q r h1 → K (reV [] h r) (reH [] h h1)
theorem callP_any {E : Env} {f : FuncId} {ds : List DV} {h : List Box} {K : AV → List Box → Prop} {R1 : DV → Prop} (hc : PCalls E f ds R1) (hk : ∀ r, R1 r → K (.d r) h) : callP E f ds h K := by unfold callP; exact .inl ⟨R1, hc, hk⟩
theorem callP_eq {E : Env} {f : FuncId} {ds : List DV} {h : List Box} {K : AV → List Box → Prop} {r : DV} (hc : PCalls E f ds (· = r)) (hk : K (.d r) h) : callP E f ds h K := callP_any hc fun _ e => e ▸ hk
/-- The same where the result is new memory that may be changed further. -/
theorem callP_new {E : Env} {f : FuncId} {ds : List DV} {h : List Box} {K : AV → List Box → Prop} {Q : AV → List Box → Prop} (hc : ACalls E f [] (ds.map .d) Q) (hk : ∀ r h1, Q r h1 → reVK [] h r fun v => reHK [] h h1 fun h' => K v h') : callP E f ds h K := by
  unfold callP
  refine .inr ⟨Q, hc, fun r h1 hq => ?_⟩
  have := hk r h1 hq
  rw [reVK_eq, reHK_eq] at this
  exact this
theorem callP_own {E : Env} {f : FuncId} {ds : List DV} {h : List Box} {K : AV → List Box → Prop} {r : AV} {h1 : List Box} {args : List AV} (hc : ACalls E f [] args (fun a b => a = r ∧ b = h1)) (ha : args = ds.map .d) (hk : reVK [] h r fun v => reHK [] h h1 fun h' => K v h') : callP E f ds h K :=
  callP_new (ha ▸ hc) fun _ _ ⟨e1, e2⟩ => by subst e1; subst e2; exact hk

def callK (G : List (Nat × DV)) (s : List AV) (o : Oper) (stop : Prop) (k : FuncId → List AV → Prop) : Prop :=
  match o.op with
  | .call { callee := .value fx, args := args, .. } => evalK G s fx stop fun
    | .fn (.func f) a1 a2 => evalsK G s args.toList stop fun av => appendK a1 av fun a3 => appendK a3 a2 fun a4 => k f a4
    | .d (.fn (.func f)) => evalsK G s args.toList stop fun av => k f av
    | _ => stop
  | _ => stop
/-- A call: with pure values, or with boxes handed over. -/
def callsK (E : Env) (s : List AV) (h : List Box) (o : Oper) (stop : Prop) (k : AV → List Box → Prop) : Prop :=
  callK E.G s o stop fun f avs => allDK avs (callBK E f avs h stop k) fun ds => callP E f ds h k
theorem callK_sound {G : List (Nat × DV)} {s : List AV} {o : Oper} {stop : Prop} {k : FuncId → List AV → Prop} (H : callK G s o stop k) : stop ∨ ∃ (fx : Operand) (args : Array Operand) (ts : Array TypeId) (f : FuncId) (a1 av a2 : List AV),
    o.op = .call { callee := .value fx, args := args, argTypes := ts } ∧ EvOK G s fx (.fn (.func f) a1 a2) ∧ EvsOK G s args.toList av ∧ k f (a1 ++ av ++ a2) := by
  unfold callK at H
  split at H
  · rename_i fx args ts hop
    rcases evalK_sound H with H | ⟨v, hv, H⟩
    · exact .inl H
    split at H
    · rename_i f a1 a2
      rcases evalsK_sound H with H | ⟨av, hav, H⟩
      · exact .inl H
      rw [appendK_eq, appendK_eq] at H
      exact .inr ⟨fx, args, ts, f, a1, av, a2, hop, hv, hav, H⟩
    · rename_i f
      rcases evalsK_sound H with H | ⟨av, hav, H⟩
      · exact .inl H
      refine .inr ⟨fx, args, ts, f, [], av, [], hop, fun c a h1 h2 => ?_, hav, by simpa using H⟩
      have := hv c a h1 h2
      generalize a.eval fx = u at this
      cases this with
      | d _ _ hx =>
        cases hx
        exact .fn _ _ _ _ _ rfl rfl (fun j x v hx => by simp at hx) (fun j x v hx => by simp at hx)
    · exact .inl H
  · exact .inl H

def guardK (ops : Array Oper) (g : Option (Nat × Bool)) (no stop : Prop) (k : Nat → Bool → Prop) : Prop :=
  match g with
  | none => no
  | some (j, b) => getK ops.toList j stop fun o => match o.dst with
    | some d => k d b
    | none => stop

def memB (d : Nat) : List Nat → Bool
  | [] => false
  | a :: l => match Nat.beq a d with
    | true => true
    | false => memB d l

def sameB : Bool → Bool → Bool
  | true, true => true
  | false, false => true
  | _, _ => false

def exitK (id : Nat) : List AItem → (stop : Prop) → (List AItem → Prop) → Prop
  | .inBlock i :: r, stop, k => match Nat.beq i id with
    | true => k r
    | false => exitK id r stop k
  | _ :: r, stop, k => exitK id r stop k
  | [], stop, _ => stop
theorem exitK_sound {id : Nat} {stop : Prop} {k : List AItem → Prop} : ∀ {l : List AItem}, exitK id l stop k → stop ∨ ∃ r, exitA id l = some r ∧ k r
  | [], H => .inl H
  | .inBlock i :: l, H => by
    simp only [exitK] at H
    split at H
    · rename_i q; exact .inr ⟨l, by simp only [exitA, q], H⟩
    · rename_i q
      rcases exitK_sound H with h | ⟨r, hr, h⟩
      · exact .inl h
      · exact .inr ⟨r, by simp only [exitA, q]; exact hr, h⟩
  | .code c :: l, H => exitK_sound (l := l) H
  | .inLoop c :: l, H => exitK_sound (l := l) H
  | .reg ops q :: l, H => exitK_sound (l := l) H

/-- The configuration of a run: slots that are known to hold a written-out bool, what is to do, slots, boxes. -/
@[irreducible] def AWL (E : Env) (fid : FuncId) (R : Post) (_lits : List Nat) (td : List AItem) (s : List AV) (h : List Box) : Prop := AW E fid ⟨fid, td, s⟩ [] h R
theorem AWL.of {E : Env} {fid : FuncId} {R : Post} {lits : List Nat} {td : List AItem} {s : List AV} {h : List Box} (H : AW E fid ⟨fid, td, s⟩ [] h R) : AWL E fid R lits td s h := by unfold AWL; exact H
theorem AWL.to {E : Env} {fid : FuncId} {R : Post} {lits : List Nat} {td : List AItem} {s : List AV} {h : List Box} (H : AWL E fid R lits td s h) : AW E fid ⟨fid, td, s⟩ [] h R := by unfold AWL at H; exact H

/-- A run up to the next test, call, fact that is owed, or loop. -/
def runK (E : Env) (fid : FuncId) (rs : List ResultVar) (R : Post) : Nat → List Nat → List AItem → List AV → List Box → Prop
  | 0, lits, td, s, h => AWL E fid R lits td s h
  | n + 1, lits, td, s, h =>
    match td with
    | [] => retK E.T s h rs (AWL E fid R lits td s h) R.Q
    | .inBlock _ :: r => runK E fid rs R n lits r s h
    | .inLoop _ :: _ => AWL E fid R lits td s h
    | .code c :: r => match c with
      | .skip => runK E fid rs R n lits r s h
      | .seq a b => runK E fid rs R n lits (.code a :: .code b :: r) s h
      | .block id b => runK E fid rs R n lits (.code b :: .inBlock id :: r) s h
      | .exit id => exitK id r (AWL E fid R lits td s h) fun r' => runK E fid rs R n lits r' s h
      | .region _ ops false => runK E fid rs R n lits (.reg ops ops.toList :: r) s h
      | .ret => retK E.T s h rs (AWL E fid R lits td s h) R.Q
      | .cond x a b => evalK E.G s x (AWL E fid R lits td s h) fun
        | .d (.bool t) => caseB t (AWL E fid R lits (.code a :: r) s h) (AWL E fid R lits (.code b :: r) s h)
        | _ => AWL E fid R lits td s h
      | _ => AWL E fid R lits td s h
    | .reg _ [] :: r => runK E fid rs R n lits r s h
    | .reg ops (o :: l) :: r =>
      let go : Prop := opK E.T E.G o.op s h (plainK E o.op s h (sideMK E o.op s h (callsK E s h o (AWL E fid R lits td s h) fun v h' => putK s o.dst v fun s' => AWL E fid R lits (.reg ops l :: r) s' h')
          fun v h' => putK s o.dst v fun s' => AWL E fid R lits (.reg ops l :: r) s' h')
          fun v h' => putK s o.dst v fun s' => runK E fid rs R n lits (.reg ops l :: r) s' h')
        fun v h' => putK s o.dst v fun s' => runK E fid rs R n lits (.reg ops l :: r) s' h'
      guardK ops o.guard go (AWL E fid R lits td s h) fun d b => getK s d (AWL E fid R lits td s h) fun
        | .d (.bool t) => match memB d lits with
          | false => caseB t (setK s d (.d (.bool true)) fun s' => AWL E fid R (d :: lits) td s' h) (setK s d (.d (.bool false)) fun s' => AWL E fid R (d :: lits) td s' h)
          | true => match sameB t b with
            | true => go
            | false => putK s o.dst (.d .undef) fun s' => runK E fid rs R n lits (.reg ops l :: r) s' h
        | .d .undef => putK s o.dst (.d .undef) fun s' => runK E fid rs R n lits (.reg ops l :: r) s' h
        | _ => AWL E fid R lits td s h

section
variable {E : Env} {fid : FuncId} {R : Post}

theorem set_same {β : Type} : ∀ {l : List β} {d : Nat} {x : β}, l[d]? = some x → l.set d x = l
  | [], _, _, h => by simp at h
  | a :: l, 0, x, h => by simp at h; subst h; rfl
  | a :: l, d + 1, x, h => by simp only [List.set_cons_succ]; rw [set_same (by simpa using h)]

theorem runK_sound (hE : E.OK) {fn : Func} (hf : E.P.funcs[fid]? = some fn) : ∀ (n : Nat) (lits : List Nat) (td : List AItem) (s : List AV) (h : List Box),
    runK E fid fn.results.toList R n lits td s h → AW E fid ⟨fid, td, s⟩ [] h R := by
  have ret : ∀ (lits : List Nat) (td : List AItem) (s : List AV) (h : List Box), (td = [] ∨ ∃ r, td = .code .ret :: r) → retK E.T s h fn.results.toList (AWL E fid R lits td s h) R.Q → AW E fid ⟨fid, td, s⟩ [] h R := by
    intro lits td s h htd H
    by_cases hA : AWL E fid R lits td s h
    · exact hA.to
    · rw [eq_false hA] at H
      rcases htd with rfl | ⟨r, rfl⟩
      · exact .fall hE hf H
      · exact .ret hE hf H
  intro n
  induction n with
  | zero => intro lits td s h H; exact AWL.to H
  | succ n ih =>
    intro lits td s h H
    unfold runK at H
    split at H
    · exact ret _ _ s h (.inl rfl) H
    · exact .inBlock (ih _ _ _ _ H)
    · exact AWL.to H
    · rename_i c r
      split at H
      · exact .skip (ih _ _ _ _ H)
      · exact .seq (ih _ _ _ _ H)
      · exact .block (ih _ _ _ _ H)
      · rcases exitK_sound H with h' | ⟨r', hr, H⟩
        · exact h'.to
        · exact .exit hr (ih _ _ _ _ H)
      · exact .region (ih _ _ _ _ H)
      · exact ret _ _ s h (.inr ⟨_, rfl⟩) H
      · rcases evalK_sound H with h' | ⟨v, hv, H⟩
        · exact h'.to
        split at H
        · rename_i t
          refine caseB_elim H (fun e H2 => ?_) (fun e H2 => ?_)
          · subst e; exact .cond hv (by simpa using H2.to)
          · subst e; exact .cond hv (by simpa using H2.to)
        · exact AWL.to H
      · exact AWL.to H
    · exact .regEnd (ih _ _ _ _ H)
    · rename_i ops o l r
      have go : Wanted ops o s true → (opK E.T E.G o.op s h (plainK E o.op s h (sideMK E o.op s h (callsK E s h o (AWL E fid R lits (.reg ops (o :: l) :: r) s h) fun v h' => putK s o.dst v fun s' => AWL E fid R lits (.reg ops l :: r) s' h')
            fun v h' => putK s o.dst v fun s' => AWL E fid R lits (.reg ops l :: r) s' h')
            fun v h' => putK s o.dst v fun s' => runK E fid fn.results.toList R n lits (.reg ops l :: r) s' h')
          fun v h' => putK s o.dst v fun s' => runK E fid fn.results.toList R n lits (.reg ops l :: r) s' h') → AW E fid ⟨fid, .reg ops (o :: l) :: r, s⟩ [] h R := by
        intro hw H
        rcases opK_sound hE H with H | ⟨v, h', H, ho⟩
        · rcases plainK_sound hE H with H | ⟨v, h', H, ho⟩
          case inr =>
            rw [putK_eq] at H
            exact .op hw ho (ih _ _ _ _ H)
          rcases sideMK_sound hE H with H | ⟨v, h', H, ho⟩
          case inr =>
            rw [putK_eq] at H
            exact .op hw ho H.to
          unfold callsK at H
          rcases callK_sound H with H | ⟨fx, args, ts, f, a1, av, a2, hop, hv, hav, H⟩
          · exact AWL.to H
          rcases allDK_cases (a1 ++ av ++ a2) (callBK E f (a1 ++ av ++ a2) h (AWL E fid R lits (.reg ops (o :: l) :: r) s h) fun v h' => putK s o.dst v fun s' => AWL E fid R lits (.reg ops l :: r) s' h') (fun ds => callP E f ds h fun v h' => putK s o.dst v fun s' => AWL E fid R lits (.reg ops l :: r) s' h') with ⟨ds, e1, e2⟩ | e2
          · rw [e2] at H
            unfold callP at H
            rcases H with ⟨R1, hc, hk⟩ | ⟨Q, hc, hk⟩
            · refine .call hw hop hv hav e1 hc fun u hu => ?_
              have := hk u hu
              simp only [putK_eq] at this
              exact this.to
            · refine .acall (sel := []) hw hop hv hav (Q := Q) ?_ List.nodup_nil (fun j hj => by simp at hj) fun u h1 hu => ?_
              · have e3 : (a1 ++ av ++ a2).map (unV [] h) = ds.map .d := by rw [e1, List.map_map]; rfl
                rw [e3]
                exact hc
              · have := hk u h1 hu
                simp only [putK_eq] at this
                exact this.to
          · rw [e2] at H
            rcases callBK_sound H with H | ⟨sel, Q, hc, hn, hlt, hk⟩
            · exact AWL.to H
            refine .acall hw hop hv hav hc hn hlt fun u h1 hu => ?_
            have := hk u h1 hu
            simp only [putK_eq] at this
            exact this.to
        · rw [putK_eq] at H
          exact .op hw ho (ih _ _ _ _ H)
      dsimp only at H
      unfold guardK at H
      split at H
      · rename_i hg
        exact go (wanted_none hg) H
      · rename_i j b hg
        rcases getK_or H with H | ⟨oj, hoj, H⟩
        · exact AWL.to H
        split at H
        · rename_i d hd
          rcases getK_or H with H | ⟨x, hx, H⟩
          · exact AWL.to H
          split at H
          · rename_i t
            split at H
            · refine caseB_elim H (fun e H2 => ?_) (fun e H2 => ?_)
              · subst e
                rw [setK_eq, set_same hx] at H2
                exact AWL.to H2
              · subst e
                rw [setK_eq, set_same hx] at H2
                exact AWL.to H2
            · have hw := wanted_lit hg hoj hd hx
              split at H
              · rename_i q
                have : (t == b) = true := by cases t <;> cases b <;> first | rfl | cases q
                rw [this] at hw
                exact go hw H
              · rename_i q
                have : (t == b) = false := by cases t <;> cases b <;> first | rfl | cases q
                rw [this] at hw
                rw [putK_eq] at H
                exact .opSkip hw (ih _ _ _ _ H)
          · rw [putK_eq] at H
            exact .opSkip (wanted_undef hg hoj hd hx) (ih _ _ _ _ H)
          · exact AWL.to H
        · exact AWL.to H

/-- A run, as far as it goes. -/
theorem AWL.run (hE : E.OK) {fn : Func} (hf : E.P.funcs[fid]? = some fn) (n : Nat) {lits : List Nat} {td : List AItem} {s : List AV} {h : List Box} (H : runK E fid fn.results.toList R n lits td s h) : AWL E fid R lits td s h := .of (runK_sound hE hf n lits td s h H)

/-- A function's contract, by a run. -/
theorem PCalls.run (hE : E.OK) {fn : Func} (hf : E.P.funcs[fid]? = some fn) {body : Code} (hb : fn.body = some body) (hn : (fn.name == "runtime.NumGoroutine") = false) (n : Nat) {args : List DV} {R : DV → Prop}
    (H : mapK .d args fun a => runK E fid fn.results.toList ⟨0, deepQ R⟩ n [] [.code body] (enterS a fn.ntmps) []) : PCalls E fid args R := by
  rw [mapK_eq] at H
  exact .of_A (.of_AW hf hb hn (fun i g ts l h => by simp at h) (runK_sound hE hf n _ _ _ _ H))

/-- No generations yet? -/
def freshB : List Box → Bool
  | [] => true
  | .arr g _ _ :: l => match Nat.beq g 0 with
    | true => freshB l
    | false => false
  | _ :: l => freshB l
theorem freshB_spec : ∀ {h : List Box}, freshB h = true → Fresh h
  | [], _ => fun i g ts l h => by simp at h
  | b :: r, H => by
    have hr : freshB r = true := by
      unfold freshB at H
      split at H
      · rename_i e; cases e
      · rename_i e; cases e; split at H
        · exact H
        · cases H
      · rename_i e; cases e; exact H
    intro i g ts l h
    cases i with
    | zero =>
      simp at h
      subst h
      simp only [freshB] at H
      split at H
      · rename_i q; exact Nat.eq_of_beq_eq_true q
      · cases H
    | succ i => exact freshB_spec hr i g ts l (by simpa using h)

theorem ACalls.run (hE : E.OK) {fn : Func} (hf : E.P.funcs[fid]? = some fn) {body : Code} (hb : fn.body = some body) (hn : (fn.name == "runtime.NumGoroutine") = false) (n : Nat) {h : List Box} (hfr : freshB h = true) {args : List AV} {Q : AV → List Box → Prop}
    (H : runK E fid fn.results.toList ⟨h.length, Q⟩ n [] [.code body] (enterS args fn.ntmps) h) : ACalls E fid h args Q := 
  .of_AW hf hb hn (freshB_spec hfr) (runK_sound hE hf n _ _ _ _ H)

end
end Go.Eng
