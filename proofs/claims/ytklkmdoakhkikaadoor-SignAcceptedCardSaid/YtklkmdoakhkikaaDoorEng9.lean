/- The engine, part 9: the abstract machine, and that the model goes as it goes. No conditions. -/
import Derived.Test.YtklkmdoakhkikaaDoorEng8
namespace Go.Eng
open Go Go.RowKit

inductive AItem where
  | code (c : Code)
  | inBlock (id : Nat)
  | inLoop (c : Code)
  | reg (ops : Array Oper) (l : List Oper)

def AItem.conc : AItem → Item
  | .code c => .code c
  | .inBlock id => .inBlock id
  | .inLoop c => .inLoop c
  | .reg ops l => .inRegion ops ((List.range ops.size).drop (ops.size - l.length))

def AItem.ok : AItem → Prop
  | .reg ops l => ∃ n, n ≤ ops.size ∧ l = ops.toList.drop n
  | _ => True

structure AFrame where
  fid : FuncId
  todo : List AItem
  slots : List AV

def bf (f : FuncId) : Frame := { (default : Frame) with fn := f, kind := .normal }
def AFrame.conc (f : AFrame) (t : Array Value) : Frame := (bf f.fid).at ⟨t, []⟩ (f.todo.map AItem.conc)
def AFrame.ok (f : AFrame) : Prop := ∀ i ∈ f.todo, i.ok

/-- The callers. -/
def concs : List AFrame → List (Array Value) → List Frame
  | f :: fs, t :: ts => f.conc t :: concs fs ts
  | _, _ => []
def CR (c : Cx) : List AFrame → List (Array Value) → Prop
  | [], [] => True
  | f :: fs, t :: ts => VS c f.slots t ∧ f.ok ∧ CR c fs ts
  | _, _ => False
theorem Step.cr {c c' : Cx} (h : Step c c') : ∀ {fs : List AFrame} {ts : List (Array Value)}, CR c fs ts → CR c' fs ts
  | [], [], _ => trivial
  | _ :: _, _ :: _, h' => ⟨h.vs h'.1, h'.2.1, h.cr h'.2.2⟩

/-- What a box of the start has become. -/
def RelBox (c0 c : Cx) (i : Nat) : Box → Prop
  | .cells cs => (∃ cs', c.heap[i]? = some (.cells cs') ∧ c.own i = c0.own i ∧ cs'.length = cs.length) ∨ c.heap[i]? = some .gone
  | .arr _ ts l => (∃ g' l', c.heap[i]? = some (.arr g' ts l') ∧ (0 < g' ∨ g' = 0 ∧ l'.length = l.length ∧ c.own i = c0.own i)) ∨ c.heap[i]? = some .gone
  | .map _ => (∃ es', c.heap[i]? = some (.map es') ∧ c.own i = c0.own i) ∨ c.heap[i]? = some .gone
  | .gone => c.heap[i]? = some .gone
/-- What has become of the start of an activation. -/
structure Rel (c0 c : Cx) : Prop where
  bar : c.bar = c0.bar
  os : c.w.os = c0.w.os
  tape : c.w.tape = c0.w.tape
  output : c.w.output = c0.w.output
  size : c0.w.heap.size ≤ c.w.heap.size
  keep : ∀ b, b < c0.w.heap.size → (∀ i n, c0.own i ≠ some (b, n)) → c.w.heap[b]? = c0.w.heap[b]?
  newown : ∀ i b n, c.own i = some (b, n) → b < c0.w.heap.size → ∃ j m, c0.own j = some (b, m)
  boxes : ∀ i bx, c0.heap[i]? = some bx → RelBox c0 c i bx

/-- All arrays are as at the start. -/
def Fresh (h : List Box) : Prop := ∀ (i g : Nat) (ts : Nat × Nat) (l : List DV), h[i]? = some (.arr g ts l) → g = 0

theorem Rel.refl (c : Cx) (hf : Fresh c.heap) : Rel c c := ⟨rfl, rfl, rfl, rfl, Nat.le_refl _, fun _ _ _ => rfl, fun i b n h _ => ⟨i, n, h⟩, fun i bx h => by
    cases bx with
    | cells cs => exact .inl ⟨cs, h, rfl, rfl⟩
    | arr g sz l => exact .inl ⟨g, l, h, .inr ⟨hf i g sz l h, rfl, rfl⟩⟩
    | map es => exact .inl ⟨es, h, rfl⟩
    | gone => exact h⟩

theorem Rel.step {c0 c c' : Cx} (h : Rel c0 c) (k : Step c c') : Rel c0 c' where
  bar := k.bar.trans h.bar
  os := k.os.trans h.os
  tape := k.tape.trans h.tape
  output := k.output.trans h.output
  size := Nat.le_trans h.size k.size
  keep := fun x hx hn => by
    rw [k.keep x (Nat.lt_of_lt_of_le hx h.size) (fun i n hi => by obtain ⟨j, m, hj⟩ := h.newown i x n hi hx; exact hn j m hj)]
    exact h.keep x hx hn
  newown := fun i x n hi hx => by
    obtain ⟨j, m, hj⟩ := k.newown i x n hi (Nat.lt_of_lt_of_le hx h.size)
    exact h.newown j x m hj hx
  boxes := fun i bx hi => by
    have h1 := h.boxes i bx hi
    cases bx with
    | cells cs =>
      rcases h1 with ⟨cs', h1, h2, h3⟩ | h1
      · rcases k.boxes i _ h1 with ⟨cs'', k1, k2, k3⟩ | k1
        · exact .inl ⟨cs'', k1, k2.trans h2, k3.trans h3⟩
        · exact .inr k1
      · exact .inr (k.boxes i _ h1)
    | arr g sz l =>
      rcases h1 with ⟨g', l', h1, h2⟩ | h1
      · rcases k.boxes i _ h1 with ⟨g'', l'', k1, k2⟩ | k1
        · refine .inl ⟨g'', l'', k1, ?_⟩
          rcases h2 with h2 | ⟨h2, h3, h4⟩ <;> rcases k2 with k2 | ⟨k2, k3, k4⟩
          · left; omega
          · left; omega
          · left; omega
          · exact .inr ⟨k2.trans h2, k3.trans h3, k4.trans h4⟩
        · exact .inr k1
      · exact .inr (k.boxes i _ h1)
    | map es =>
      rcases h1 with ⟨es', h1, h2⟩ | h1
      · rcases k.boxes i _ h1 with ⟨es'', k1, k2⟩ | k1
        · exact .inl ⟨es'', k1, k2.trans h2⟩
        · exact .inr k1
      · exact .inr (k.boxes i _ h1)
    | gone => exact k.boxes i _ h1

/-- What is wanted at the end: how many boxes there were at the start, and what is to hold of the result and the boxes. -/
structure Post where
  n : Nat
  Q : AV → List Box → Prop

/-- From this configuration the activation f0 returns what is wanted. -/
@[irreducible] def AW (E : Env) (f0 : FuncId) (cur : AFrame) (cls : List AFrame) (h : List Box) (R : Post) : Prop :=
  ∀ (c0 c : Cx) (t : Array Value) (ts : List (Array Value)), c0.heap.length = R.n → cur.ok → c.heap = h → HOk E.G c → Rel c0 c → VS c cur.slots t → CR c cls ts → ∀ cs, ∃ (c' : Cx) (fr : Frame) (r : AV) (v : Value),
    R.Q r c'.heap ∧ VR c' r v ∧ HOk E.G c' ∧ Rel c0 c' ∧ Steps E.P (lone (cur.conc t) (concs cls ts ++ cs) c.w) (lone fr cs c'.w) ∧ fr.fn = f0 ∧ fr.leaving E.P c'.w (.returned v)

/-- One configuration comes from another. -/
def Leads (E : Env) (cur : AFrame) (cls : List AFrame) (h : List Box) (cur' : AFrame) (cls' : List AFrame) (h' : List Box) : Prop :=
  ∀ (c : Cx) (t : Array Value) (ts : List (Array Value)), cur.ok → c.heap = h → HOk E.G c → VS c cur.slots t → CR c cls ts → ∃ (c' : Cx) (t' : Array Value) (ts' : List (Array Value)),
    cur'.ok ∧ c'.heap = h' ∧ HOk E.G c' ∧ VS c' cur'.slots t' ∧ CR c' cls' ts' ∧ Step c c' ∧ ∀ cs, Steps E.P (lone (cur.conc t) (concs cls ts ++ cs) c.w) (lone (cur'.conc t') (concs cls' ts' ++ cs) c'.w)

theorem AW.of_leads {E : Env} {f0 : FuncId} {cur cur' : AFrame} {cls cls' : List AFrame} {h h' : List Box} {R : Post} (hl : Leads E cur cls h cur' cls' h') (H : AW E f0 cur' cls' h' R) : AW E f0 cur cls h R := by
  unfold AW at H ⊢
  intro c0 c t ts h0 h1 h2 h3 hr h4 h5 cs
  obtain ⟨c', t', ts', k1, k2, k3, k4, k5, k6, k7⟩ := hl c t ts h1 h2 h3 h4 h5
  obtain ⟨c2, fr, r, v, e1, e2, e3, e4, e5, e6⟩ := H c0 c' t' ts' h0 k1 k2 k3 (hr.step k6) k4 k5 cs
  exact ⟨c2, fr, r, v, e1, e2, e3, e4, (k7 cs).trans e5, e6⟩

section
variable {E : Env} {f0 fid : FuncId} {k : List AItem} {s : List AV} {cls : List AFrame} {h : List Box} {R : Post}

/-- A step that changes nothing but what is to do. -/
theorem Leads.todo {td td' : List AItem} (hok : (∀ i ∈ td, i.ok) → ∀ i ∈ td', i.ok) (hs : ∀ (a : Act) (cs : List Frame) (w : World), step E.P (lone ((bf fid).at a (td.map AItem.conc)) cs w) = .next (lone ((bf fid).at a (td'.map AItem.conc)) cs w)) :
    Leads E ⟨fid, td, s⟩ cls h ⟨fid, td', s⟩ cls h := fun c t ts h1 h2 h3 h4 h5 =>
  ⟨c, t, ts, hok h1, h2, h3, h4, h5, Step.refl c h3.barlt, fun _ => .one (hs _ _ _)⟩

theorem ok_tail {i : AItem} (h : ∀ j ∈ i :: k, j.ok) : ∀ j ∈ k, j.ok := fun j hj => h j (List.mem_cons_of_mem _ hj)
theorem ok_code {c : Code} : (AItem.code c).ok := trivial
theorem ok_inBlock {n : Nat} : (AItem.inBlock n).ok := trivial
theorem ok_inLoop {c : Code} : (AItem.inLoop c).ok := trivial
theorem ok_cons {i : AItem} (h : i.ok) (hk : ∀ j ∈ k, j.ok) : ∀ j ∈ i :: k, j.ok := fun j hj => by
  rcases List.mem_cons.1 hj with rfl | hj
  · exact h
  · exact hk j hj

theorem AW.skip (H : AW E f0 ⟨fid, k, s⟩ cls h R) : AW E f0 ⟨fid, .code .skip :: k, s⟩ cls h R := .of_leads (.todo ok_tail fun _ _ _ => step_skip) H
theorem AW.inBlock {id : Nat} (H : AW E f0 ⟨fid, k, s⟩ cls h R) : AW E f0 ⟨fid, .inBlock id :: k, s⟩ cls h R := .of_leads (.todo ok_tail fun _ _ _ => step_inBlock) H
theorem AW.seq {a b : Code} (H : AW E f0 ⟨fid, .code a :: .code b :: k, s⟩ cls h R) : AW E f0 ⟨fid, .code (.seq a b) :: k, s⟩ cls h R := .of_leads (.todo (fun h => ok_cons ok_code (ok_cons ok_code (ok_tail h))) fun _ _ _ => step_seq) H
theorem AW.block {id : Nat} {b : Code} (H : AW E f0 ⟨fid, .code b :: .inBlock id :: k, s⟩ cls h R) : AW E f0 ⟨fid, .code (.block id b) :: k, s⟩ cls h R := .of_leads (.todo (fun h => ok_cons ok_code (ok_cons ok_inBlock (ok_tail h))) fun _ _ _ => step_block) H
theorem AW.loop {b : Code} (H : AW E f0 ⟨fid, .code b :: .inLoop b :: k, s⟩ cls h R) : AW E f0 ⟨fid, .code (.loop b) :: k, s⟩ cls h R := .of_leads (.todo (fun h => ok_cons ok_code (ok_cons ok_inLoop (ok_tail h))) fun _ _ _ => step_loop) H
theorem AW.inLoop {b : Code} (H : AW E f0 ⟨fid, .code b :: .inLoop b :: k, s⟩ cls h R) : AW E f0 ⟨fid, .inLoop b :: k, s⟩ cls h R := .of_leads (.todo (fun h => ok_cons ok_code (ok_cons ok_inLoop (ok_tail h))) fun _ _ _ => step_inLoop) H

theorem AW.region {id : Nat} {ops : Array Oper} (H : AW E f0 ⟨fid, .reg ops ops.toList :: k, s⟩ cls h R) : AW E f0 ⟨fid, .code (.region id ops false) :: k, s⟩ cls h R :=
  .of_leads (.todo (fun h => ok_cons (i := .reg ops ops.toList) ⟨0, by simp, by simp⟩ (ok_tail h)) fun a cs w => by
    rw [List.map_cons, List.map_cons]
    simp only [AItem.conc]
    rw [step_region]
    simp) H
theorem AW.regEnd {ops : Array Oper} (H : AW E f0 ⟨fid, k, s⟩ cls h R) : AW E f0 ⟨fid, .reg ops [] :: k, s⟩ cls h R :=
  .of_leads (.todo ok_tail fun a cs w => by
    rw [List.map_cons]
    simp only [AItem.conc, List.length_nil, Nat.sub_zero]
    rw [List.drop_of_length_le (by simp), step_region_end]) H

/-- Out of a block. -/
def exitA (id : Nat) : List AItem → Option (List AItem)
  | .inBlock i :: r => match Nat.beq i id with
    | true => some r
    | false => exitA id r
  | _ :: r => exitA id r
  | [] => none
theorem exitA_conc {id : Nat} : ∀ {l r : List AItem}, exitA id l = some r → exitTo id (l.map AItem.conc) = some (r.map AItem.conc)
  | .inBlock i :: l, r, hl => by
    simp only [exitA] at hl
    simp only [List.map_cons, AItem.conc, exitTo]
    split at hl
    · rename_i q; cases hl; rw [if_pos (by simpa using Nat.eq_of_beq_eq_true q)]
    · rename_i q
      rw [if_neg (by intro hh; have : i = id := by simpa using hh
                     rw [this, Nat.beq_refl] at q; cases q)]
      exact exitA_conc hl
  | .code c :: l, r, hl => exitA_conc (l := l) hl
  | .inLoop c :: l, r, hl => exitA_conc (l := l) hl
  | .reg ops q :: l, r, hl => exitA_conc (l := l) hl
theorem exitA_ok {id : Nat} : ∀ {l r : List AItem}, exitA id l = some r → (∀ i ∈ l, i.ok) → ∀ i ∈ r, i.ok
  | .inBlock i :: l, r, hl, hk => by
    simp only [exitA] at hl
    split at hl
    · cases hl; exact ok_tail hk
    · exact exitA_ok hl (ok_tail hk)
  | .code c :: l, r, hl, hk => exitA_ok (l := l) hl (ok_tail hk)
  | .inLoop c :: l, r, hl, hk => exitA_ok (l := l) hl (ok_tail hk)
  | .reg ops q :: l, r, hl, hk => exitA_ok (l := l) hl (ok_tail hk)
theorem AW.exit {id : Nat} {r : List AItem} (hr : exitA id k = some r) (H : AW E f0 ⟨fid, r, s⟩ cls h R) : AW E f0 ⟨fid, .code (.exit id) :: k, s⟩ cls h R :=
  .of_leads (.todo (fun h => exitA_ok hr (ok_tail h)) fun _ _ _ => step_exit (exitA_conc hr)) H

theorem AW.cond {x : Operand} {a b : Code} {t : Bool} (hx : EvOK E.G s x (.d (.bool t))) (H : AW E f0 ⟨fid, .code (if t then a else b) :: k, s⟩ cls h R) : AW E f0 ⟨fid, .code (.cond x a b) :: k, s⟩ cls h R :=
  .of_leads (cur' := ⟨fid, .code (if t then a else b) :: k, s⟩) (cls' := cls) (h' := h) (fun c t' ts h1 h2 h3 h4 h5 => ⟨c, t', ts, ok_cons ok_code (ok_tail h1), h2, h3, h4, h5, Step.refl c h3.barlt, fun _ => .one (step_cond (vr_bool (hx c ⟨t', []⟩ h3 h4)))⟩) H

/-- The operation at hand, of the region's list. -/
theorem reg_at {ops : Array Oper} {o : Oper} {l : List Oper} (hk : (AItem.reg ops (o :: l)).ok) : ∃ i, ops[i]? = some o ∧ (AItem.reg ops (o :: l)).conc = .inRegion ops (i :: (List.range ops.size).drop (ops.size - l.length)) ∧ (AItem.reg ops l).ok := by
  obtain ⟨n, h1, h2⟩ := hk
  have h3 : (ops.toList.drop n).length = l.length + 1 := by rw [← h2]; rfl
  have h4 : ops.size - n = l.length + 1 := by simpa using h3
  have hn : n < ops.size := by omega
  refine ⟨n, ?_, ?_, n + 1, by omega, ?_⟩
  · have := congrArg (·[0]?) h2
    simp at this
    simpa using this.symm
  · simp only [AItem.conc, List.length_cons]
    congr 1
    rw [show ops.size - (l.length + 1) = n by omega, show ops.size - l.length = n + 1 by omega]
    rw [List.drop_eq_getElem_cons (by simpa using hn)]
    simp
  · have := congrArg List.tail h2
    simpa using this

theorem step_op {P : Program} {b : Frame} {a : Act} {k : List Item} {cs : List Frame} {w w' : World} {ops : Array Oper} {i : Nat} {rest : List Nat} {o : Oper} {v : Value} (ho : ops[i]? = some o) (hw : Region.wanted o (yielded ops a.tmps) = true) (hd : Does P o a w v w') :
    step P (lone (b.at a (.inRegion ops (i :: rest) :: k)) cs w) = .next (lone (b.at (a.put o.dst v) (.inRegion ops rest :: k)) cs w') := by
  have hg := stepG_op (P := P) (b := b) (k := k) (cs := cs) (w := w) (rest := rest) ho hw
  have hfin : ∀ v, (b.at a (.inRegion ops (i :: rest) :: k)).finish v = b.at (a.put o.dst v) (.inRegion ops rest :: k) := by
    intro v; rw [Frame.finish_at, ho]; rfl
  rcases hd with hr | ⟨hr, rfl⟩
  · exact step_lone_go (by rw [hg, ← hfin]; simp [stepG.apply, hr])
  · exact step_lone_go (by rw [hg, ← hfin]; simp [stepG.apply, hr])

def putS (s : List AV) (d : Option Nat) (v : AV) : List AV := match d with
  | some d => s.set d v
  | none => s
theorem putK_eq {α : Sort _} (s : List AV) (d : Option Nat) (v : AV) (k : List AV → α) : putK s d v k = k (putS s d v) := by
  cases d with
  | none => rfl
  | some d => simp only [putK, setK_eq, putS]
theorem VS.putS {c : Cx} {a : Act} (hs : VS c s a.tmps) (d : Option Nat) {x : AV} {v : Value} (hv : VR c x v) : VS c (putS s d x) (a.put d v).tmps := by
  cases d with
  | none => exact hs
  | some d => exact hs.put d hv
theorem put_defers (a : Act) (d : Option Nat) (v : Value) : (a.put d v) = ⟨(a.put d v).tmps, a.defers⟩ := by cases d <;> rfl

/-- Is the operation carried out? -/
def Wanted (ops : Array Oper) (o : Oper) (s : List AV) (b : Bool) : Prop := ∀ (c : Cx) (t : Array Value), VS c s t → Region.wanted o (yielded ops t) = b

theorem wanted_none {ops : Array Oper} {o : Oper} (h : o.guard = none) : Wanted ops o s true := fun _ _ _ => by simp [Region.wanted, h]
theorem wanted_lit {ops : Array Oper} {o oj : Oper} {j d : Nat} {g b : Bool} (h : o.guard = some (j, g)) (hj : ops.toList[j]? = some oj) (hd : oj.dst = some d) (hs : s[d]? = some (.d (.bool b))) : Wanted ops o s (b == g) := fun c t hv => by
  have hdt : d < t.size := by
    rw [← hv.1]
    rcases Nat.lt_or_ge d s.length with h | h
    · exact h
    · rw [List.getElem?_eq_none h] at hs; cases hs
  have ht : t[d]? = some (.bool b) := by
    rw [Array.getElem?_eq_getElem hdt, vr_bool (hv.2 d _ _ hs (Array.getElem?_eq_getElem hdt))]
  have hj' : ops[j]? = some oj := by simpa using hj
  simp only [Region.wanted, h, yielded, hj', hd, Option.bind_some, ht]
  cases b <;> cases g <;> rfl

theorem wanted_undef {ops : Array Oper} {o oj : Oper} {j d : Nat} {g : Bool} (h : o.guard = some (j, g)) (hj : ops.toList[j]? = some oj) (hd : oj.dst = some d) (hs : s[d]? = some (.d .undef)) : Wanted ops o s false := fun c t hv => by
  have hdt : d < t.size := by
    rw [← hv.1]
    rcases Nat.lt_or_ge d s.length with h | h
    · exact h
    · rw [List.getElem?_eq_none h] at hs; cases hs
  have ht : t[d]? = some Go.undef := by
    have := hv.2 d _ _ hs (Array.getElem?_eq_getElem hdt)
    rw [Array.getElem?_eq_getElem hdt]
    generalize t[d] = u at this
    cases this with
    | d _ _ hx => cases hx; rfl
  have hj' : ops[j]? = some oj := by simpa using hj
  simp only [Region.wanted, h, yielded, hj', hd, Option.bind_some, ht]
  rfl

theorem AW.op {ops : Array Oper} {o : Oper} {l : List Oper} {v : AV} {h' : List Box} (hw : Wanted ops o s true) (ho : OpOK E o.op s h v h') (H : AW E f0 ⟨fid, .reg ops l :: k, putS s o.dst v⟩ cls h' R) : AW E f0 ⟨fid, .reg ops (o :: l) :: k, s⟩ cls h R :=
  .of_leads (fun c t ts h1 h2 h3 h4 h5 => by
    obtain ⟨i, hi, hc, hok⟩ := reg_at (h1 _ (List.mem_cons_self ..))
    obtain ⟨c', u, k1, k2, k3, k4, k5⟩ := ho o c ⟨t, []⟩ rfl h2 h3 h4
    refine ⟨c', ((⟨t, []⟩ : Act).put o.dst u).tmps, ts, ok_cons hok (ok_tail h1), k2, k3, VS.putS (a := ⟨t, []⟩) (k5.vs h4) o.dst k4, k5.cr h5, k5, fun cs => .one ?_⟩
    simp only [AFrame.conc, List.map_cons, hc]
    rw [step_op hi (hw c t h4) k1, put_defers]
    rfl) H

theorem AW.opSkip {ops : Array Oper} {o : Oper} {l : List Oper} (hw : Wanted ops o s false) (H : AW E f0 ⟨fid, .reg ops l :: k, putS s o.dst (.d .undef)⟩ cls h R) : AW E f0 ⟨fid, .reg ops (o :: l) :: k, s⟩ cls h R :=
  .of_leads (fun c t ts h1 h2 h3 h4 h5 => by
    obtain ⟨i, hi, hc, hok⟩ := reg_at (h1 _ (List.mem_cons_self ..))
    refine ⟨c, ((⟨t, []⟩ : Act).put o.dst Go.undef).tmps, ts, ok_cons hok (ok_tail h1), h2, h3, VS.putS (a := ⟨t, []⟩) h4 o.dst (.d _ _ .undef), h5, Step.refl c h3.barlt, fun cs => .one ?_⟩
    simp only [AFrame.conc, List.map_cons, hc]
    rw [step_op_skip (by simp [hi]; exact hw c t h4)]
    simp only [hi, Option.bind_some]
    rw [put_defers]
    rfl) H

end
end Go.Eng
