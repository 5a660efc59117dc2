/- The engine, part D: regions that draw their order. No conditions. -/
import Derived.Test.YtklkmdoakhkikaaDoorEngL
import Derived.Orders
namespace Go.Eng
open Go Go.RowKit

/-- One operation must come before another. -/
inductive DepT (ops : Array Oper) : Nat → Nat → Prop
  | one {j : Nat} {o : Oper} {e : Edge} (hj : ops[j]? = some o) (he : e ∈ o.after) (hb : Region.binds .any e = true) : DepT ops e.on j
  | step {i j : Nat} {o : Oper} {e : Edge} (h : DepT ops i e.on) (hj : ops[j]? = some o) (he : e ∈ o.after) (hb : Region.binds .any e = true) : DepT ops i j

def bitsStep (acc : List Nat) (o : Oper) : Nat := o.after.toList.foldl (fun m e => if Region.binds .any e then m ||| 2 ^ e.on ||| acc.getD e.on 0 else m) 0
def bits : List Oper → List Nat → List Nat
  | [], acc => acc
  | o :: l, acc => bits l (acc ++ [bitsStep acc o])

theorem bitsStep_spec {acc : List Nat} {o : Oper} {i : Nat} (h : (bitsStep acc o).testBit i = true) : ∃ e ∈ o.after, Region.binds .any e = true ∧ (i = e.on ∨ (acc.getD e.on 0).testBit i = true) := by
  have gen : ∀ (l : List Edge) (m : Nat), (l.foldl (fun m e => if Region.binds .any e then m ||| 2 ^ e.on ||| acc.getD e.on 0 else m) m).testBit i = true → m.testBit i = true ∨ ∃ e ∈ l, Region.binds .any e = true ∧ (i = e.on ∨ (acc.getD e.on 0).testBit i = true) := by
    intro l
    induction l with
    | nil => intro m h; exact .inl h
    | cons e l ih =>
      intro m h
      rw [List.foldl_cons] at h
      rcases ih _ h with h | ⟨e', he', hb⟩
      · split at h
        · rename_i hb
          simp only [Nat.testBit_or, Bool.or_eq_true, Nat.testBit_two_pow, decide_eq_true_eq] at h
          rcases h with (h | h) | h
          · exact .inl h
          · exact .inr ⟨e, List.mem_cons_self .., hb, .inl h.symm⟩
          · exact .inr ⟨e, List.mem_cons_self .., hb, .inr h⟩
        · exact .inl h
      · exact .inr ⟨e', List.mem_cons_of_mem _ he', hb⟩
  rcases gen _ _ h with h | ⟨e, he, hb⟩
  · simp at h
  · exact ⟨e, by simpa using he, hb⟩

theorem bits_spec (ops : Array Oper) : ∀ (l : List Oper) (acc : List Nat), ops.toList.drop acc.length = l → (∀ j i, (acc.getD j 0).testBit i = true → DepT ops i j) → ∀ j i, ((bits l acc).getD j 0).testBit i = true → DepT ops i j
  | [], acc, _, ha => ha
  | o :: l, acc, hl, ha => by
    have ho : ops[acc.length]? = some o := by
      have := congrArg (·[0]?) hl
      simpa using this
    refine bits_spec ops l (acc ++ [bitsStep acc o]) (by rw [List.length_append, List.length_singleton, ← List.drop_drop, hl]; rfl) (fun j i h => ?_)
    rcases Nat.lt_trichotomy j acc.length with hj | hj | hj
    · rw [List.getD, List.getElem?_append_left hj] at h
      exact ha j i h
    · subst hj
      rw [List.getD, List.getElem?_append_right (Nat.le_refl _), Nat.sub_self] at h
      obtain ⟨e, he, hb, h | h⟩ := bitsStep_spec (by simpa using h)
      · subst h; exact .one ho he hb
      · exact .step (ha _ _ h) ho he hb
    · rw [List.getD, List.getElem?_eq_none (by simp; omega)] at h
      simp at h

def tmpsOf (o : Op) : List Nat := o.operands.toList.filterMap fun | .tmp t => some t | _ => none
def guardSlot (ops : Array Oper) : Option (Nat × Bool) → List Nat
  | none => []
  | some (j, _) => match (ops[j]?).bind (·.dst) with
    | some d => [d]
    | none => []
/-- What an operation reads. -/
def keepOf (ops : Array Oper) (o : Oper) : List Nat := tmpsOf o.op ++ guardSlot ops o.guard
def confB (ops : Array Oper) (a b : Oper) : Bool := (match a.dst with | some d => memB d (b.dst.toList ++ keepOf ops b) | none => false) || (match b.dst with | some d => memB d (keepOf ops a) | none => false)

/-- The first m operations may come in any order that their edges allow; the others come last, in order. -/
def chk (ops : Array Oper) (m : Nat) : Bool :=
  let bs := bits ops.toList []
  (List.range ops.size).all fun j => match ops[j]? with
    | none => true
    | some oj => (oj.after.toList.all fun e => !Region.binds .any e || decide (e.on < j)) && (List.range j).all fun i => match ops[i]? with
      | none => true
      | some oi => (bs.getD j 0).testBit i || (decide (j < m) && !confB ops oi oj)

theorem memB_iff {d : Nat} : ∀ {l : List Nat}, memB d l = true ↔ d ∈ l
  | [] => by simp [memB]
  | a :: l => by
    simp only [memB]
    split
    · rename_i q; simp [Nat.eq_of_beq_eq_true q]
    · rename_i q
      have hne : d ≠ a := fun e => by rw [e, Nat.beq_refl] at q; cases q
      rw [memB_iff (l := l)]
      simp [hne]

structure Chk (ops : Array Oper) (m : Nat) : Prop where
  low : ∀ j o e, ops[j]? = some o → e ∈ o.after → Region.binds .any e = true → e.on < j
  pair : ∀ i j oi oj, i < j → ops[i]? = some oi → ops[j]? = some oj → confB ops oi oj = true → DepT ops i j
  suf : ∀ i j oi oj, i < j → m ≤ j → ops[i]? = some oi → ops[j]? = some oj → DepT ops i j

theorem chk_spec {ops : Array Oper} {m : Nat} (h : chk ops m = true) : Chk ops m := by
  have hb := bits_spec ops ops.toList [] rfl (fun j i h => by simp at h)
  have hall : ∀ j oj, ops[j]? = some oj → (oj.after.toList.all fun e => !Region.binds .any e || decide (e.on < j)) = true ∧ ∀ i oi, i < j → ops[i]? = some oi → ((bits ops.toList []).getD j 0).testBit i = true ∨ (j < m ∧ confB ops oi oj = false) := fun j oj hj => by
    have hlt : j < ops.size := (Array.getElem?_eq_some_iff.1 hj).1
    have h1 := List.all_eq_true.1 h j (List.mem_range.2 hlt)
    simp only [hj, Bool.and_eq_true] at h1
    refine ⟨h1.1, fun i oi hi hoi => ?_⟩
    have h2 := List.all_eq_true.1 h1.2 i (List.mem_range.2 hi)
    simp only [hoi, Bool.or_eq_true, Bool.and_eq_true, decide_eq_true_eq, Bool.not_eq_true'] at h2
    exact h2
  refine ⟨fun j o e hj he hbd => ?_, fun i j oi oj hij hi hj hc => ?_, fun i j oi oj hij hm hi hj => ?_⟩
  · have := List.all_eq_true.1 (hall j o hj).1 e (by simpa using he)
    simpa [hbd] using this
  · rcases (hall j oj hj).2 i oi hij hi with h | ⟨-, h⟩
    · exact hb j i h
    · rw [hc] at h; cases h
  · rcases (hall j oj hj).2 i oi hij hi with h | ⟨h, -⟩
    · exact hb j i h
    · omega

/-- The slots when some of the operations are done. -/
def cur : List (Oper × AV) → (Nat → Bool) → Nat → List AV → List AV
  | [], _, _, s => s
  | (o, v) :: l, L, i, s => cur l L (i + 1) (if L i then putS s o.dst v else s)

theorem cur_length : ∀ (pl : List (Oper × AV)) (L : Nat → Bool) (i : Nat) (s : List AV), (cur pl L i s).length = s.length
  | [], _, _, _ => rfl
  | (o, v) :: l, L, i, s => by
    rw [cur, cur_length l]
    split
    · cases o.dst <;> simp [putS]
    · rfl

theorem putS_other {s : List AV} {d : Option Nat} {v : AV} {t : Nat} (h : d ≠ some t) : (putS s d v)[t]? = s[t]? := by
  cases d with
  | none => rfl
  | some d => exact List.getElem?_set_ne (fun e => h (by rw [e]))
theorem putS_get {s s' : List AV} {d : Option Nat} {v : AV} {t : Nat} (hl : s.length = s'.length) (h : s[t]? = s'[t]?) : (putS s d v)[t]? = (putS s' d v)[t]? := by
  cases d with
  | none => exact h
  | some d =>
    by_cases hd : d = t
    · subst hd
      simp only [putS, List.getElem?_set, hl, if_true]
    · simp only [putS, List.getElem?_set_ne hd, h]

theorem cur_congr {t : Nat} : ∀ (pl : List (Oper × AV)) (L L' : Nat → Bool) (i : Nat) (s s' : List AV), s.length = s'.length → s[t]? = s'[t]? → (∀ k o v, pl[k]? = some (o, v) → o.dst = some t → L (i + k) = L' (i + k)) → (cur pl L i s)[t]? = (cur pl L' i s')[t]?
  | [], _, _, _, _, _, _, hs, _ => hs
  | (o, v) :: l, L, L', i, s, s', hl, hs, hw => by
    rw [cur, cur]
    have hlen : ∀ (b : Bool) (q : List AV), (if b then putS q o.dst v else q).length = q.length := fun b q => by cases b <;> cases o.dst <;> simp [putS]
    refine cur_congr l L L' (i + 1) _ _ (by rw [hlen, hlen, hl]) ?_ (fun k o' v' hk hd => by have := hw (k + 1) o' v' (by simpa using hk) hd; rwa [show i + (k + 1) = i + 1 + k by omega] at this)
    by_cases hd : o.dst = some t
    · have := hw 0 o v rfl hd
      rw [Nat.add_zero] at this
      rw [this]
      split
      · exact putS_get hl hs
      · exact hs
    · split <;> split <;> simp only [putS_other hd, hs]

theorem cur_none : ∀ (pl : List (Oper × AV)) (i : Nat) (s : List AV) (L : Nat → Bool), (∀ k, k < pl.length → L (i + k) = false) → cur pl L i s = s
  | [], _, _, _, _ => rfl
  | (o, v) :: l, i, s, L, h => by
    have h0 := h 0 (by simp)
    rw [Nat.add_zero] at h0
    rw [cur, h0]
    exact cur_none l (i + 1) s L (fun k hk => by have := h (k + 1) (by simpa using hk); rwa [show i + (k + 1) = i + 1 + k by omega] at this)

/-- One more, in the order of the text. -/
theorem cur_next : ∀ (pl : List (Oper × AV)) (i j : Nat) (s : List AV) (o : Oper) (v : AV), pl[j]? = some (o, v) → cur pl (fun k => decide (k < i + j + 1)) i s = putS (cur pl (fun k => decide (k < i + j)) i s) o.dst v
  | [], _, _, _, _, _, h => by simp at h
  | (o', v') :: l, i, 0, s, o, v, h => by
    simp at h
    obtain ⟨rfl, rfl⟩ := h
    rw [cur, cur]
    simp only [Nat.add_zero, Nat.lt_irrefl, decide_false, Bool.false_eq_true, if_false, Nat.lt_succ_self, decide_true, if_true]
    rw [cur_none l (i + 1) _ _ (fun k _ => decide_eq_false (by omega)), cur_none l (i + 1) s _ (fun k _ => decide_eq_false (by omega))]
  | (o', v') :: l, i, j + 1, s, o, v, h => by
    rw [cur, cur]
    have e1 : (decide (i < i + (j + 1) + 1)) = true := decide_eq_true (by omega)
    have e2 : (decide (i < i + (j + 1))) = true := by simp
    simp only [e1, e2, if_true]
    have := cur_next l (i + 1) j (putS s o'.dst v') o v (by simpa using h)
    rw [show i + (j + 1) + 1 = i + 1 + j + 1 by omega, show i + (j + 1) = i + 1 + j by omega]
    exact this

/-- Slots that are not read are forgotten. -/
def maskS (keep : List Nat) : Nat → List AV → List AV
  | _, [] => []
  | i, x :: s => (match memB i keep with | true => x | false => .any) :: maskS keep (i + 1) s
theorem maskS_length (keep : List Nat) : ∀ (i : Nat) (s : List AV), (maskS keep i s).length = s.length
  | _, [] => rfl
  | i, _ :: s => by simp [maskS, maskS_length keep (i + 1) s]
theorem maskS_get (keep : List Nat) : ∀ (i t : Nat) (s : List AV) (x : AV), (maskS keep i s)[t]? = some x → x = .any ∨ (i + t ∈ keep ∧ s[t]? = some x)
  | _, _, [], _, h => by simp [maskS] at h
  | i, 0, y :: s, x, h => by
    simp only [maskS, List.getElem?_cons_zero, Option.some.injEq] at h
    split at h
    · rename_i q; subst h; exact .inr ⟨by simpa using memB_iff.1 q, rfl⟩
    · exact .inl h.symm
  | i, t + 1, y :: s, x, h => by
    simp only [maskS, List.getElem?_cons_succ] at h
    rcases maskS_get keep (i + 1) t s x h with h | ⟨h1, h2⟩
    · exact .inl h
    · exact .inr ⟨by rwa [show i + (t + 1) = i + 1 + t by omega], by simpa using h2⟩

theorem VS.mask {c : Cx} {s : List AV} {t : Array Value} (h : VS c s t) {keep : List Nat} : VS c (maskS keep 0 s) t := by
  refine ⟨by rw [maskS_length]; exact h.1, fun i x v hx hv => ?_⟩
  rcases maskS_get _ 0 i _ x hx with rfl | ⟨-, hx⟩
  · exact .any v
  · exact h.2 i x v hx hv
/-- An operation that reads slots alone. -/
def floatB (o : Oper) : Bool := match o.op, o.guard with
  | .extract _ _, none => true
  | .move _, none => true
  | .assign _, none => true
  | _, _ => false

/-- What an operation of the first kind does, whatever else is done: a value; the boxes stay. -/
def OpFact (E : Env) (ops : Array Oper) (o : Oper) (s : List AV) (h : List Box) (v : AV) : Prop :=
  ∀ (c : Cx) (a : Act), HOk E.G c → c.heap = h → a.defers = [] → VS c (maskS (keepOf ops o) 0 s) a.tmps → ∀ (j : Nat), ops[j]? = some o → ∀ (K : Act → World → Prop) (Q : Exit → Act → World → Prop),
    (∀ (c' : Cx) (u : Value), HOk E.G c' → c'.heap = h → Step c c' → VR c' v u → K (a.put o.dst u) c'.w) → wpOp E.P ops Q j K a c.w
/-- What an operation of the last kind does. -/
def SFact (E : Env) (ops : Array Oper) (o : Oper) (s : List AV) (h : List Box) (v : AV) (h' : List Box) : Prop :=
  ∀ (c : Cx) (a : Act), HOk E.G c → c.heap = h → a.defers = [] → VS c (maskS (keepOf ops o) 0 s) a.tmps → ∀ (j : Nat), ops[j]? = some o → ∀ (K : Act → World → Prop) (Q : Exit → Act → World → Prop),
    (∀ (c' : Cx) (u : Value), HOk E.G c' → c'.heap = h' → Step c c' → VR c' v u → K (a.put o.dst u) c'.w) → wpOp E.P ops Q j K a c.w

/-- A variable that is made is the next box. -/
def AFact (E : Env) (o : Oper) (h : List Box) (v : AV) (h' : List Box) : Prop :=
  ∀ t, o.op = .alloc t → o.guard = none → v = .ptr h.length 0 ∧ ∃ i : TInfo, E.T[t]? = some i ∧ i.zero.length = i.size ∧ 0 < i.size ∧ h' = h ++ [.cells (i.zero.map .d)]

def DPlan (E : Env) (ops : Array Oper) (h : List Box) (K : List AV → Prop) : List Oper → List AV → Prop
  | [], s => K s
  | o :: l, s => ∃ v, OpFact E ops o s h v ∧ (floatB o = true → ∀ h', OpFact E ops o s h' v) ∧ DPlan E ops h K l (putS s o.dst v)
def SPlan (E : Env) (ops : Array Oper) (K : List AV → List Box → Prop) : List Oper → List AV → List Box → Prop
  | [], s, h => K s h
  | o :: l, s, h => ∃ v h', SFact E ops o s h v h' ∧ AFact E o h v h' ∧ SPlan E ops K l (putS s o.dst v) h'

/-- A plan, laid out. -/
theorem DPlan.lay {E : Env} {ops : Array Oper} {h : List Box} {K : List AV → Prop} : ∀ {l : List Oper} {s : List AV}, DPlan E ops h K l s → ∃ pl : List (Oper × AV), pl.map (·.1) = l ∧ K (cur pl (fun k => decide (k < pl.length)) 0 s) ∧ ∀ j o v, pl[j]? = some (o, v) → OpFact E ops o (cur pl (fun k => decide (k < j)) 0 s) h v ∧ (floatB o = true → ∀ h', OpFact E ops o (cur pl (fun k => decide (k < j)) 0 s) h' v)
  | [], s, H => ⟨[], rfl, H, fun j o v hj => by simp at hj⟩
  | o :: l, s, H => by
    obtain ⟨v, h1, h1', H⟩ := H
    obtain ⟨pl, k1, k2, k3⟩ := DPlan.lay H
    have shift : ∀ (pl : List (Oper × AV)) (n i : Nat) (s : List AV), cur pl (fun k => decide (k < n + 1)) (i + 1) s = cur pl (fun k => decide (k < n)) i s := by
      intro pl
      induction pl with
      | nil => intro n i s; rfl
      | cons p pl ih =>
        intro n i s
        obtain ⟨o', v'⟩ := p
        rw [cur, cur, ih]
        congr 1
        simp
    refine ⟨(o, v) :: pl, by simp [k1], ?_, fun j o' v' hj => ?_⟩
    · rw [cur]
      simp only [List.length_cons, Nat.zero_lt_succ, decide_true, if_true]
      rw [shift]
      exact k2
    · cases j with
      | zero =>
        simp at hj
        obtain ⟨rfl, rfl⟩ := hj
        rw [cur_none _ _ _ _ (fun k _ => decide_eq_false (by omega))]
        exact ⟨h1, h1'⟩
      | succ j =>
        have := k3 j o' v' (by simpa using hj)
        rw [cur]
        simp only [Nat.zero_lt_succ, decide_true, if_true]
        rw [shift]
        exact this

section
variable {E : Env} {ops : Array Oper} {m : Nat}

def Lst (listed : Array Bool) (i : Nat) : Bool := listed.getD i false
/-- What is listed was allowed. -/
def DC (ops : Array Oper) (listed : Array Bool) : Prop := listed.size = ops.size ∧ ∀ j o e, ops[j]? = some o → Lst listed j = true → e ∈ o.after → Region.binds .any e = true → Lst listed e.on = true

theorem DC.dep {listed : Array Bool} (hd : DC ops listed) {i j : Nat} (h : DepT ops i j) (hj : Lst listed j = true) : Lst listed i = true := by
  induction h with
  | one ho he hb => exact hd.2 _ _ _ ho hj he hb
  | step h ho he hb ih => exact ih (hd.2 _ _ _ ho hj he hb)
theorem DC.ready {listed : Array Bool} (hd : DC ops listed) {i j : Nat} (hj : j ∈ Region.ready .any ops listed) (h : DepT ops i j) : Lst listed i = true := by
  obtain ⟨-, o, ho, hall⟩ := mem_ready.1 hj
  cases h with
  | one ho' he hb => rw [ho] at ho'; cases ho'; exact hall _ he hb
  | step h ho' he hb => rw [ho] at ho'; cases ho'; exact hd.dep h (hall _ he hb)
theorem DC.set {listed : Array Bool} (hd : DC ops listed) {j : Nat} (hj : j ∈ Region.ready .any ops listed) : DC ops (listed.setIfInBounds j true) := by
  refine ⟨by simpa using hd.1, fun i o e hi hl he hb => ?_⟩
  by_cases hij : j = i
  · subst hij
    obtain ⟨-, o', ho', hall⟩ := mem_ready.1 hj
    rw [hi] at ho'; cases ho'
    exact getD_set_true (hall e he hb)
  · have : Lst listed i = true := by unfold Lst at hl ⊢; rwa [getD_set_ne false hij] at hl
    exact getD_set_true (hd.2 i o e hi this he hb)
theorem lst_set {listed : Array Bool} {j i : Nat} (hj : j < listed.size) : Lst (listed.setIfInBounds j true) i = (Lst listed i || decide (i = j)) := by
  unfold Lst
  by_cases h : j = i
  · subst h; simp [hj]
  · rw [getD_set_ne false h]; simp [Ne.symm h]
theorem ready_lst {listed : Array Bool} (hd : DC ops listed) {j : Nat} (hj : j ∈ Region.ready .any ops listed) : Lst listed j = false ∧ j < ops.size := by
  obtain ⟨h1, o, ho, -⟩ := mem_ready.1 hj
  have hlt : j < ops.size := (Array.getElem?_eq_some_iff.1 ho).1
  refine ⟨?_, hlt⟩
  have : j < listed.size := by rw [hd.1]; exact hlt
  unfold Lst
  simp [this] at h1 ⊢
  exact h1
/-- Some operation can come next. -/
theorem ready_some (hc : Chk ops m) {listed : Array Bool} (hd : DC ops listed) {j : Nat} (hj : j < ops.size) (hn : Lst listed j = false) : ∃ i, i ≤ j ∧ i ∈ Region.ready .any ops listed := by
  induction j using Nat.strongRecOn with
  | ind j ih =>
    by_cases hall : ∀ i, i < j → Lst listed i = true
    · refine ⟨j, Nat.le_refl _, mem_ready.2 ⟨?_, ops[j], by simp [hj], fun e he hb => hall _ (hc.low j _ e (by simp [hj]) he hb)⟩⟩
      have : j < listed.size := by rw [hd.1]; exact hj
      unfold Lst at hn
      simp [this] at hn ⊢
      exact hn
    · have : ∃ i, i < j ∧ Lst listed i = false := by
        apply Classical.byContradiction
        intro hne
        exact hall fun i hi => by
          cases hl : Lst listed i with
          | true => rfl
          | false => exact absurd ⟨i, hi, hl⟩ hne
      obtain ⟨i, hi, hl⟩ := this
      obtain ⟨k, hk, hr⟩ := ih i hi (by omega) hl
      exact ⟨k, by omega, hr⟩

/-- All is done in order from here on. -/
theorem suffix_ok (hc : Chk ops m) {Q : Exit → Act → World → Prop} {Kf : List AV → List Box → Prop} {c0 : Cx}
    (hQ : ∀ (a : Act) (c : Cx) (s : List AV) (h : List Box), Kf s h → HOk E.G c → c.heap = h → a.defers = [] → VS c s a.tmps → Step c0 c → Q .normal a c.w) :
    ∀ (l : List Oper) (j : Nat) (s : List AV) (h : List Box), m ≤ j → ops.toList.drop j = l → j ≤ ops.size → SPlan E ops Kf l s h → ∀ (listed : Array Bool) (a : Act) (c : Cx), HOk E.G c → c.heap = h → a.defers = [] → VS c s a.tmps → Step c0 c →
      DC ops listed → (∀ i, Lst listed i = decide (i < j)) → ∀ f, ops.size - j ≤ f → wpAny E.P .any ops Q f listed a c.w
  | [], j, s, h, hm, hl, hj, H, listed, a, c, h1, h2, h3, h4, h5, hd, hli, f, hf => by
    have hjn : j = ops.size := by
      have := congrArg List.length hl
      simp at this
      omega
    subst hjn
    have hnil : Region.ready .any ops listed = [] := by
      apply List.eq_nil_iff_forall_not_mem.2
      intro i hi
      obtain ⟨k1, k2⟩ := ready_lst hd hi
      rw [hli] at k1
      simp at k1
      omega
    cases f with
    | zero => exact ⟨hnil, hQ a c s h H h1 h2 h3 h4 h5⟩
    | succ f => exact ⟨fun _ => hQ a c s h H h1 h2 h3 h4 h5, fun i hi => by rw [hnil] at hi; cases hi⟩
  | o :: l, j, s, h, hm, hl, hj, H, listed, a, c, h1, h2, h3, h4, h5, hd, hli, f, hff => by
    have hjn : j < ops.size := by
      have := congrArg List.length hl
      simp at this
      omega
    have ho : ops[j]? = some o := by
      have := congrArg (·[0]?) hl
      simpa using this
    have honly : ∀ i, i ∈ Region.ready .any ops listed → i = j := fun i hi => by
      obtain ⟨k1, k2⟩ := ready_lst hd hi
      rw [hli] at k1
      simp at k1
      rcases Nat.lt_or_ge j i with hlt | hge
      · have := hd.ready hi (hc.suf j i o ops[i] hlt (by omega) ho (by simp [k2]))
        rw [hli] at this
        simp at this
      · omega
    obtain ⟨v, h', hf, -, H⟩ := H
    obtain ⟨f, rfl⟩ : ∃ g, f = g + 1 := ⟨f - 1, by omega⟩
    refine ⟨fun hr => ?_, fun i hi => ?_⟩
    · obtain ⟨i, -, hi⟩ := ready_some hc hd hjn (by rw [hli]; simp)
      rw [hr] at hi
      cases hi
    · obtain rfl := honly i hi
      refine hf c a h1 h2 h3 h4.mask i ho _ _ (fun c' u k1 k2 k3 k4 => ?_)
      refine suffix_ok hc hQ l (i + 1) (putS s o.dst v) h' (by omega) (by rw [← List.drop_drop, hl]; rfl) (by omega) H _ _ c' k1 k2 ?_ (VS.putS (k3.vs h4) o.dst k4) (h5.trans k3) (hd.set hi) (fun k => ?_) f (by omega)
      · cases hdst : o.dst <;> simp [Act.put, h3]
      · rw [lst_set (by rw [hd.1]; exact hjn), hli]
        by_cases hk : k = i
        · subst hk; simp
        · simp [hk]; omega

/-- How many are not yet done. -/
def cnt (L : Nat → Bool) : Nat → Nat
  | 0 => 0
  | n + 1 => cnt L n + if L n then 0 else 1
theorem cnt_set {L L' : Nat → Bool} {j : Nat} (h : ∀ i, i ≠ j → L' i = L i) (hj : L j = false) (hj' : L' j = true) : ∀ n, (j < n → cnt L' n + 1 = cnt L n) ∧ (n ≤ j → cnt L' n = cnt L n)
  | 0 => ⟨fun h => by omega, fun _ => rfl⟩
  | n + 1 => by
    obtain ⟨h1, h2⟩ := cnt_set h hj hj' n
    simp only [cnt]
    by_cases hn : n = j
    · subst hn
      refine ⟨fun _ => ?_, fun h => by omega⟩
      rw [h2 (Nat.le_refl _), hj, hj']
      simp
    · rw [h n hn]
      exact ⟨fun hl => by have := h1 (by omega); omega, fun hl => by rw [h2 (by omega)]⟩
theorem cnt_pos {L : Nat → Bool} {j : Nat} (hj : L j = false) : ∀ n, j < n → 0 < cnt L n
  | 0, h => by omega
  | n + 1, h => by
    simp only [cnt]
    by_cases hn : n = j
    · subst hn; rw [hj]; simp
    · have := cnt_pos hj n (by omega); omega
theorem cnt_lt (m : Nat) : ∀ n, m ≤ n → cnt (fun i => decide (i < m)) n = n - m
  | 0, h => by simp [cnt]
  | n + 1, h => by
    simp only [cnt]
    by_cases hm : m ≤ n
    · rw [cnt_lt m n hm]; simp [show ¬ n < m by omega]; omega
    · obtain rfl : m = n + 1 := by omega
      have : ∀ k, k ≤ n → cnt (fun i => decide (i < n + 1)) k = 0 := by
        intro k
        induction k with
        | zero => intro _; rfl
        | succ k ih => intro hk; simp only [cnt, ih (by omega)]; simp; omega
      rw [this n (Nat.le_refl _)]; simp
theorem cnt_congr {L L' : Nat → Bool} (h : ∀ i, L i = L' i) : ∀ n, cnt L n = cnt L' n
  | 0 => rfl
  | n + 1 => by simp only [cnt, cnt_congr h n, h n]

theorem conf_left {a b : Oper} {d : Nat} (ha : a.dst = some d) (hb : d ∈ b.dst.toList ++ keepOf ops b) : confB ops a b = true := by
  simp only [confB, ha, memB_iff.2 hb, Bool.true_or]
theorem conf_right {a b : Oper} {d : Nat} (hb : b.dst = some d) (ha : d ∈ keepOf ops a) : confB ops a b = true := by
  simp only [confB, hb, memB_iff.2 ha, Bool.or_true]

/-- The operations of the first kind, in any order. -/
theorem prefix_ok (hc : Chk ops m) (hmn : m ≤ ops.size) {Q : Exit → Act → World → Prop} {Kf : List AV → List Box → Prop} {c0 : Cx} {s0 : List AV} {h : List Box}
    (hQ : ∀ (a : Act) (c : Cx) (s : List AV) (h : List Box), Kf s h → HOk E.G c → c.heap = h → a.defers = [] → VS c s a.tmps → Step c0 c → Q .normal a c.w)
    (pl : List (Oper × AV)) (hpl : pl.map (·.1) = ops.toList.take m) (hfin : SPlan E ops Kf (ops.toList.drop m) (cur pl (fun k => decide (k < pl.length)) 0 s0) h) (hfact : ∀ j o v, pl[j]? = some (o, v) → OpFact E ops o (cur pl (fun k => decide (k < j)) 0 s0) h v) :
    ∀ (f : Nat) (listed : Array Bool) (a : Act) (c : Cx), HOk E.G c → c.heap = h → a.defers = [] → VS c (cur pl (Lst listed) 0 s0) a.tmps → Step c0 c → DC ops listed → (∀ i, m ≤ i → Lst listed i = false) → cnt (Lst listed) ops.size ≤ f → wpAny E.P .any ops Q f listed a c.w := by
  have hlen : pl.length = m := by
    have := congrArg List.length hpl
    simp at this
    omega
  have hat : ∀ j o v, pl[j]? = some (o, v) → ops[j]? = some o ∧ j < m := fun j o v hj => by
    have hjm : j < m := by rw [← hlen]; exact lt_of_getElem? hj
    have := congrArg (·[j]?) hpl
    simp only [List.getElem?_map, hj, Option.map_some, List.getElem?_take, hjm, if_true] at this
    exact ⟨by simpa using this.symm, hjm⟩
  intro f
  induction f with
  | zero =>
    intro listed a c h1 h2 h3 h4 h5 hd hs hcnt
    by_cases hall : ∀ i, i < ops.size → Lst listed i = true
    · have hm : m = ops.size := by
        rcases Nat.lt_or_ge m ops.size with hlt | hge
        · have := hs m (Nat.le_refl _); rw [hall m hlt] at this; cases this
        · omega
      have hli : ∀ i, Lst listed i = decide (i < m) := fun i => by
        rcases Nat.lt_or_ge i m with hi | hi
        · rw [hall i (by omega)]; simp [hi]
        · rw [hs i hi]; simp; omega
      refine suffix_ok hc hQ _ m _ h (Nat.le_refl _) rfl hmn hfin listed a c h1 h2 h3 ?_ h5 hd hli 0 (by omega)
      have : cur pl (Lst listed) 0 s0 = cur pl (fun k => decide (k < pl.length)) 0 s0 := by
        congr 1
        funext i
        rw [hli, hlen]
      rw [← this]; exact h4
    · exfalso
      apply hall
      intro i hi
      cases hl : Lst listed i with
      | true => rfl
      | false => have := cnt_pos hl ops.size hi; omega
  | succ f ih =>
    intro listed a c h1 h2 h3 h4 h5 hd hs hcnt
    by_cases hall : ∀ i, i < m → Lst listed i = true
    · have hli : ∀ i, Lst listed i = decide (i < m) := fun i => by
        rcases Nat.lt_or_ge i m with hi | hi
        · rw [hall i hi]; simp [hi]
        · rw [hs i hi]; simp; omega
      have hcn : cnt (Lst listed) ops.size = ops.size - m := by rw [cnt_congr hli, cnt_lt m _ hmn]
      refine suffix_ok hc hQ _ m _ h (Nat.le_refl _) rfl hmn hfin listed a c h1 h2 h3 ?_ h5 hd hli (f + 1) (by omega)
      have : cur pl (Lst listed) 0 s0 = cur pl (fun k => decide (k < pl.length)) 0 s0 := by
        congr 1
        funext i
        rw [hli, hlen]
      rw [← this]; exact h4
    · have : ∃ i, i < m ∧ Lst listed i = false := by
        apply Classical.byContradiction
        intro hne
        exact hall fun i hi => by
          cases hl : Lst listed i with
          | true => rfl
          | false => exact absurd ⟨i, hi, hl⟩ hne
      obtain ⟨i0, hi0, hl0⟩ := this
      refine ⟨fun hr => ?_, fun i hi => ?_⟩
      · obtain ⟨i, -, hi⟩ := ready_some hc hd (by omega) hl0
        rw [hr] at hi
        cases hi
      obtain ⟨hli, hin⟩ := ready_lst hd hi
      have him : i < m := by
        rcases Nat.lt_or_ge i m with h | h
        · exact h
        · have := hd.ready hi (hc.suf i0 i ops[i0] ops[i] (by omega) h (by simp) (by simp [hin]))
          rw [hl0] at this
          cases this
      obtain ⟨⟨o, v⟩, hov⟩ : ∃ p, pl[i]? = some p := ⟨pl[i]'(by omega), by simp⟩
      obtain ⟨hoi, -⟩ := hat i o v hov
      -- what is known of a writer
      have wr : ∀ k o' v', pl[k]? = some (o', v') → (k < i → confB ops o' o = true → Lst listed k = true) ∧ (i < k → confB ops o o' = true → Lst listed k = false) := fun k o' v' hk => by
        obtain ⟨hok, -⟩ := hat k o' v' hk
        refine ⟨fun hlt hcf => hd.ready hi (hc.pair k i o' o hlt hok hoi hcf), fun hlt hcf => ?_⟩
        cases hl : Lst listed k with
        | false => rfl
        | true => have := hd.dep (hc.pair i k o o' hlt hoi hok hcf) hl; rw [hli] at this; cases this
      have hmask : VS c (maskS (keepOf ops o) 0 (cur pl (fun k => decide (k < i)) 0 s0)) a.tmps := by
        refine ⟨by rw [maskS_length, cur_length]; have := h4.1; rwa [cur_length] at this, fun t x u hx hu => ?_⟩
        rcases maskS_get _ 0 t _ x hx with rfl | ⟨hk, hx⟩
        · exact .any u
        · rw [Nat.zero_add] at hk
          refine h4.2 t x u ?_ hu
          rw [← hx]
          refine cur_congr pl _ _ 0 s0 s0 rfl rfl (fun k o' v' hk' hd' => ?_)
          rw [Nat.zero_add]
          rcases Nat.lt_trichotomy k i with hlt | rfl | hgt
          · rw [(wr k o' v' hk').1 hlt (conf_left hd' (List.mem_append_right _ hk))]; simp [hlt]
          · rw [hli]; simp
          · rw [(wr k o' v' hk').2 hgt (conf_right hd' hk)]; simp; omega
      refine hfact i o v hov c a h1 h2 h3 hmask i hoi _ _ (fun c' u k1 k2 k3 k4 => ?_)
      have hsz : i < listed.size := by rw [hd.1]; exact hin
      have hset := fun q => lst_set (i := q) hsz
      refine ih _ _ c' k1 k2 ?_ ?_ (h5.trans k3) (hd.set hi) (fun q hq => by rw [hset, hs q hq]; simp; omega) ?_
      · cases hdst : o.dst <;> simp [Act.put, h3]
      · refine ⟨by rw [cur_length]; have := h4.1; rw [cur_length] at this; cases hdst : o.dst <;> simp [Act.put, this], fun t x u' hx hu' => ?_⟩
        by_cases hdt : o.dst = some t
        · have e1 : (cur pl (Lst (listed.setIfInBounds i true)) 0 s0)[t]? = (cur pl (fun k => decide (k < 0 + i + 1)) 0 s0)[t]? := by
            refine cur_congr pl _ _ 0 s0 s0 rfl rfl (fun k o' v' hk' hd' => ?_)
            rw [Nat.zero_add, Nat.zero_add, hset]
            rcases Nat.lt_trichotomy k i with hlt | rfl | hgt
            · rw [(wr k o' v' hk').1 hlt (conf_left hd' (List.mem_append_left _ (by simp [hdt])))]; simp; omega
            · simp
            · rw [(wr k o' v' hk').2 hgt (conf_left hdt (List.mem_append_left _ (by simp [hd'])))]; simp; omega
          rw [e1, cur_next pl 0 i s0 o v hov, hdt] at hx
          have htl : t < (cur pl (fun k => decide (k < 0 + i)) 0 s0).length := by
            have := lt_of_getElem? hx
            simpa [putS] using this
          rw [putS, List.getElem?_set_self htl] at hx
          cases hx
          have hta : t < a.tmps.size := by rw [← h4.1, cur_length]; rwa [cur_length] at htl
          have hu2 : (a.tmps.setIfInBounds t u)[t]? = some u' := by simpa [Act.put, hdt] using hu'
          rw [Array.getElem?_setIfInBounds_self_of_lt hta] at hu2
          cases hu2
          exact k4
        · have e1 : (cur pl (Lst (listed.setIfInBounds i true)) 0 s0)[t]? = (cur pl (Lst listed) 0 s0)[t]? := by
            refine cur_congr pl _ _ 0 s0 s0 rfl rfl (fun k o' v' hk' hd' => ?_)
            rw [Nat.zero_add, hset]
            have : k ≠ i := fun e => by
              subst e
              rw [hov] at hk'
              cases hk'
              exact hdt hd'
            simp [this]
          rw [e1] at hx
          refine k3.vr (h4.2 t x u' hx ?_)
          cases hdst : o.dst with
          | none => simpa [Act.put, hdst] using hu'
          | some d =>
            rw [hdst] at hdt
            have hne : d ≠ t := fun e => hdt (by rw [e])
            simpa [Act.put, hdst, Array.getElem?_setIfInBounds_ne hne] using hu'
      · have := (cnt_set (L := Lst listed) (L' := Lst (listed.setIfInBounds i true)) (j := i) (fun q hq => by rw [hset]; simp [hq]) hli (by rw [hset]; simp) ops.size).1 hin
        omega

end

end Go.Eng
