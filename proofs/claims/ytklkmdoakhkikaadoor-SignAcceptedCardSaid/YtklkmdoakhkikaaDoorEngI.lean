/- The engine, part I: regions that draw their order, with floating operations and a new variable, as rules. No conditions. -/
import Derived.Test.YtklkmdoakhkikaaDoorEngH
namespace Go.Eng
open Go Go.RowKit

def chkX (ops : Array Oper) (m M : Nat) : Bool :=
  let bs := bits ops.toList []
  (List.range ops.size).all fun j => match ops[j]? with
    | none => true
    | some oj => (oj.after.toList.all fun e => !Region.binds .any e || decide (e.on < j)) && (List.range j).all fun i => match ops[i]? with
      | none => true
      | some oi => (bs.getD j 0).testBit i || (!confB ops oi oj && (decide (j < M) || (decide (i < m) && floatB oi)))

theorem chkX_spec {ops : Array Oper} {m M : Nat} (h : chkX ops m M = true) : ChkX ops m M := by
  have hb := bits_spec ops ops.toList [] rfl (fun j i h => by simp at h)
  have hall : ∀ j oj, ops[j]? = some oj → (oj.after.toList.all fun e => !Region.binds .any e || decide (e.on < j)) = true ∧ ∀ i oi, i < j → ops[i]? = some oi → ((bits ops.toList []).getD j 0).testBit i = true ∨ (confB ops oi oj = false ∧ (j < M ∨ (i < m ∧ floatB oi = true))) := fun j oj hj => by
    have hlt : j < ops.size := (Array.getElem?_eq_some_iff.1 hj).1
    have h1 := List.all_eq_true.1 h j (List.mem_range.2 hlt)
    simp only [hj, Bool.and_eq_true] at h1
    refine ⟨h1.1, fun i oi hi hoi => ?_⟩
    have h2 := List.all_eq_true.1 h1.2 i (List.mem_range.2 hi)
    simp only [hoi, Bool.or_eq_true, Bool.and_eq_true, decide_eq_true_eq, Bool.not_eq_true'] at h2
    exact h2
  refine ⟨fun j o e hj he hbd => ?_, fun i j oi oj hij hi hj hc => ?_, fun i j oi oj hij hm hi hj => ?_⟩
  · have := List.all_eq_true.1 (hall j o hj).1 e (by simpa using he)
    simpa [hbd] using this
  · rcases (hall j oj hj).2 i oi hij hi with h | ⟨h, -⟩
    · exact hb j i h
    · rw [hc] at h; cases h
  · rcases (hall j oj hj).2 i oi hij hi with h | ⟨-, h | h⟩
    · exact .inr (hb j i h)
    · omega
    · exact .inl h

theorem cur_append : ∀ (a b : List (Oper × AV)) (L : Nat → Bool) (i : Nat) (s : List AV), cur (a ++ b) L i s = cur b L (i + a.length) (cur a L i s)
  | [], b, L, i, s => rfl
  | (o, v) :: a, b, L, i, s => by
    rw [List.cons_append, cur, cur, cur_append a b L (i + 1), List.length_cons, show i + 1 + a.length = i + (a.length + 1) by omega]
theorem cur_same : ∀ (a : List (Oper × AV)) (L L' : Nat → Bool) (i : Nat) (s : List AV), (∀ k, k < a.length → L (i + k) = L' (i + k)) → cur a L i s = cur a L' i s
  | [], _, _, _, _, _ => rfl
  | (o, v) :: a, L, L', i, s, h => by
    have h0 := h 0 (by simp)
    rw [Nat.add_zero] at h0
    rw [cur, cur, h0]
    exact cur_same a L L' (i + 1) _ (fun k hk => by have := h (k + 1) (by simpa using hk); rwa [show i + (k + 1) = i + 1 + k by omega] at this)
theorem cur_shift (d : Nat) : ∀ (a : List (Oper × AV)) (L : Nat → Bool) (i : Nat) (s : List AV), cur a L (i + d) s = cur a (fun k => L (k + d)) i s
  | [], _, _, _ => rfl
  | (o, v) :: a, L, i, s => by
    rw [cur, cur, show i + d + 1 = i + 1 + d by omega, cur_shift d a L (i + 1)]

section
variable {E : Env} {ops : Array Oper}
theorem SPlan.lay {K : List AV → List Box → Prop} : ∀ {l : List Oper} {s : List AV} {h : List Box}, SPlan E ops K l s h → ∃ (pl : List (Oper × AV)) (hs : Nat → List Box), pl.map (·.1) = l ∧ hs 0 = h ∧ K (cur pl (fun k => decide (k < pl.length)) 0 s) (hs pl.length) ∧
    ∀ (j : Nat) (o : Oper) (v : AV), pl[j]? = some (o, v) → SFact E ops o (cur pl (fun k => decide (k < j)) 0 s) (hs j) v (hs (j + 1)) ∧ AFact E o (hs j) v (hs (j + 1))
  | [], s, h, H => ⟨[], fun _ => h, rfl, rfl, H, fun j o v hj => by simp at hj⟩
  | o :: l, s, h, H => by
    obtain ⟨v, h', h1, h1', H⟩ := H
    obtain ⟨pl, hs, k1, k2, k3, k4⟩ := SPlan.lay H
    have shift : ∀ (n : Nat) (s : List AV), cur pl (fun k => decide (k < n + 1)) (0 + 1) s = cur pl (fun k => decide (k < n)) 0 s := fun n s => by
      rw [cur_shift 1]
      congr 1
      funext k
      simp
    refine ⟨(o, v) :: pl, fun n => match n with | 0 => h | n + 1 => hs n, by simp [k1], rfl, ?_, fun j o' v' hj => ?_⟩
    · rw [cur]
      simp only [List.length_cons, Nat.zero_lt_succ, decide_true, if_true]
      rw [shift]
      exact k3
    · cases j with
      | zero =>
        simp at hj
        obtain ⟨rfl, rfl⟩ := hj
        rw [cur_none _ _ _ _ (fun k _ => decide_eq_false (by omega))]
        simp only [k2]
        exact ⟨h1, h1'⟩
      | succ j =>
        have := k4 j o' v' (by simpa using hj)
        rw [cur]
        simp only [Nat.zero_lt_succ, decide_true, if_true]
        rw [shift]
        exact this

/-- Both parts of a plan, as one. -/
theorem plan_join {m M : Nat} (hmM : m ≤ M) {s : List AV} {h : List Box} {K : List AV → List Box → Prop} (hm : m ≤ ops.size) (H : DPlan E ops h (fun s' => SPlan E ops K (ops.toList.drop m) s' h) (ops.toList.take m) s) :
    ∃ (pl : List (Oper × AV)) (hp : Nat → List Box), XP E ops m M s h pl hp ∧ hp m = h ∧ K (cur pl (fun k => decide (k < pl.length)) 0 s) (hp ops.size) ∧ ∀ (o : Oper) (v : AV), pl[m]? = some (o, v) → AFact E o h v (hp (m + 1)) := by
  obtain ⟨p1, a1, H2, a3⟩ := DPlan.lay H
  obtain ⟨p2, hs, b1, b2, b3, b4⟩ := SPlan.lay H2
  have hl1 : p1.length = m := by
    have := congrArg List.length a1
    simp at this
    omega
  have hl2 : p2.length = ops.size - m := by
    have := congrArg List.length b1
    simpa using this
  have low : ∀ j, j ≤ m → cur (p1 ++ p2) (fun k => decide (k < j)) 0 s = cur p1 (fun k => decide (k < j)) 0 s := fun j hj => by
    rw [cur_append, cur_none p2 _ _ _ (fun k _ => decide_eq_false (by omega))]
  have high : ∀ j, cur (p1 ++ p2) (fun k => decide (k < m + j)) 0 s = cur p2 (fun k => decide (k < j)) 0 (cur p1 (fun k => decide (k < p1.length)) 0 s) := fun j => by
    rw [cur_append, cur_shift, hl1]
    have e1 : (fun k => decide (k + m < m + j)) = (fun k => decide (k < j)) := by funext k; simp; omega
    rw [e1]
    congr 1
    refine cur_same p1 _ _ 0 s (fun k hk => ?_)
    have e2 : 0 + k < m := by omega
    have e3 : 0 + k < m + j := by omega
    simp only [e2, e3]
  have getl : ∀ j, j < m → (p1 ++ p2)[j]? = p1[j]? := fun j hj => List.getElem?_append_left (by omega)
  have getr : ∀ j, (p1 ++ p2)[m + j]? = p2[j]? := fun j => by rw [List.getElem?_append_right (by omega), hl1, Nat.add_sub_cancel_left]
  refine ⟨p1 ++ p2, fun j => hs (j - m), ⟨?_, ?_, ?_, ?_⟩, by simp [b2], ?_, ?_⟩
  · rw [List.map_append, a1, b1, List.take_append_drop]
  · intro j o v hj hov hfl h'
    rw [getl j hj] at hov
    rw [low j (by omega)]
    exact (a3 j o v hov).2 hfl h'
  · intro j o v hj hov _
    rw [getl j hj] at hov
    rw [low j (by omega)]
    exact (a3 j o v hov).1
  · intro j o v hj hov
    obtain ⟨i, rfl⟩ : ∃ i, j = m + i := ⟨j - m, by omega⟩
    rw [getr] at hov
    have := (b4 i o v hov).1
    rw [high]
    simp only [Nat.add_sub_cancel_left, show m + i + 1 - m = i + 1 by omega]
    exact this
  · have e : (p1 ++ p2).length = m + p2.length := by rw [List.length_append, hl1]
    rw [e, high]
    show K _ (hs (ops.size - m))
    rw [show ops.size - m = p2.length from hl2.symm]
    exact b3
  · intro o v hov
    have := getr 0
    rw [Nat.add_zero] at this
    rw [this] at hov
    have := (b4 0 o v hov).2
    rw [b2] at this
    simpa using this

variable {fid : FuncId} {R : Post} {s : List AV} {h : List Box}
theorem AW.anyOrder {id : Nat} {k : List AItem} (hm : E.P.follows .mixedOrders = true)
    (H : ∀ (c : Cx) (t : Array Value) (Q : Exit → Act → World → Prop), (∀ (a : Act) (c' : Cx) (s' : List AV) (h' : List Box), AW E fid ⟨fid, k, s'⟩ [] h' R → HOk E.G c' → c'.heap = h' → a.defers = [] → VS c' s' a.tmps → Step c c' → Q .normal a c'.w) → HOk E.G c → c.heap = h → VS c s t → wpAny E.P .any ops Q ops.size (Array.replicate ops.size false) ⟨t, []⟩ c.w) :
    AW E fid ⟨fid, .code (.region id ops true) :: k, s⟩ [] h R := by
  unfold AW
  intro c0 c t ts h0 h1 h2 h3 hr h4 h5 cs
  have hts : concs [] ts = [] := by cases ts <;> rfl
  rw [hts]
  have hx : Proofs.YtklkmdoakhkikaaDoor.Ext c.w { c.w with drawn := c.w.drawn + 1 } := ⟨rfl, rfl, rfl, Nat.le_refl _, fun _ _ => rfl⟩
  obtain ⟨g1, g2⟩ := h3.grow hx
  have hwp : (Code.region id ops true).wp E.P (fun e a w => e = .normal ∧ ∃ (c' : Cx) (s' : List AV) (h' : List Box), AW E fid ⟨fid, k, s'⟩ [] h' R ∧ HOk E.G c' ∧ c'.heap = h' ∧ a.defers = [] ∧ VS c' s' a.tmps ∧ Step c c' ∧ w = c'.w) ⟨t, []⟩ c.w := by
    refine wp_region_any hm ?_
    exact H (c.inW { c.w with drawn := c.w.drawn + 1 }) t _ (fun a c' s' h' hK r1 r2 r3 r4 r5 => ⟨rfl, c', s', h', hK, r1, r2, r3, r4, g2.trans r5, rfl⟩) g1 h2 (g2.vs h4)
  obtain ⟨e, a', w', ⟨rfl, c', s', h', hA, r1, r2, r3, r4, r5, rfl⟩, harr⟩ := hwp (bf fid) (k.map AItem.conc) cs
  unfold AW at hA
  obtain ⟨c2, fr, r, v, q1, q2, q3, q3', q4, q5, q6⟩ := hA c0 c' a'.tmps [] h0 (ok_tail h1) r2 r1 (hr.step r5) r4 trivial cs
  refine ⟨c2, fr, r, v, q1, q2, q3, q3', ?_, q5, q6⟩
  have ha' : a' = ⟨a'.tmps, []⟩ := by cases a'; simp only at r3; subst r3; rfl
  have : Steps E.P (lone ((bf fid).at ⟨t, []⟩ (.code (.region id ops true) :: k.map AItem.conc)) cs c.w) (lone ((bf fid).at a' (k.map AItem.conc)) cs c'.w) := harr
  rw [ha'] at this
  exact this.trans q4

theorem lst0 (n i : Nat) : Lst (Array.replicate n false) i = false := by
  unfold Lst
  simp [Array.getElem?_replicate]
  split <;> rfl
theorem cnt0 (n : Nat) : ∀ k, cnt (Lst (Array.replicate n false)) k ≤ k := by
  intro k
  induction k with
  | zero => exact Nat.le_refl _
  | succ k ih => simp only [cnt]; split <;> omega

variable {k : List AItem} {lits : List Nat}
theorem plan_conv {l : List Oper} {s : List AV} {h : List Box} (H : SPlan E ops (fun s2 h2 => AWL E fid R [] k s2 h2) l s h) : SPlan E ops (fun s2 h2 => AW E fid ⟨fid, k, s2⟩ [] h2 R) l s h := by
  induction l generalizing s h with
  | nil => exact AWL.to H
  | cons o l ih => obtain ⟨v, h', h1, h1', h2⟩ := H; exact ⟨v, h', h1, h1', ih h2⟩
theorem plan_conv2 {suf l : List Oper} {s : List AV} {h : List Box} (H : DPlan E ops h (fun s' => SPlan E ops (fun s2 h2 => AWL E fid R [] k s2 h2) suf s' h) l s) : DPlan E ops h (fun s' => SPlan E ops (fun s2 h2 => AW E fid ⟨fid, k, s2⟩ [] h2 R) suf s' h) l s := by
  induction l generalizing s with
  | nil => exact plan_conv H
  | cons o l ih => obtain ⟨v, h1, h1', h2⟩ := H; exact ⟨v, h1, h1', ih h2⟩

/-- A region that draws its order: the first m operations in any order, the others in order; moves float. -/
theorem AWL.drawF (hE : E.OK) (hm : E.P.follows .mixedOrders = true) (m n : Nat) {id : Nat} (hchk : (chkX ops m m && Nat.ble m ops.size) = true) (H : takeK m ops.toList fun pre => dropK m ops.toList fun suf => drunK E fid R ops k n [] pre suf s h) : AWL E fid R lits (.code (.region id ops true) :: k) s h := by
  rw [takeK_eq, dropK_eq] at H
  rw [Bool.and_eq_true] at hchk
  have hmn := Nat.le_of_ble_eq_true hchk.2
  obtain ⟨pl, hp, x1, x2, x3, -⟩ := plan_join (Nat.le_refl m) hmn (plan_conv2 (drunK_sound hE n [] _ _ s h H))
  refine .of (AW.anyOrder hm fun c t Q hQ h1 h2 h4 => ?_)
  refine phase0 (chkX_spec hchk.1) hmn x1 x2 (Kf := fun s2 h2 => AW E fid ⟨fid, k, s2⟩ [] h2 R) x3 hQ ops.size _ ⟨t, []⟩ c h1 h2 rfl ?_ (Step.refl c h1.barlt) ⟨by simp, fun j o e _ hl => by rw [lst0] at hl; cases hl⟩ (fun i _ => lst0 _ i) (cnt0 _ _)
  rw [cur_none _ 0 s _ (fun i _ => lst0 _ _)]
  exact h4

def isAllocB (o : Oper) : Bool := match o.op, o.guard with
  | .alloc _, none => true
  | _, _ => false

/-- The same, and the operation behind the first m ones makes a variable, at any time before those behind it. -/
theorem AWL.drawA (hE : E.OK) (hm : E.P.follows .mixedOrders = true) (m n : Nat) {id : Nat} (hchk : (chkX ops m (m + 1) && Nat.ble (m + 1) ops.size && (match ops[m]? with | some o => isAllocB o | none => false)) = true) (H : takeK m ops.toList fun pre => dropK m ops.toList fun suf => drunK E fid R ops k n [] pre suf s h) : AWL E fid R lits (.code (.region id ops true) :: k) s h := by
  rw [takeK_eq, dropK_eq] at H
  rw [Bool.and_eq_true, Bool.and_eq_true] at hchk
  obtain ⟨⟨hc1, hc2⟩, hc3⟩ := hchk
  have hmn := Nat.le_of_ble_eq_true hc2
  cases hox : ops[m]? with
  | none => rw [hox] at hc3; cases hc3
  | some ox =>
    rw [hox] at hc3
    obtain ⟨ty, hop, hgd⟩ : ∃ ty, ox.op = .alloc ty ∧ ox.guard = none := by
      have hc3 : isAllocB ox = true := hc3
      clear hox
      obtain ⟨dst, op, type, pos, after, guard⟩ := ox
      cases op <;> first | (cases guard <;> first | exact ⟨_, rfl, rfl⟩ | cases hc3) | cases hc3
    obtain ⟨pl, hp, x1, x2, x3, x4⟩ := plan_join (M := m + 1) (by omega) (by omega) (plan_conv2 (drunK_sound hE n [] _ _ s h H))
    obtain ⟨hlen, hat⟩ := plan_at x1.ofs
    obtain ⟨⟨o, v⟩, hov⟩ : ∃ p, pl[m]? = some p := ⟨pl[m]'(by omega), by rw [List.getElem?_eq_getElem]⟩
    have hoo := hat m o v hov
    rw [hox] at hoo
    cases hoo
    obtain ⟨rfl, ti, t1, t2, t3, hh⟩ := x4 ox v hov ty hop hgd
    refine .of (AW.anyOrder hm fun c t Q hQ h1 h2 h4 => ?_)
    obtain ⟨us, hok⟩ := phase1 hE (chkX_spec hc1) hmn hox hop hgd t1 t2 t3 x1 hov hh (Kf := fun s2 h2 => AW E fid ⟨fid, k, s2⟩ [] h2 R) (c0 := c) (Q := Q) x3 hQ
    refine hok ops.size _ ⟨t, []⟩ c h1 h2 rfl ?_ (by rw [lst0]; exact Step.refl c h1.barlt) ⟨by simp, fun j o e _ hl => by rw [lst0] at hl; cases hl⟩ (fun i _ => lst0 _ i) (cnt0 _ _)
    rw [cur_none _ 0 s _ (fun i _ => lst0 _ _)]
    exact h4
end
end Go.Eng
