/- The engine, part 11: returns, cases, and runs that compute. No conditions. -/
import Derived.Test.YtklkmdoakhkikaaDoorEng10
namespace Go.Eng
open Go Go.RowKit

section
variable {E : Env} {f0 fid : FuncId} {k : List AItem} {s : List AV} {cls : List AFrame} {h : List Box} {R : Post}

/-- A value as a pure one, at the end. -/
def DeepOK (G : List (Nat × DV)) (h : List Box) (x : AV) (r : DV) : Prop := ∀ (c : Cx) (v : Value), HOk G c → c.heap = h → VR c x v → VD c.bar c.w r v

theorem vd_bar {c : Cx} {x : DV} {v : Value} (hv : VD c.bad c.w x v) : VD c.bar c.w x v := hv.mono fun _ _ hn => ⟨fun hb => hn (.inl hb), rfl⟩

theorem deep_d {G : List (Nat × DV)} (x : DV) : DeepOK G h (.d x) x := fun c v _ _ hv => by cases hv with | d _ _ hv => exact vd_bar hv

theorem deep_own {G : List (Nat × DV)} {b g : Nat} {ts : Nat × Nat} {l : List DV} (hb : h[b]? = some (.arr g ts l)) : DeepOK G h (.own b g) (.sl l) := fun c v ho hh hv => by
  subst hh
  obtain ⟨q0, q1, q2⟩ := ho.box b _ hb
  cases hv with
  | own _ _ _ l' blk cap k1 k2 =>
    rw [hb] at k1; cases k1
    rcases q2 with ⟨q2, -⟩ | ⟨blk', cap', vs, q2, q3, q4, q5, q6, q7⟩
    · rw [k2] at q2; cases q2
    · rw [k2] at q2; cases q2
      have hrow := row_of_block q3
      refine .sl l blk 0 cap ts.2 (fun i j => vs.toList.getD (i * ts.2 + j) undef) (fun _ => ho.sep b blk cap k2) q0 q5 q1 (fun i j e x he hx => ?_) (fun i j e x he hx => ?_) (fun i j e x he hx => ?_)
      · obtain ⟨v, g1, -, g2⟩ := q7 i j e x he hx
        rw [hrow (i * ts.2 + j) v (by simpa using g1)]
        simp [List.getD, g1]
      · obtain ⟨v, g1, -, g2⟩ := q7 i j e x he hx
        simp only [List.getD, Array.getElem?_toList, g1, Option.getD_some]
        exact vd_bar g2
      · obtain ⟨v, g1, g2, -⟩ := q7 i j e x he hx
        simp only [List.getD, Array.getElem?_toList, g1, Option.getD_some]
        exact g2
  | ownnil _ _ _ k1 k2 => rw [hb] at k1; cases k1; exact .slnil
  | ownold _ _ g' _ _ _ k1 k2 _ => rw [hb] at k1; cases k1; omega
  | owngone _ _ _ k1 _ => rw [hb] at k1; cases k1

def deep1K {α : Sort _} (h : List Box) (x : AV) (stop : α) (k : DV → α) : α :=
  match x with
  | .d x => k x
  | .own b g => getK h b stop fun
    | .arr g' _ l => match Nat.beq g g' with
      | true => k (.sl l)
      | false => stop
    | _ => stop
  | _ => stop
theorem deep1K_sound {G : List (Nat × DV)} {x : AV} {stop : Prop} {k : DV → Prop} (H : deep1K h x stop k) : stop ∨ ∃ r, DeepOK G h x r ∧ k r := by
  unfold deep1K at H
  split at H
  · exact .inr ⟨_, deep_d _, H⟩
  · rcases getK_or H with h | ⟨bx, hb, H⟩
    · exact .inl h
    split at H
    · split at H
      · rename_i q
        have := Nat.eq_of_beq_eq_true q
        subst this
        exact .inr ⟨_, deep_own hb, H⟩
      · exact .inl H
    · exact .inl H
  · exact .inl H

def deepsK {α : Sort _} (d : AV → α → (DV → α) → α) : List AV → (stop : α) → (List DV → α) → α
  | [], _, k => k []
  | x :: l, stop, k => d x stop fun r => deepsK d l stop fun l' => k (r :: l')
def DeepsOK (G : List (Nat × DV)) (h : List Box) (l : List AV) (r : List DV) : Prop := ∀ (c : Cx) (vs : List Value), HOk G c → c.heap = h → VL c l vs → VLD c.bar c.w r vs
theorem deepsK_sound {G : List (Nat × DV)} {d : AV → Prop → (DV → Prop) → Prop} (hd : ∀ {x : AV} {stop : Prop} {k : DV → Prop}, d x stop k → stop ∨ ∃ r, DeepOK G h x r ∧ k r) {stop : Prop} : ∀ {l : List AV} {k : List DV → Prop}, deepsK d l stop k → stop ∨ ∃ r, DeepsOK G h l r ∧ k r
  | [], k, H => .inr ⟨[], fun c vs _ _ hv => ⟨by simpa using hv.1, fun j x v hx => by simp at hx⟩, H⟩
  | x :: l, k, H => by
    simp only [deepsK] at H
    rcases hd H with h | ⟨r, hr, H⟩
    · exact .inl h
    rcases deepsK_sound hd H with h | ⟨rs, hrs, H⟩
    · exact .inl h
    refine .inr ⟨r :: rs, fun c vs h1 h2 hv => ?_, H⟩
    cases vs with
    | nil => have := hv.1; simp at this
    | cons v vs =>
      obtain ⟨g1, g2⟩ := hv.head
      have g3 := hrs c vs h1 h2 g2
      refine ⟨by simp [g3.1], fun j y u hy hu => ?_⟩
      cases j with
      | zero => simp at hy hu; subst hy; subst hu; exact hr c v h1 h2 g1
      | succ j => exact g3.2 j y u (by simpa using hy) (by simpa using hu)

def deep2K {α : Sort _} (h : List Box) (x : AV) (stop : α) (k : DV → α) : α :=
  match x with
  | .agg l => deepsK (deep1K h) l stop fun r => k (.agg r)
  | x => deep1K h x stop k
theorem deep2K_sound {G : List (Nat × DV)} {x : AV} {stop : Prop} {k : DV → Prop} (H : deep2K h x stop k) : stop ∨ ∃ r, DeepOK G h x r ∧ k r := by
  unfold deep2K at H
  split at H
  · rcases deepsK_sound (G := G) (h := h) deep1K_sound H with h | ⟨r, hr, H⟩
    · exact .inl h
    refine .inr ⟨_, fun c v h1 h2 hv => ?_, H⟩
    obtain ⟨vs, rfl, hvl⟩ := vr_agg_inv hv
    have := hr c vs h1 h2 hvl
    exact .agg _ _ (by simpa using this.1) fun j x v hx hu => this.2 j x v hx (by simpa using hu)
  · exact deep1K_sound H

/-- The results of a function. -/
def resK {α : Sort _} (T : List TInfo) (s : List AV) (h : List Box) : List ResultVar → (stop : α) → (List AV → α) → α
  | [], _, k => k []
  | .tmp t :: l, stop, k => getK s t stop fun v => resK T s h l stop fun l' => k (v :: l')
  | .cell a t :: l, stop, k => getK T t stop fun i => getK s a stop fun
    | .ptr b off => getK h b stop fun
      | .cells c => partK i c off stop fun v => resK T s h l stop fun l' => k (v :: l')
      | _ => stop
    | _ => stop

/-- One result. -/
def resOne (t : Array Value) : ResultVar → Sem Value
  | .tmp t' => pure (t.getD t' undef)
  | .cell a t' => do loadVar t' (← asAddr (t.getD a undef))

theorem resK_sound (hE : E.OK) {stop : Prop} : ∀ {l : List ResultVar} {k : List AV → Prop}, resK E.T s h l stop k → stop ∨ ∃ r, k r ∧ ∀ (c : Cx) (t : Array Value), c.heap = h → HOk E.G c → VS c s t → ∃ vs : List Value, VL c r vs ∧ (l.mapM (resOne t)).run E.P c.w = .ok vs c.w
  | [], k, H => .inr ⟨[], H, fun c t _ _ hs => ⟨[], .nil, by simp⟩⟩
  | .tmp n :: l, k, H => by
    simp only [resK] at H
    rcases getK_or H with h | ⟨x, hx, H⟩
    · exact .inl h
    rcases resK_sound hE H with h | ⟨r, hk, hr⟩
    · exact .inl h
    refine .inr ⟨x :: r, hk, fun c t hc ho hs => ?_⟩
    obtain ⟨vs, h1, h2⟩ := hr c t hc ho hs
    have hl : n < t.size := by
      rw [← hs.1]
      rcases Nat.lt_or_ge n s.length with h | h
      · exact h
      · rw [List.getElem?_eq_none h] at hx; cases hx
    refine ⟨t[n] :: vs, .cons (hs.2 n x _ hx (by simp [hl])) h1, ?_⟩
    rw [List.mapM_cons]
    simp only [resOne, Sem.run_bind, Sem.run_pure, Result.andThen_ok, h2]
    simp [hl]
  | .cell a ty :: l, k, H => by
    simp only [resK] at H
    rcases getK_or H with h | ⟨i, hi, H⟩
    · exact .inl h
    rcases getK_or H with h | ⟨x, hx, H⟩
    · exact .inl h
    split at H
    · rename_i b off
      rcases getK_or H with h1 | ⟨bx, hb, H⟩
      · exact .inl h1
      split at H
      · rename_i cs
        rcases partK_sound H with h1 | ⟨v, H, hp⟩
        · exact .inl h1
        rcases resK_sound hE H with h | ⟨r, hk, hr⟩
        · exact .inl h
        refine .inr ⟨v :: r, hk, fun c t hc ho hs => ?_⟩
        obtain ⟨vs, h1, h2⟩ := hr c t hc ho hs
        subst hc
        have hl : a < t.size := by
          rw [← hs.1]
          rcases Nat.lt_or_ge a s.length with h | h
          · exact h
          · rw [List.getElem?_eq_none h] at hx; cases hx
        obtain ⟨blk, cap, us, ty', g1, g2, g3⟩ := ho.cells hb
        obtain ⟨u, hu, hvu⟩ := hp E.P ty c blk 0 us.toList (hE.types ty i hi) g3 (row_of_block g2)
        have hp' := hs.2 a _ t[a] hx (by simp [hl])
        have hpt : t[a] = .pointer (some ⟨blk, 0 + off, none⟩) := by
          generalize t[a] = p at hp'
          cases hp' with
          | ptr _ _ cs' blk' cap' hb' ho' => rw [g1] at ho'; cases ho'; rw [Nat.zero_add]
          | ptrgone _ _ _ hb' _ => rw [hb] at hb'; cases hb'
        have hu' : (loadVar ty ⟨blk, 0 + off, none⟩).run E.P c.w = .ok u c.w := hu
        refine ⟨u :: vs, .cons hvu h1, ?_⟩
        rw [List.mapM_cons]
        have hg : t.getD a undef = .pointer (some ⟨blk, 0 + off, none⟩) := by simp [hl, hpt]
        simp only [resOne, hg, asAddr, Sem.run_bind, Sem.run_pure, Result.andThen_ok, hu', h2]
      · exact .inl H
    · exact .inl H

/-- Results as one value. -/
def packed : List Value → Value
  | [v] => v
  | vs => .tuple vs.toArray

theorem run_results {P : Program} {fn : Func} {t : Array Value} {w : World} {vs : List Value} (h : (fn.results.toList.mapM (resOne t)).run P w = .ok vs w) :
    (results fn t).run P w = .ok (packed vs) w := by
  have e1 : results fn t = (do let vs ← fn.results.mapM (resOne t); pure (if h : vs.size = 1 then vs[0] else .tuple vs)) := by
    rfl
  have e2 : (fn.results.mapM (resOne t) : Sem (Array Value)) = List.toArray <$> (fn.results.toList.mapM (resOne t)) := by
    rw [Array.mapM_eq_mapM_toList]
  simp only [e1, e2, Sem.run_bind, map_eq_pure_bind, h, Result.andThen_ok, Sem.run_pure]
  cases vs with
  | nil => rfl
  | cons v vs => cases vs with
    | nil => rfl
    | cons u vs => simp [packed]

/-- What a function hands back. -/
def retK {α : Sort _} (T : List TInfo) (s : List AV) (h : List Box) (rs : List ResultVar) (stop : α) (k : AV → List Box → α) : α :=
  resK T s h rs stop fun
    | [x] => k x h
    | l => k (.tup l) h

theorem AW.ret_of (hE : E.OK) {td : List AItem} (htd : ∀ (a : Act) (cs : List Frame) (w : World), step E.P (lone ((bf fid).at a (td.map AItem.conc)) cs w) = .next (lone { (bf fid).at a (td.map AItem.conc) with mode := .returning } cs w))
    {fn : Func} (hf : E.P.funcs[fid]? = some fn) (H : retK E.T s h fn.results.toList False R.Q) : AW E fid ⟨fid, td, s⟩ [] h R := by
  unfold AW
  intro c0 c t ts h0 h1 h2 h3 hr h4 h5 cs
  unfold retK at H
  rcases resK_sound hE H with h' | ⟨l, H, hl⟩
  · cases h'
  obtain ⟨vs, g1, g2⟩ := hl c t h2 h3 h4
  have fin : ∀ r v, packed vs = v → R.Q r h → VR c r v → ∃ (c' : Cx) (fr : Frame) (r : AV) (v : Value),
      R.Q r c'.heap ∧ VR c' r v ∧ HOk E.G c' ∧ Rel c0 c' ∧ Steps E.P (lone ((⟨fid, td, s⟩ : AFrame).conc t) (concs [] ts ++ cs) c.w) (lone fr cs c'.w) ∧ fr.fn = fid ∧ fr.leaving E.P c'.w (.returned v) := fun r v e1 e2 e3 => by
    refine ⟨c, _, r, v, by rw [h2]; exact e2, e3, h3, hr, .one (htd ⟨t, []⟩ cs c.w), rfl, rfl, rfl, rfl, fn, hf, ?_⟩
    rw [← e1]
    exact run_results g2
  split at H
  · rename_i x
    cases vs with
    | nil => have := g1.1; simp at this
    | cons v vs => cases vs with
      | cons u vs => have := g1.1; simp at this
      | nil => exact fin x v rfl H g1.head.1
  · rename_i hne
    refine fin (.tup l) (.tuple vs.toArray) ?_ H (.tup _ _ (by simpa using g1.1) fun j x v hx hu => g1.2 j x v hx (by simpa using hu))
    cases vs with
    | nil => rfl
    | cons v vs => cases vs with
      | nil =>
        have := g1.1
        cases l with
        | nil => simp at this
        | cons x l => cases l with
          | nil => exact absurd rfl (hne x)
          | cons y l => simp at this
      | cons u vs => rfl

/-- The result as a pure value: all own arrays are laid to rest. -/
def deepQ (R : DV → Prop) (x : AV) (h : List Box) : Prop :=
  match x with
  | .tup l => deepsK (deep2K h) l False fun r => R (.tup r)
  | x => deep2K h x False R
theorem deepQ_sound {G : List (Nat × DV)} {R : DV → Prop} {x : AV} (H : deepQ R x h) : ∃ r, DeepOK G h x r ∧ R r := by
  unfold deepQ at H
  split at H
  · rcases deepsK_sound (G := G) (h := h) deep2K_sound H with h' | ⟨r, hr, H⟩
    · cases h'
    refine ⟨_, fun c v h1 h2 hv => ?_, H⟩
    cases hv with
    | tup _ vs hl hval =>
      have := hr c vs.toList h1 h2 ⟨by simpa using hl, fun j x v hx hv => hval j x v hx (by simpa using hv)⟩
      exact .tup _ _ (by simpa using this.1) fun j x v hx hu => this.2 j x v hx (by simpa using hu)
  · rcases deep2K_sound (G := G) H with h' | h'
    · cases h'
    · exact h'

/-- A contract in pure values. -/
theorem PCalls.of_A {f : FuncId} {args : List DV} {R : DV → Prop} (H : ACalls E f [] (args.map .d) (deepQ R)) : PCalls E f args R := by
  unfold ACalls at H
  unfold PCalls
  refine ⟨H.1, fun bar w vs h1 h2 h3 => ?_⟩
  let c : Cx := ⟨fun _ => none, [], bar, w⟩
  have hv : VL c (args.map .d) vs := .mapD h3.1 fun j x v hx hu => vd_none (h3.2 j x v hx hu)
  have ho : HOk E.G c := ⟨h1, fun i b n hi => (by cases hi), fun i j b n m hi => (by cases hi), fun i b n hi => (by cases hi), fun i bx hi => (by simp [c] at hi), h2⟩
  refine (H.2.2 c vs rfl ho hv).mono fun e w' ⟨c', r, v, k1, k2, k3, k4, k5, k6⟩ => ?_
  obtain ⟨d, hd, hR⟩ := deepQ_sound (G := E.G) k3
  subst k2
  have := hd c' v k5 rfl k4
  rw [k6.bar] at this
  exact ⟨v, d, k1, hR, this, k6.ext fun _ => rfl⟩

theorem AW.ret (hE : E.OK) {fn : Func} (hf : E.P.funcs[fid]? = some fn) (H : retK E.T s h fn.results.toList False R.Q) : AW E fid ⟨fid, .code .ret :: k, s⟩ [] h R := .ret_of hE (fun _ _ _ => step_ret) hf H
theorem AW.fall (hE : E.OK) {fn : Func} (hf : E.P.funcs[fid]? = some fn) (H : retK E.T s h fn.results.toList False R.Q) : AW E fid ⟨fid, [], s⟩ [] h R := .ret_of hE (fun _ _ _ => step_end) hf H

end
end Go.Eng
