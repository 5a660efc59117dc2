/- The engine, part L: own arrays laid to rest as slices that stay as they are, and lent to calls; operations one by one. No conditions. -/
import Derived.Test.YtklkmdoakhkikaaDoorEng13
namespace Go.Eng
open Go Go.RowKit

section
variable {α : Sort _}
def frz0K (b g : Nat) (l : List DV) (x : AV) (k : AV → α) : α := match x with
  | .own j g' => match Nat.beq j b, Nat.beq g' g with
    | true, true => k (.d (.sl l))
    | _, _ => k (.own j g')
  | x => k x
def frzsK (b g : Nat) (l : List DV) : List AV → (List AV → α) → α
  | [], k => k []
  | x :: r, k => frz0K b g l x fun y => frzsK b g l r fun r' => k (y :: r')
def frz1K (b g : Nat) (l : List DV) (x : AV) (k : AV → α) : α := match x with
  | .agg c => frzsK b g l c fun c' => aggK c' k
  | .tup c => frzsK b g l c fun c' => k (.tup c')
  | .fn f a1 a2 => frzsK b g l a1 fun a1' => frzsK b g l a2 fun a2' => k (.fn f a1' a2')
  | x => frz0K b g l x k
def frzSK (b g : Nat) (l : List DV) : List AV → (List AV → α) → α
  | [], k => k []
  | x :: r, k => frz1K b g l x fun y => frzSK b g l r fun r' => k (y :: r')
def frzHK (b g : Nat) (l : List DV) : List Box → (List Box → α) → α
  | [], k => k []
  | x :: r, k => match x with
    | .cells c => frzsK b g l c fun c' => frzHK b g l r fun r' => k (.cells c' :: r')
    | x => frzHK b g l r fun r' => k (x :: r')
end
/-- An own array becomes a slice that stays as it is. -/
def frzK (b : Nat) (s : List AV) (h : List Box) (k : List AV → List Box → Prop) : Prop := getK h b False fun
  | .arr g _ l => frzSK b g l s fun s' => frzHK b g l h fun h' => setK h' b .gone fun h'' => k s' h''
  | _ => False

structure Frz (b g : Nat) (l : List DV) (c c' : Cx) : Prop where
  step : Step c c'
  own : ∀ v, VR c (.own b g) v → VR c' (.d (.sl l)) v

section
variable {b g : Nat} {l : List DV}
theorem frz0K_sound {x : AV} {k : AV → Prop} (H : frz0K b g l x k) : ∃ y, k y ∧ ∀ c c', Frz b g l c c' → ∀ v, VR c x v → VR c' y v := by
  unfold frz0K at H
  split at H
  · split at H
    · rename_i q1 q2
      have q1 := Nat.eq_of_beq_eq_true q1
      have q2 := Nat.eq_of_beq_eq_true q2
      subst q1; subst q2
      exact ⟨_, H, fun c c' hf v hv => hf.own v hv⟩
    · exact ⟨_, H, fun c c' hf v hv => hf.step.vr hv⟩
  · exact ⟨_, H, fun c c' hf v hv => hf.step.vr hv⟩
theorem frzsK_sound : ∀ {r : List AV} {k : List AV → Prop}, frzsK b g l r k → ∃ r', k r' ∧ r'.length = r.length ∧ ∀ c c', Frz b g l c c' → ∀ vs, VL c r vs → VL c' r' vs
  | [], _, H => ⟨[], H, rfl, fun _ _ _ _ hv => ⟨hv.1, fun j x v hx => by simp at hx⟩⟩
  | x :: r, k, H => by
    obtain ⟨y, H, hy⟩ := frz0K_sound H
    obtain ⟨r', H, hl, hr⟩ := frzsK_sound H
    refine ⟨y :: r', H, by simp [hl], fun c c' hf vs hv => ?_⟩
    cases vs with
    | nil => have := hv.1; simp at this
    | cons v vs => exact .cons (hy c c' hf v hv.head.1) (hr c c' hf vs hv.head.2)
theorem frz1K_sound {x : AV} {k : AV → Prop} (H : frz1K b g l x k) : ∃ y, k y ∧ ∀ c c', Frz b g l c c' → ∀ v, VR c x v → VR c' y v := by
  unfold frz1K at H
  split at H
  · obtain ⟨r', H, -, hr⟩ := frzsK_sound H
    obtain ⟨y, H, hy⟩ := aggK_sound H
    refine ⟨y, H, fun c c' hf v hv => ?_⟩
    obtain ⟨vs, rfl, hvl⟩ := vr_agg_inv hv
    exact hy c' vs (hr c c' hf vs hvl)
  · obtain ⟨r', H, -, hr⟩ := frzsK_sound H
    refine ⟨_, H, fun c c' hf v hv => ?_⟩
    cases hv with
    | tup _ vs hl hval =>
      have := hr c c' hf vs.toList ⟨by simpa using hl, fun j x v hx hv => hval j x v hx (by simpa using hv)⟩
      exact .tup _ vs (by simpa using this.1) (fun j x v hx hv => this.2 j x v hx (by simpa using hv))
  · obtain ⟨a1', H, -, h1⟩ := frzsK_sound H
    obtain ⟨a2', H, -, h2⟩ := frzsK_sound H
    refine ⟨_, H, fun c c' hf v hv => ?_⟩
    obtain ⟨v1, v2, rfl, r1, r2⟩ := vr_fn hv
    have r1 := h1 c c' hf v1 r1
    have r2 := h2 c c' hf v2 r2
    exact .fn _ _ _ _ _ (by simpa using r1.1) (by simpa using r2.1) (fun j x v hx hv => r1.2 j x v hx (by simpa using hv)) (fun j x v hx hv => r2.2 j x v hx (by simpa using hv))
  · exact frz0K_sound H
theorem frzSK_sound : ∀ {r : List AV} {k : List AV → Prop}, frzSK b g l r k → ∃ r', k r' ∧ ∀ c c', Frz b g l c c' → ∀ vs, VL c r vs → VL c' r' vs
  | [], _, H => ⟨[], H, fun _ _ _ _ hv => ⟨hv.1, fun j x v hx => by simp at hx⟩⟩
  | x :: r, k, H => by
    obtain ⟨y, H, hy⟩ := frz1K_sound H
    obtain ⟨r', H, hr⟩ := frzSK_sound H
    refine ⟨y :: r', H, fun c c' hf vs hv => ?_⟩
    cases vs with
    | nil => have := hv.1; simp at this
    | cons v vs => exact .cons (hy c c' hf v hv.head.1) (hr c c' hf vs hv.head.2)

def FBox (b g : Nat) (l : List DV) (x y : Box) : Prop := match x with
  | .cells cs => ∃ cs', y = .cells cs' ∧ cs'.length = cs.length ∧ ∀ c c', Frz b g l c c' → ∀ vs, VL c cs vs → VL c' cs' vs
  | x => y = x
theorem frzHK_sound : ∀ {r : List Box} {k : List Box → Prop}, frzHK b g l r k → ∃ r', k r' ∧ r'.length = r.length ∧ ∀ (i : Nat) (x : Box), r[i]? = some x → ∃ y, r'[i]? = some y ∧ FBox b g l x y
  | [], _, H => ⟨[], H, rfl, fun i x hx => by simp at hx⟩
  | x :: r, k, H => by
    unfold frzHK at H
    have fin : ∀ {y : Box} {r' : List Box}, FBox b g l x y → (∀ (i : Nat) (x : Box), r[i]? = some x → ∃ y, r'[i]? = some y ∧ FBox b g l x y) → ∀ (i : Nat) (z : Box), (x :: r)[i]? = some z → ∃ y', (y :: r')[i]? = some y' ∧ FBox b g l z y' := fun {y r'} h1 h2 i z hz => by
      cases i with
      | zero => simp at hz; subst hz; exact ⟨y, rfl, h1⟩
      | succ i => obtain ⟨y', k1, k2⟩ := h2 i z (by simpa using hz); exact ⟨y', by simpa using k1, k2⟩
    split at H
    · obtain ⟨c', H, hl, hr⟩ := frzsK_sound H
      obtain ⟨r', H, hl', hr'⟩ := frzHK_sound H
      exact ⟨_, H, by simp [hl'], fin ⟨c', rfl, hl, hr⟩ hr'⟩
    · rename_i hne
      obtain ⟨r', H, hl', hr'⟩ := frzHK_sound H
      refine ⟨_, H, by simp [hl'], fin ?_ hr'⟩
      cases x with
      | cells c => exact absurd rfl (hne c)
      | arr _ _ _ => rfl
      | map _ => rfl
      | gone => rfl
end

section
variable {E : Env} {fid : FuncId} {R : Post} {td : List AItem} {s : List AV} {h : List Box}
theorem AWL.freeze {lits : List Nat} (b : Nat) (H : frzK b s h fun s' h' => AWL E fid R lits td s' h') : AWL E fid R lits td s h := by
  unfold frzK at H
  rcases getK_or H with H | ⟨bx, hb, H⟩
  · exact H.elim
  split at H
  case h_2 => exact H.elim
  rename_i g ts l
  obtain ⟨s', H, hs'⟩ := frzSK_sound H
  obtain ⟨h', H, hlen, hh'⟩ := frzHK_sound H
  rw [setK_eq] at H
  refine .of (.of_leads (fun c t ts' h1 h2 h3 h4 h5 => ?_) H.to)
  subst h2
  have hbl := lt_of_getElem? hb
  let c' : Cx := { c with own := fun i => if i = b then none else c.own i, heap := h'.set b .gone }
  have hgone : c'.heap[b]? = some .gone := by show (h'.set b .gone)[b]? = _; rw [List.getElem?_set_self (by omega)]
  have hother : ∀ i, i ≠ b → c'.heap[i]? = h'[i]? := fun i hi => by show (h'.set b .gone)[i]? = _; rw [List.getElem?_set_ne (Ne.symm hi)]
  have hown : ∀ i, i ≠ b → c'.own i = c.own i := fun i hi => by simp only [c', if_neg hi]
  have hownle : ∀ i p, c'.own i = some p → i ≠ b ∧ c.own i = some p := fun i p hp => by
    simp only [c'] at hp
    split at hp
    · cases hp
    · rename_i q; exact ⟨q, hp⟩
  have hst : Step c c' := ⟨rfl, h3.barlt, rfl, rfl, rfl, Nat.le_refl _, fun _ _ _ => rfl, fun i x n hi _ => ⟨i, n, (hownle i _ hi).2⟩, fun i bx hi => by
    by_cases hib : i = b
    · subst hib
      cases bx with
      | cells cs => exact .inr hgone
      | arr g sz l => exact .inr hgone
      | map es => exact .inr hgone
      | gone => exact hgone
    · obtain ⟨y, k1, k2⟩ := hh' i bx hi
      rw [← hother i hib] at k1
      cases bx with
      | cells cs => obtain ⟨cs', rfl, e, -⟩ := k2; exact .inl ⟨cs', k1, hown i hib, e⟩
      | arr g sz l => obtain rfl : y = _ := k2; exact .inl ⟨g, l, k1, .inr ⟨rfl, rfl, hown i hib⟩⟩
      | map es => obtain rfl : y = _ := k2; exact .inl ⟨es, k1, hown i hib⟩
      | gone => obtain rfl : y = _ := k2; exact k1⟩
  have hbad : ∀ x, c'.bad x → c.bad x := fun x hx => hx.elim .inl fun ⟨i, n, hi⟩ => .inr ⟨i, n, (hownle i _ hi).2⟩
  have hfz : Frz b g l c c' := ⟨hst, fun v hv => by
    obtain ⟨q0, q1, q2⟩ := h3.box b _ hb
    rcases vr_own hb hv with ⟨blk, cap, r1, rfl⟩ | ⟨rfl, rfl, r1⟩
    · rcases q2 with ⟨q2, -⟩ | ⟨blk', cap', vs, q2, q3, q4, q5, q6, q7⟩
      · rw [r1] at q2; cases q2
      rw [r1] at q2; cases q2
      refine .d _ _ (.sl l blk 0 cap ts.2 (fun i j => (vs[i * ts.2 + j]?).getD undef) (fun _ hbd => ?_) q0 q5 (fun i e he => q1 i e he) (fun i j e x he hx => ?_) (fun i j e x he hx => ?_) (fun i j e x he hx => ?_))
      · rcases hbd with hbd | ⟨i, n, hi⟩
        · exact h3.sep b blk cap r1 hbd
        · obtain ⟨k1, k2⟩ := hownle i _ hi
          exact k1 (h3.inj i b blk n cap k2 r1)
      · obtain ⟨v, p1, p2, p3⟩ := q7 i j e x he hx
        rw [p1, Option.getD_some]
        exact row_of_block q3 _ v (by simpa using p1)
      · obtain ⟨v, p1, p2, p3⟩ := q7 i j e x he hx
        simp only [p1, Option.getD_some]
        exact hst.vd p3
      · obtain ⟨v, p1, p2, p3⟩ := q7 i j e x he hx
        simp only [p1, Option.getD_some]
        exact p2
    · exact .d _ _ .slnil⟩
  have hok : HOk E.G c' := by
    refine h3.next hst (fun i x n hi => ?_) (fun i j x n m hi hj => h3.inj i j x n m (hownle i _ hi).2 (hownle j _ hj).2) (fun i bx hi => ?_)
    · have := h3.ownlt i x n (hownle i _ hi).2
      refine ⟨this.1, ?_⟩
      show i < (h'.set b .gone).length
      rw [List.length_set, hlen]
      exact this.2
    · right
      by_cases hib : i = b
      · subst hib
        rw [hgone] at hi
        cases hi
        show c'.own i = none
        simp [c']
      · rw [hother i hib] at hi
        have hil : i < c.heap.length := by rw [← hlen]; exact lt_of_getElem? hi
        obtain ⟨y, k1, k2⟩ := hh' i c.heap[i] (by simp [hil])
        rw [hi] at k1
        cases k1
        have hbx : c.heap[i]? = some c.heap[i] := by simp [hil]
        generalize c.heap[i] = x at k2 hbx
        cases x with
        | cells cs =>
          obtain ⟨cs', rfl, e, hv⟩ := k2
          obtain ⟨blk, cap, vs, ty, g1, g2, g3⟩ := h3.cells hbx
          have := hv c c' hfz vs.toList g3
          exact ⟨blk, cap, vs, ty, (hown i hib).trans g1, g2, by simpa using this.1.symm, fun j x v hx hv => this.2 j x v hx (by simpa using hv)⟩
        | arr _ _ _ => obtain rfl : bx = _ := k2; exact (h3.box i _ hbx).keep hst (hown i hib) (fun _ _ _ => rfl)
        | map _ => obtain rfl : bx = _ := k2; exact (h3.box i _ hbx).keep hst (hown i hib) (fun _ _ _ => rfl)
        | gone => obtain rfl : bx = _ := k2; exact (h3.box i _ hbx).keep hst (hown i hib) (fun _ _ _ => rfl)
  have hv := hs' c c' hfz t.toList ⟨by simpa using h4.1, fun j x v hx hv => h4.2 j x v hx (by simpa using hv)⟩
  exact ⟨c', t, ts', h1, rfl, hok, ⟨by simpa using hv.1, fun j x v hx hu => hv.2 j x v hx (by simpa using hu)⟩, hst.cr h5, hst, fun _ => .refl _ _⟩

/-- A loop's first round, and one more. -/
theorem AWL.unroll {lits : List Nat} {b : Code} {k : List AItem} (H : AWL E fid R [] (.code b :: .inLoop b :: k) s h) : AWL E fid R lits (.code (.loop b) :: k) s h := .of (.loop H.to)
theorem AWL.again {lits : List Nat} {b : Code} {k : List AItem} (H : AWL E fid R [] (.code b :: .inLoop b :: k) s h) : AWL E fid R lits (.inLoop b :: k) s h := .of (.inLoop H.to)
/-- One operation, by what it does. -/
theorem AWL.op1 {lits : List Nat} {ops : Array Oper} {o : Oper} {l : List Oper} {k : List AItem} {v : AV} {h' : List Box} (ho : OpOK E o.op s h v h') (hg : o.guard = none) (H : putK s o.dst v fun s' => AWL E fid R lits (.reg ops l :: k) s' h') : AWL E fid R lits (.reg ops (o :: l) :: k) s h := by
  rw [putK_eq] at H
  exact .of (.op (wanted_none hg) ho H.to)
end

/-- A value without references. -/
def flat1B : DV → Bool
  | .int _ _ => true
  | .bool _ => true
  | .str _ => true
  | .undef => true
  | .nilsl => true
  | _ => false
def flatB : DV → Bool
  | .tup c => c.all flat1B
  | .agg c => c.all flat1B
  | x => flat1B x
theorem flat1B_vd {x : DV} (hx : flat1B x = true) {bad bad' : Nat → Prop} {w w' : World} {v : Value} (hv : VD bad w x v) : VD bad' w' x v := by
  cases hv <;> first | (cases hx; done) | (constructor; done)
theorem flatB_vd {x : DV} (hx : flatB x = true) {bad bad' : Nat → Prop} {w w' : World} {v : Value} (hv : VD bad w x v) : VD bad' w' x v := by
  cases hv with
  | agg c vs hl hval => exact .agg c vs hl fun j x v h1 h2 => flat1B_vd (List.all_eq_true.1 hx x (List.mem_of_getElem? h1)) (hval j x v h1 h2)
  | tup c vs hl hval => exact .tup c vs hl fun j x v h1 h2 => flat1B_vd (List.all_eq_true.1 hx x (List.mem_of_getElem? h1)) (hval j x v h1 h2)
  | _ => first | (cases hx; done) | (constructor; done)

/-- Arguments, own arrays among them, as pure values. -/
def lendL (h : List Box) : List AV → Option (List DV)
  | [] => some []
  | .d x :: l => match lendL h l with
    | some r => some (x :: r)
    | none => none
  | .own b _ :: l => match at? h b with
    | some (.arr _ _ m) => match lendL h l with
      | some r => some (.sl m :: r)
      | none => none
    | _ => none
  | _ :: _ => none
/-- All references to own arrays are of the first generation. -/
def gen0B : List AV → Bool
  | [] => true
  | .own _ g :: l => match Nat.beq g 0 with
    | true => gen0B l
    | false => false
  | _ :: l => gen0B l

theorem lend_vld {G : List (Nat × DV)} {c : Cx} (ho : HOk G c) (hf : Fresh c.heap) : ∀ {args : List AV} {ds : List DV} {vs : List Value}, lendL c.heap args = some ds → gen0B args = true → VL c args vs → VLD c.bar c.w ds vs
  | [], ds, vs, h, _, hv => by cases h; exact ⟨hv.1, fun j x v hx => by simp at hx⟩
  | x :: l, ds, vs, h, hg, hv => by
    cases vs with
    | nil => have := hv.1; simp at this
    | cons v vs =>
      obtain ⟨hv1, hv2⟩ := hv.head
      have fin : ∀ {d : DV} {r : List DV}, VD c.bar c.w d v → VLD c.bar c.w r vs → VLD c.bar c.w (d :: r) (v :: vs) := fun {d r} h1 h2 => ⟨by simp [h2.1], fun j x u hx hu => by
        cases j with
        | zero => simp at hx hu; subst hx; subst hu; exact h1
        | succ j => exact h2.2 j x u (by simpa using hx) (by simpa using hu)⟩
      have less : ∀ {d : DV} {u : Value}, VD c.bad c.w d u → VD c.bar c.w d u := fun hd => hd.mono fun b _ hn => ⟨fun hb => hn (.inl hb), rfl⟩
      cases x with
      | d x =>
        simp only [lendL] at h
        cases hr : lendL c.heap l with
        | none => rw [hr] at h; cases h
        | some r =>
          rw [hr] at h
          cases h
          cases hv1 with
          | d _ _ hd => exact fin (less hd) (lend_vld ho hf hr hg hv2)
      | own b g =>
        simp only [lendL, at?_eq] at h
        simp only [gen0B] at hg
        split at hg
        case h_2 => cases hg
        rename_i q
        have q := Nat.eq_of_beq_eq_true q
        subst q
        split at h
        case h_2 => cases h
        rename_i g' ts m hb
        obtain rfl := hf b g' ts m hb
        cases hr : lendL c.heap l with
        | none => rw [hr] at h; cases h
        | some r =>
          rw [hr] at h
          cases h
          refine fin ?_ (lend_vld ho hf hr hg hv2)
          obtain ⟨q0, q1, q2⟩ := ho.box b _ hb
          rcases vr_own hb hv1 with ⟨blk, cap, r1, rfl⟩ | ⟨rfl, rfl, r1⟩
          · rcases q2 with ⟨q2, -⟩ | ⟨blk', cap', vs', q2, q3, q4, q5, q6, q7⟩
            · rw [r1] at q2; cases q2
            rw [r1] at q2; cases q2
            refine .sl m blk 0 cap ts.2 (fun i j => (vs'[i * ts.2 + j]?).getD undef) (fun _ hbd => ho.sep b blk cap r1 hbd) q0 q5 (fun i e he => q1 i e he) (fun i j e x he hx => ?_) (fun i j e x he hx => ?_) (fun i j e x he hx => ?_)
            · obtain ⟨v, p1, p2, p3⟩ := q7 i j e x he hx
              rw [p1, Option.getD_some]
              exact row_of_block q3 _ v (by simpa using p1)
            · obtain ⟨v, p1, p2, p3⟩ := q7 i j e x he hx
              simp only [p1, Option.getD_some]
              exact less p3
            · obtain ⟨v, p1, p2, p3⟩ := q7 i j e x he hx
              simp only [p1, Option.getD_some]
              exact p2
          · exact .slnil
      | _ => cases h

/-- A contract over pure values, with own arrays lent. -/
theorem PCalls.lend {E : Env} {f : FuncId} {ds : List DV} {h : List Box} {args : List AV} {R : DV → Prop} (H : PCalls E f ds R) (hfr : freshB h = true) (hd : lendL h args = some ds) (hg : gen0B args = true) (hr : ∀ r, R r → flatB r = true) : ACalls E f h args (fun a b => ∃ r, R r ∧ a = .d r ∧ b = h) := by
  unfold PCalls at H
  unfold ACalls
  refine ⟨H.1, freshB_spec hfr, fun c vs h1 h2 h3 => ?_⟩
  subst h1
  have hgl : GlobOK E.G c.bar c.w := fun g e hge => by
    have hp : ∀ p, VR c (.eptr e 0) p → VR ⟨fun _ => none, [], c.bar, c.w⟩ (.eptr e 0) p := fun p hp => by
      cases hp with
      | eptr _ _ blk o' fv k1 k2 k3 k4 => exact .eptr _ _ blk o' fv (fun hb => k1 (.inl (bad_none.1 hb))) k2 k3 (fun j x hx => vd_none ((k4 j x hx).mono fun b _ hn => ⟨fun hb => hn (.inl hb), rfl⟩))
    exact hp _ (h2.glob g e hge)
  refine (H.2 c.bar c.w vs h2.barlt hgl (lend_vld h2 (freshB_spec hfr) hd hg h3)).mono fun e w' ⟨v, r, k1, k2, k3, k4⟩ => ?_
  obtain ⟨q1, q2⟩ := h2.grow k4
  exact ⟨c.inW w', .d r, v, k1, rfl, ⟨r, k2, rfl, rfl⟩, .d _ _ (flatB_vd (hr r k2) k3), q1, (Rel.refl c (freshB_spec hfr)).step q2⟩

theorem callS_lend {E : Env} {f : FuncId} {h0 : List Box} {args : List AV} {ds : List DV} {r : DV} {K : AV → List Box → Prop} (H : PCalls E f ds (· = r)) (hd : lendL h0 args = some ds) (hr : flatB r = true) (hg : gen0B args = true) (hfr : freshB h0 = true) (hk : K (.d r) h0) : callS E f h0 args K :=
  callS_any (H.lend hfr hd hg (fun _ e => e ▸ hr)) fun a b ⟨r', e1, e2, e3⟩ => by subst e1; subst e2; subst e3; exact hk
end Go.Eng
