/- The engine, part 13: states forgotten in part, loops, nil slices taken as own arrays, own arrays laid to rest. No conditions. -/
import Derived.Test.YtklkmdoakhkikaaDoorEng12
namespace Go.Eng
open Go Go.RowKit

/-- Of a cell: what is known before, and what is still to be known. -/
def sub1K (h h' : List Box) (x y : AV) (K : Prop) : Prop :=
  match y with
  | .any => K
  | .d b => match x with
    | .d a => a = b ∧ K
    | _ => False
  | .own b' g' => match x with
    | .own b g => match Nat.beq b b' with
      | true => getK h b False fun
        | .arr g0 _ _ => getK h' b False fun
          | .arr g1 _ _ => match Nat.beq g g0, Nat.beq g' g1 with
            | true, true => K
            | _, _ => False
          | _ => False
        | _ => False
      | false => False
    | _ => False
  | .ptr b' off' => match x with
    | .ptr b off => match Nat.beq b b', Nat.beq off off' with
      | true, true => getK h b False fun
        | .cells _ => getK h' b False fun
          | .cells _ => K
          | _ => False
        | _ => False
      | _, _ => False
    | _ => False
  | .eptr e' off' => match x with
    | .eptr e off => match Nat.beq off off' with
      | true => e = e' ∧ K
      | false => False
    | _ => False
  | .map b' => match x with
    | .map b => match Nat.beq b b' with
      | true => getK h b False fun
        | .map _ => getK h' b False fun
          | .map _ => K
          | _ => False
        | _ => False
      | false => False
    | _ => False
  | _ => False

def subs1K (h h' : List Box) : List AV → List AV → Prop → Prop
  | [], [], K => K
  | x :: l, y :: l', K => sub1K h h' x y (subs1K h h' l l' K)
  | _, _, _ => False

/-- Of a slot. -/
def sub2K (h h' : List Box) (x y : AV) (K : Prop) : Prop :=
  match y with
  | .agg l' => match x with
    | .agg l => subs1K h h' l l' K
    | _ => False
  | .tup l' => match x with
    | .tup l => subs1K h h' l l' K
    | _ => False
  | .fn f' a' b' => match x with
    | .fn f a b => f = f' ∧ subs1K h h' a a' (subs1K h h' b b' K)
    | _ => False
  | y => sub1K h h' x y K

def subsK (h h' : List Box) : List AV → List AV → Prop → Prop
  | [], [], K => K
  | x :: l, y :: l', K => sub2K h h' x y (subsK h h' l l' K)
  | _, _, _ => False

/-- Generations may be renamed, but not to that of the start. -/
def gensB (g g' : Nat) : Bool := match Nat.beq g' 0 with
  | true => Nat.beq g 0
  | false => true
theorem gensB_spec {g g' : Nat} (h : gensB g g' = true) : g' = 0 → g = 0 := fun e => by
  subst e
  exact Nat.eq_of_beq_eq_true h

/-- Of a box. -/
def subBK (h h' : List Box) (x y : Box) (K : Prop) : Prop :=
  match y with
  | .gone => K
  | .cells l' => match x with
    | .cells l => subs1K h h' l l' K
    | _ => False
  | .arr g' ts' l' => match x with
    | .arr g ts l => match gensB g g' with
      | true => ts = ts' ∧ l = l' ∧ K
      | false => False
    | _ => False
  | .map es' => match x with
    | .map es => es = es' ∧ K
    | _ => False

def subHK (h h' : List Box) : List Box → List Box → Prop → Prop
  | _, [], K => K
  | x :: l, y :: l', K => subBK h h' x y (subHK h h' l l' K)
  | _, _, _ => False

/-- The boxes that are still known. -/
def cutOwn (own : Nat → Option (Nat × Nat)) (h' : List Box) (i : Nat) : Option (Nat × Nat) := match h'[i]? with
  | none => none
  | some .gone => none
  | some _ => own i
def Cx.cut (c : Cx) (h' : List Box) : Cx := { c with own := cutOwn c.own h', heap := h' }

def BSub (x y : Box) : Prop := match y with
  | .gone => True
  | .cells l' => ∃ l, x = .cells l ∧ l.length = l'.length
  | .arr g' ts' l' => ∃ g, x = .arr g ts' l' ∧ (g' = 0 → g = 0)
  | .map es' => x = .map es'
def HSub (h h' : List Box) : Prop := ∀ (i : Nat) (y : Box), h'[i]? = some y → ∃ x, h[i]? = some x ∧ BSub x y

theorem cut_own {c : Cx} {h' : List Box} {i : Nat} {y : Box} (hy : h'[i]? = some y) (hg : y ≠ .gone) : (c.cut h').own i = c.own i := by
  simp only [Cx.cut, cutOwn, hy]
theorem cut_own_le {c : Cx} {h' : List Box} {i : Nat} {p : Nat × Nat} (hi : (c.cut h').own i = some p) : c.own i = some p ∧ ∃ y, h'[i]? = some y ∧ y ≠ .gone := by
  simp only [Cx.cut, cutOwn] at hi
  split at hi
  · cases hi
  · cases hi
  · rename_i y hne hy; exact ⟨hi, y, hy, fun e => hne (by rw [← e])⟩
theorem cut_vd {c : Cx} {h' : List Box} {x : DV} {v : Value} (hv : VD c.bad c.w x v) : VD (c.cut h').bad (c.cut h').w x v :=
  hv.mono fun _ _ hn => ⟨fun hb => hn (hb.elim .inl fun ⟨i, n, hi⟩ => .inr ⟨i, n, (cut_own_le hi).1⟩), rfl⟩

theorem sub1K_sound {h h' : List Box} {x y : AV} {K : Prop} (H : sub1K h h' x y K) (hs : HSub h h') : K ∧ ∀ (c : Cx) (v : Value), c.heap = h → VR c x v → VR (c.cut h') y v := by
  unfold sub1K at H
  split at H
  · exact ⟨H, fun c v _ _ => .any v⟩
  · split at H
    · obtain ⟨rfl, H⟩ := H
      exact ⟨H, fun c v _ hv => by cases hv with | d _ _ hv => exact .d _ _ (cut_vd hv)⟩
    · exact H.elim
  · rename_i b' g'
    split at H
    · rename_i b g
      split at H
      · rename_i q
        have := Nat.eq_of_beq_eq_true q
        subst this
        rcases getK_or H with H1 | ⟨bx, hb, H1⟩
        · exact H1.elim
        clear H
        split at H1
        · rename_i g0 ts l
          rcases getK_or H1 with H2 | ⟨by', hb', H2⟩
          · exact H2.elim
          clear H1
          split at H2
          · rename_i g1 ts' l'
            split at H2
            · rename_i q1 q2
              have q1 := Nat.eq_of_beq_eq_true q1
              have q2 := Nat.eq_of_beq_eq_true q2
              subst q1; subst q2
              refine ⟨H2, fun c v hc hv => ?_⟩
              obtain ⟨x0, k1, gx, k2, -⟩ := hs b _ hb'
              rw [hb] at k1
              cases k1
              cases k2
              subst hc
              have ho := cut_own (c := c) hb' (by simp)
              rcases vr_own hb hv with ⟨blk, cap, r1, rfl⟩ | ⟨rfl, rfl, r1⟩
              · exact .own b _ _ _ blk cap hb' (ho.trans r1)
              · exact .ownnil b _ _ hb' (ho.trans r1)
            · exact H2.elim
          · exact H2.elim
        · exact H1.elim
      · exact H.elim
    · exact H.elim
  · split at H
    · split at H
      · rename_i q1 q2
        have q1 := Nat.eq_of_beq_eq_true q1
        have q2 := Nat.eq_of_beq_eq_true q2
        subst q1; subst q2
        rcases getK_or H with H | ⟨bx, hb, H⟩
        · exact H.elim
        split at H
        · rcases getK_or H with H | ⟨by', hb', H⟩
          · exact H.elim
          split at H
          · refine ⟨H, fun c v hc hv => ?_⟩
            subst hc
            have ho := cut_own (c := c) hb' (by simp)
            cases hv with
            | ptr _ _ cs blk cap k1 k2 => exact .ptr _ _ _ blk cap hb' (ho.trans k2)
            | ptrgone _ _ _ k1 _ => rw [hb] at k1; cases k1
          · exact H.elim
        · exact H.elim
      · exact H.elim
    · exact H.elim
  · split at H
    · split at H
      · rename_i q
        have := Nat.eq_of_beq_eq_true q
        subst this
        obtain ⟨rfl, H⟩ := H
        refine ⟨H, fun c v hc hv => ?_⟩
        cases hv with
        | eptr _ _ blk o f k1 k2 k3 k4 => exact .eptr _ _ blk o f (fun hb => k1 (hb.elim .inl fun ⟨i, n, hi⟩ => .inr ⟨i, n, (cut_own_le hi).1⟩)) k2 k3 (fun j x hx => cut_vd (k4 j x hx))
      · exact H.elim
    · exact H.elim
  · split at H
    · split at H
      · rename_i q1
        have q1 := Nat.eq_of_beq_eq_true q1
        subst q1
        rcases getK_or H with H | ⟨bx, hb, H⟩
        · exact H.elim
        split at H
        · rcases getK_or H with H | ⟨by', hb', H⟩
          · exact H.elim
          split at H
          · refine ⟨H, fun c v hc hv => ?_⟩
            subst hc
            have ho := cut_own (c := c) hb' (by simp)
            cases hv with
            | map _ es blk cap k1 k2 => exact .map _ _ blk cap hb' (ho.trans k2)
            | mapgone _ _ k1 _ => rw [hb] at k1; cases k1
          · exact H.elim
        · exact H.elim
      · exact H.elim
    · exact H.elim
  · exact H.elim

theorem subs1K_sound {h h' : List Box} {K : Prop} (hs : HSub h h') : ∀ {l l' : List AV}, subs1K h h' l l' K → K ∧ l.length = l'.length ∧ ∀ (c : Cx) (vs : List Value), c.heap = h → VL c l vs → VL (c.cut h') l' vs
  | [], [], H => ⟨H, rfl, fun c vs _ hv => ⟨hv.1, fun j x v hx => by simp at hx⟩⟩
  | x :: l, y :: l', H => by
    simp only [subs1K] at H
    obtain ⟨H, h1⟩ := sub1K_sound H hs
    obtain ⟨H, h2, h3⟩ := subs1K_sound hs H
    refine ⟨H, by simp [h2], fun c vs hc hv => ?_⟩
    cases vs with
    | nil => have := hv.1; simp at this
    | cons v vs => exact .cons (h1 c v hc hv.head.1) (h3 c vs hc hv.head.2)
  | [], _ :: _, H => H.elim
  | _ :: _, [], H => H.elim

theorem sub2K_sound {h h' : List Box} {x y : AV} {K : Prop} (H : sub2K h h' x y K) (hs : HSub h h') : K ∧ ∀ (c : Cx) (v : Value), c.heap = h → VR c x v → VR (c.cut h') y v := by
  unfold sub2K at H
  split at H
  · split at H
    · obtain ⟨H, -, h1⟩ := subs1K_sound hs H
      refine ⟨H, fun c v hc hv => ?_⟩
      obtain ⟨vs, rfl, hvl⟩ := vr_agg_inv hv
      exact vr_agg (h1 c vs hc hvl)
    · exact H.elim
  · split at H
    · obtain ⟨H, -, h1⟩ := subs1K_sound hs H
      refine ⟨H, fun c v hc hv => ?_⟩
      cases hv with
      | tup _ vs hl hval =>
        have := h1 c vs.toList hc ⟨by simpa using hl, fun j x v hx hv => hval j x v hx (by simpa using hv)⟩
        exact .tup _ vs (by simpa using this.1) (fun j x v hx hv => this.2 j x v hx (by simpa using hv))
    · exact H.elim
  · split at H
    · obtain ⟨rfl, H⟩ := H
      obtain ⟨H, -, h1⟩ := subs1K_sound hs H
      obtain ⟨H, -, h2⟩ := subs1K_sound hs H
      refine ⟨H, fun c v hc hv => ?_⟩
      obtain ⟨v1, v2, rfl, r1, r2⟩ := vr_fn hv
      have r1 := h1 c v1 hc r1
      have r2 := h2 c v2 hc r2
      exact .fn _ _ _ _ _ (by simpa using r1.1) (by simpa using r2.1) (fun j x v hx hv => r1.2 j x v hx (by simpa using hv)) (fun j x v hx hv => r2.2 j x v hx (by simpa using hv))
    · exact H.elim
  · exact sub1K_sound H hs

theorem subsK_sound {h h' : List Box} {K : Prop} (hs : HSub h h') : ∀ {l l' : List AV}, subsK h h' l l' K → K ∧ ∀ (c : Cx) (vs : List Value), c.heap = h → VL c l vs → VL (c.cut h') l' vs
  | [], [], H => ⟨H, fun c vs _ hv => ⟨hv.1, fun j x v hx => by simp at hx⟩⟩
  | x :: l, y :: l', H => by
    simp only [subsK] at H
    obtain ⟨H, h1⟩ := sub2K_sound H hs
    obtain ⟨H, h3⟩ := subsK_sound hs H
    refine ⟨H, fun c vs hc hv => ?_⟩
    cases vs with
    | nil => have := hv.1; simp at this
    | cons v vs => exact .cons (h1 c v hc hv.head.1) (h3 c vs hc hv.head.2)
  | [], _ :: _, H => H.elim
  | _ :: _, [], H => H.elim

/-- Lengths first: the check on boxes gives HSub. -/
theorem len_of_subs1 {h h' : List Box} {K : Prop} : ∀ {l l' : List AV}, subs1K h h' l l' K → l.length = l'.length ∧ K
  | [], [], H => ⟨rfl, H⟩
  | x :: l, y :: l', H => by
    have hK : ∀ {Q : Prop}, sub1K h h' x y Q → Q := fun {Q} H => by
      unfold sub1K at H
      repeat' split at H
      all_goals first
        | exact H
        | exact H.elim
        | exact H.2
        | (rcases getK_or H with H | ⟨_, _, H⟩
           · exact H.elim
           split at H
           · rcases getK_or H with H | ⟨_, _, H⟩
             · exact H.elim
             repeat' split at H
             all_goals first | exact H | exact H.elim
           all_goals exact H.elim)
    simp only [subs1K] at H
    obtain ⟨h1, h2⟩ := len_of_subs1 (hK H)
    exact ⟨by simp [h1], h2⟩
  | [], _ :: _, H => H.elim
  | _ :: _, [], H => H.elim

theorem subHK_hsub {h h' : List Box} {K : Prop} : ∀ {l l' : List Box}, subHK h h' l l' K → HSub l l' ∧ K
  | [], [], H => ⟨fun i y hy => by simp at hy, H⟩
  | _ :: _, [], H => ⟨fun i y hy => by simp at hy, H⟩
  | x :: l, y :: l', H => by
    simp only [subHK] at H
    have key : BSub x y ∧ subHK h h' l l' K := by
      unfold subBK at H
      split at H
      · exact ⟨trivial, H⟩
      · split at H
        · obtain ⟨h1, h2⟩ := len_of_subs1 H; exact ⟨⟨_, rfl, h1⟩, h2⟩
        · exact H.elim
      · split at H
        · split at H
          · rename_i q; obtain ⟨rfl, rfl, H⟩ := H; exact ⟨⟨_, rfl, gensB_spec q⟩, H⟩
          · exact H.elim
        · exact H.elim
      · split at H
        · obtain ⟨rfl, H⟩ := H; exact ⟨rfl, H⟩
        · exact H.elim
    obtain ⟨h1, h2⟩ := subHK_hsub key.2
    refine ⟨fun i z hz => ?_, h2⟩
    cases i with
    | zero => simp at hz; subst hz; exact ⟨x, rfl, key.1⟩
    | succ i => obtain ⟨w, k1, k2⟩ := h1 i z (by simpa using hz); exact ⟨w, by simpa using k1, k2⟩
  | [], _ :: _, H => H.elim

theorem subHK_cells {h h' : List Box} {K : Prop} (hs : HSub h h') : ∀ {l l' : List Box}, subHK h h' l l' K → ∀ (i : Nat) (cs : List AV), l'[i]? = some (.cells cs) → ∃ cs0, l[i]? = some (.cells cs0) ∧ ∀ (c : Cx) (vs : List Value), c.heap = h → VL c cs0 vs → VL (c.cut h') cs vs
  | _, [], H => fun i y hy => by simp at hy
  | x :: l, y :: l', H => by
    simp only [subHK] at H
    intro i cs hi
    cases i with
    | zero =>
      simp at hi
      subst hi
      simp only [subBK] at H
      split at H
      · obtain ⟨-, -, h3⟩ := subs1K_sound hs H
        exact ⟨_, rfl, h3⟩
      · exact H.elim
    | succ i =>
      have hrest : subHK h h' l l' K := by
        unfold subBK at H
        split at H
        · exact H
        · split at H
          · exact (len_of_subs1 H).2
          · exact H.elim
        · split at H
          · split at H
            · exact H.2.2
            · exact H.elim
          · exact H.elim
        · split at H
          · exact H.2
          · exact H.elim
      obtain ⟨cs0, k1, k2⟩ := subHK_cells hs hrest i cs (by simpa using hi)
      exact ⟨cs0, by simpa using k1, k2⟩
  | [], _ :: _, H => H.elim

theorem HOk.cut {G : List (Nat × DV)} {c : Cx} (ho : HOk G c) {h' : List Box} (hs : HSub c.heap h') (hcells : ∀ (i : Nat) (cs : List AV), h'[i]? = some (.cells cs) → ∃ cs0, c.heap[i]? = some (.cells cs0) ∧ ∀ (vs : List Value), VL c cs0 vs → VL (c.cut h') cs vs) : HOk G (c.cut h') where
  barlt := ho.barlt
  ownlt := fun i b n hi => by
    obtain ⟨h1, y, h2, -⟩ := cut_own_le hi
    exact ⟨(ho.ownlt i b n h1).1, lt_of_getElem? h2⟩
  inj := fun i j b n m hi hj => ho.inj i j b n m (cut_own_le hi).1 (cut_own_le hj).1
  sep := fun i b n hi => ho.sep i b n (cut_own_le hi).1
  box := fun i bx hi => by
    have hi' : h'[i]? = some bx := hi
    obtain ⟨x, hx, hb⟩ := hs i bx hi'
    cases bx with
    | gone => show (c.cut h').own i = none; simp only [Cx.cut, cutOwn, hi']
    | cells cs =>
      obtain ⟨cs0, k1, k2⟩ := hcells i cs hi'
      obtain ⟨blk, cap, vs, ty, g1, g2, g3⟩ := ho.cells k1
      have := k2 vs.toList g3
      exact ⟨blk, cap, vs, ty, (cut_own hi' (by simp)).trans g1, g2, by simpa using this.1.symm, fun j x v hx hv => this.2 j x v hx (by simpa using hv)⟩
    | arr g ts l =>
      obtain ⟨g0, rfl, -⟩ := hb
      obtain ⟨q0, q1, q2⟩ := ho.box i _ hx
      refine ⟨q0, q1, ?_⟩
      have ho' := cut_own (c := c) hi' (by simp)
      rcases q2 with ⟨q2, q3⟩ | ⟨blk, cap, vs, q2, q3, q4, q5, q6, q7⟩
      · exact .inl ⟨ho'.trans q2, q3⟩
      · refine .inr ⟨blk, cap, vs, ho'.trans q2, q3, q4, q5, q6, fun i j e x he hx => ?_⟩
        obtain ⟨v, r1, r2, r3⟩ := q7 i j e x he hx
        exact ⟨v, r1, r2, cut_vd r3⟩
    | map es =>
      obtain rfl : x = .map es := hb
      obtain ⟨blk, cap, en, ck, k1, k2, k3, k4⟩ := ho.box i _ hx
      exact ⟨blk, cap, en, ck, (cut_own hi' (by simp)).trans k1, k2, k3, fun j k x m hx hm => ⟨cut_vd (k4 j k x m hx hm).1, cut_vd (k4 j k x m hx hm).2⟩⟩
  glob := fun g e hg => by
    have hp : ∀ p, VR c (.eptr e 0) p → VR (c.cut h') (.eptr e 0) p := fun p hp => by
      cases hp with
      | eptr _ _ blk o' fv k1 k2 k3 k4 => exact .eptr _ _ blk o' fv (fun hb => k1 (hb.elim .inl fun ⟨i, n, hi⟩ => .inr ⟨i, n, (cut_own_le hi).1⟩)) k2 k3 (fun j x hx => cut_vd (k4 j x hx))
    exact hp _ (ho.glob g e hg)

/-- The check, on boxes and slots. -/
def subAllK (n : Nat) (h : List Box) (s : List AV) (h' : List Box) (s' : List AV) : Prop := match Nat.ble n h'.length with
  | true => subHK h h' h h' (subsK h h' s s' True)
  | false => False

theorem Rel.cut {c0 c : Cx} (hr : Rel c0 c) {h' : List Box} (hn : c0.heap.length ≤ h'.length) (hs : HSub c.heap h') : Rel c0 (c.cut h') where
  bar := hr.bar
  os := hr.os
  tape := hr.tape
  output := hr.output
  size := hr.size
  keep := hr.keep
  newown := fun i b n hi hb => hr.newown i b n (cut_own_le hi).1 hb
  boxes := fun i bx hi => by
    have hlt : i < h'.length := Nat.lt_of_lt_of_le (lt_of_getElem? hi) hn
    obtain ⟨y, hy⟩ : ∃ y, h'[i]? = some y := ⟨h'[i], by simp [hlt]⟩
    obtain ⟨x, hx, hb⟩ := hs i y hy
    have hy' : (c.cut h').heap[i]? = some y := hy
    have h1 := hr.boxes i bx hi
    have hgone : y = .gone → RelBox c0 (c.cut h') i bx := fun e => by
      subst e
      cases bx with
      | cells cs => exact .inr hy'
      | arr g sz l => exact .inr hy'
      | map es => exact .inr hy'
      | gone => exact hy'
    cases y with
    | gone => exact hgone rfl
    | cells cs' =>
      obtain ⟨cs1, rfl, hl⟩ := hb
      have ho := cut_own (c := c) hy (by simp)
      cases bx with
      | cells cs =>
        rcases h1 with ⟨cs2, h1, h2, h3⟩ | h1
        · rw [hx] at h1; cases h1
          exact .inl ⟨cs', hy', ho.trans h2, by omega⟩
        · rw [hx] at h1; cases h1
      | arr g sz l =>
        rcases h1 with ⟨_, _, h1, _⟩ | h1 <;> (rw [hx] at h1; cases h1)
      | map es => rcases h1 with ⟨_, h1, _⟩ | h1 <;> (rw [hx] at h1; cases h1)
      | gone => have h1 : c.heap[i]? = some .gone := h1; rw [hx] at h1; cases h1
    | arr g' ts' l' =>
      obtain ⟨g1, rfl, hl⟩ := hb
      have ho := cut_own (c := c) hy (by simp)
      cases bx with
      | cells cs => rcases h1 with ⟨_, h1, _⟩ | h1 <;> (rw [hx] at h1; cases h1)
      | arr g sz l =>
        rcases h1 with ⟨g2, l2, h1, h2⟩ | h1
        · rw [hx] at h1; cases h1
          refine .inl ⟨g', l', hy', ?_⟩
          by_cases hz : g' = 0
          · have := hl hz
            rcases h2 with h2 | ⟨h2, h3, h4⟩
            · omega
            · exact .inr ⟨hz, h3, ho.trans h4⟩
          · left; omega
        · rw [hx] at h1; cases h1
      | map es => rcases h1 with ⟨_, h1, _⟩ | h1 <;> (rw [hx] at h1; cases h1)
      | gone => have h1 : c.heap[i]? = some .gone := h1; rw [hx] at h1; cases h1
    | map es' =>
      obtain rfl : x = .map es' := hb
      have ho := cut_own (c := c) hy (by simp)
      cases bx with
      | cells cs => rcases h1 with ⟨_, h1, _⟩ | h1 <;> (rw [hx] at h1; cases h1)
      | arr g sz l => rcases h1 with ⟨_, _, h1, _⟩ | h1 <;> (rw [hx] at h1; cases h1)
      | map es =>
        rcases h1 with ⟨es2, h1, h2⟩ | h1
        · rw [hx] at h1; cases h1
          exact .inl ⟨es', hy', ho.trans h2⟩
        · rw [hx] at h1; cases h1
      | gone => have h1 : c.heap[i]? = some .gone := h1; rw [hx] at h1; cases h1

section
variable {E : Env} {fid : FuncId} {R : Post} {td : List AItem} {s s' : List AV} {h h' : List Box}

theorem AW.weaken (hs : subAllK R.n h s h' s') (H : AW E fid ⟨fid, td, s'⟩ [] h' R) : AW E fid ⟨fid, td, s⟩ [] h R := by
  unfold AW at H ⊢
  intro c0 c t ts h0 h1 h2 h3 hr h4 h5 cs
  subst h2
  unfold subAllK at hs
  split at hs
  case h_2 => exact hs.elim
  rename_i q
  have hn := Nat.le_of_ble_eq_true q
  obtain ⟨k1, k2⟩ := subHK_hsub hs
  have k3 := subHK_cells k1 hs
  obtain ⟨-, k4⟩ := subsK_sound k1 k2
  have hv := k4 c t.toList rfl ⟨by simpa using h4.1, fun j x v hx hv => h4.2 j x v hx (by simpa using hv)⟩
  have hok := h3.cut k1 (fun i cs hi => by obtain ⟨cs0, r1, r2⟩ := k3 i cs hi; exact ⟨cs0, r1, fun vs hv => r2 c vs rfl hv⟩)
  have hts : concs [] ts = [] := by cases ts <;> rfl
  have := H c0 (c.cut h') t [] h0 h1 rfl hok (hr.cut (by omega) k1) ⟨by simpa using hv.1, fun j x v hx hu => hv.2 j x v hx (by simpa using hu)⟩ trivial cs
  rw [hts]
  exact this

def anyS : List Nat → List AV → List AV
  | [], s => s
  | d :: l, s => anyS l (s.set d .any)
def varS : List (Nat × AV) → List AV → List AV
  | [], s => s
  | (d, v) :: l, s => varS l (s.set d v)
def varH : List (Nat × Box) → List Box → List Box
  | [], h => h
  | (d, v) :: l, h => varH l (h.set d v)

def anyK {α : Sort _} : List Nat → List AV → (List AV → α) → α
  | [], s, k => k s
  | d :: l, s, k => setK s d .any fun s' => anyK l s' k
theorem anyK_eq {α : Sort _} : ∀ (l : List Nat) (s : List AV) (k : List AV → α), anyK l s k = k (anyS l s)
  | [], _, _ => rfl
  | d :: l, s, k => by simp only [anyK, setK_eq, anyS, anyK_eq l]
def varsK {α : Sort _} {β : Type} : List (Nat × β) → List β → (List β → α) → α
  | [], s, k => k s
  | (d, v) :: l, s, k => setK s d v fun s' => varsK l s' k
theorem varsK_eq {α : Sort _} : ∀ (l : List (Nat × AV)) (s : List AV) (k : List AV → α), varsK l s k = k (varS l s)
  | [], _, _ => rfl
  | (d, v) :: l, s, k => by simp only [varsK, setK_eq, varS, varsK_eq l]
theorem varsK_eqH {α : Sort _} : ∀ (l : List (Nat × Box)) (s : List Box) (k : List Box → α), varsK l s k = k (varH l s)
  | [], _, _ => rfl
  | (d, v) :: l, s, k => by simp only [varsK, setK_eq, varH, varsK_eqH l]

/-- Does a value refer to one of these boxes? -/
def ref1B (ks : List Nat) : AV → Bool
  | .own j _ => memB j ks
  | .aptr j _ _ _ => memB j ks
  | _ => false
def refB (ks : List Nat) : AV → Bool
  | .agg l => l.any (ref1B ks)
  | .tup l => l.any (ref1B ks)
  | .fn _ a b => a.any (ref1B ks) || b.any (ref1B ks)
  | x => ref1B ks x
def dropS (ks : List Nat) : List AV → List AV
  | [] => []
  | x :: s => (match refB ks x with | true => .any | false => x) :: dropS ks s
def dropRK {α : Sort _} (ks : List Nat) : List AV → (List AV → α) → α
  | [], k => k []
  | x :: s, k => match refB ks x with
    | true => dropRK ks s fun s' => k (.any :: s')
    | false => dropRK ks s fun s' => k (x :: s')
theorem dropRK_eq {α : Sort _} (ks : List Nat) : ∀ (s : List AV) (k : List AV → α), dropRK ks s k = k (dropS ks s)
  | [], _ => rfl
  | x :: s, k => by
    simp only [dropRK, dropS]
    split <;> rename_i q <;> rw [dropRK_eq ks s] <;> simp only [q]
def keysOf : List (Nat × Box) → List Nat
  | [] => []
  | p :: l => p.1 :: keysOf l

/-- The state at the head of a loop. -/
def stK {α : Sort _} (mods ks : List Nat) (vars : List (Nat × AV)) (boxes : List (Nat × Box)) (s : List AV) (h : List Box) (k : List AV → List Box → α) : α :=
  dropRK ks s fun s0 => anyK mods s0 fun s1 => varsK vars s1 fun s2 => varsK boxes h fun h2 => k s2 h2
theorem stK_eq {α : Sort _} (mods ks : List Nat) (vars : List (Nat × AV)) (boxes : List (Nat × Box)) (s : List AV) (h : List Box) (k : List AV → List Box → α) : stK mods ks vars boxes s h k = k (varS vars (anyS mods (dropS ks s))) (varH boxes h) := by
  simp only [stK, dropRK_eq, anyK_eq, varsK_eq, varsK_eqH]

/-- A loop: what changes is told by 'vars' and 'boxes'. -/
theorem AWL.loop {lits : List Nat} {b : Code} {k : List AItem} {κ : Type} (mods : List Nat) (vars : κ → List (Nat × AV)) (boxes : κ → List (Nat × Box)) (Φ : κ → Prop) (μ : κ → Nat) (x0 : κ) (h0 : Φ x0)
    (hsub : stK mods (keysOf (boxes x0)) (vars x0) (boxes x0) s h fun s' h' => subAllK R.n h s h' s')
    (hround : ∀ x, Φ x → (∀ y, Φ y → μ y < μ x → AWL E fid R [] (.inLoop b :: k) (varS (vars y) (anyS mods (dropS (keysOf (boxes x0)) s))) (varH (boxes y) h)) → AWL E fid R [] (.code b :: .inLoop b :: k) (varS (vars x) (anyS mods (dropS (keysOf (boxes x0)) s))) (varH (boxes x) h)) :
    AWL E fid R lits (.code (.loop b) :: k) s h := by
  have main : ∀ n x, μ x < n → Φ x → AWL E fid R [] (.inLoop b :: k) (varS (vars x) (anyS mods (dropS (keysOf (boxes x0)) s))) (varH (boxes x) h) := by
    intro n
    induction n with
    | zero => intro x hx; omega
    | succ n ih => intro x hx hP; exact .of (.inLoop (hround x hP fun y hy hm => ih y (by omega) hy).to)
  rw [stK_eq] at hsub
  exact .of (.loop (.weaken hsub (hround x0 h0 fun y hy _ => main (μ y + 1) y (by omega) hy).to))

/-- A run from the head of a loop. -/
theorem AWL.head (hE : E.OK) {fn : Func} (hf : E.P.funcs[fid]? = some fn) (n : Nat) {lits mods ks : List Nat} {vars : List (Nat × AV)} {boxes : List (Nat × Box)} {s0 : List AV} {h0 : List Box}
    (H : stK mods ks vars boxes s0 h0 fun s' h' => runK E fid fn.results.toList R n lits td s' h') : AWL E fid R lits td (varS vars (anyS mods (dropS ks s0))) (varH boxes h0) := by
  rw [stK_eq] at H
  exact .run hE hf n H

/-- Back to the head of a loop. -/
theorem AWL.back {lits lits' mods ks : List Nat} {vars : List (Nat × AV)} {boxes : List (Nat × Box)} {s0 : List AV} {h0 : List Box} (H : AWL E fid R lits td (varS vars (anyS mods (dropS ks s0))) (varH boxes h0))
    (hs : stK mods ks vars boxes s0 h0 fun s' h' => subAllK R.n h s h' s') : AWL E fid R lits' td s h := by
  rw [stK_eq] at hs
  exact .of (.weaken hs H.to)

/-- A nil slice is an own array without elements. -/
theorem AWL.adopt {lits : List Nat} (d : Nat) (ts : Nat × Nat) (hts : 0 < ts.2) (hd : s[d]? = some (.d .nilsl)) (H : AWL E fid R lits td (s.set d (.own h.length 0)) (h ++ [.arr 0 ts []])) : AWL E fid R lits td s h := by
  replace H := H.to
  refine .of (.of_leads (fun c t ts' h1 h2 h3 h4 h5 => ?_) H)
  subst h2
  let c' : Cx := { c with heap := c.heap ++ [.arr 0 ts []] }
  have hno : c.own c.heap.length = none := by
    cases ho : c.own c.heap.length with
    | none => rfl
    | some p => have := (h3.ownlt _ p.1 p.2 ho).2; omega
  have hst : Step c c' := ⟨rfl, h3.barlt, rfl, rfl, rfl, Nat.le_refl _, fun _ _ _ => rfl, fun i b n hi _ => ⟨i, n, hi⟩, fun i bx hi => by
    have h' : c'.heap[i]? = some bx := by show (c.heap ++ _)[i]? = _; rw [List.getElem?_append_left (lt_of_getElem? hi)]; exact hi
    cases bx with
    | cells cs => exact .inl ⟨cs, h', rfl, rfl⟩
    | arr g sz l => exact .inl ⟨g, l, h', .inr ⟨rfl, rfl, rfl⟩⟩
    | map es => exact .inl ⟨es, h', rfl⟩
    | gone => exact h'⟩
  have hnew : c'.heap[c.heap.length]? = some (.arr 0 ts []) := by show (c.heap ++ _)[_]? = _; simp
  have hok : HOk E.G c' := h3.next hst (fun i b n hi => ⟨(h3.ownlt i b n hi).1, by have := (h3.ownlt i b n hi).2; show i < (c.heap ++ _).length; simp; omega⟩) h3.inj (fun i bx hi => by
    by_cases hil : i = c.heap.length
    · subst hil
      rw [hnew] at hi
      cases hi
      exact .inr ⟨hts, fun i e he => by simp at he, .inl ⟨hno, rfl⟩⟩
    · have hlt : i < c.heap.length := by have := lt_of_getElem? hi; have h2 : c'.heap.length = c.heap.length + 1 := by show (c.heap ++ _).length = _; simp
                                         omega
      have hi' : (c.heap ++ [.arr 0 ts []])[i]? = some bx := hi
      rw [List.getElem?_append_left hlt] at hi'
      exact .inl ⟨hi', rfl, fun _ _ _ => rfl⟩)
  refine ⟨c', t, ts', h1, rfl, hok, ?_, hst.cr h5, hst, fun _ => .refl _ _⟩
  have hdt : d < t.size := by rw [← h4.1]; exact lt_of_getElem? hd
  have hv : t[d] = .slice none 0 0 := by
    have := h4.2 d _ t[d] hd (by simp [hdt])
    generalize t[d] = u at this
    cases this with
    | d _ _ hv => cases hv; rfl
  have := VS.put (hst.vs h4) d (x := .own c.heap.length 0) (v := t[d]) (by rw [hv]; exact .ownnil _ _ ts hnew hno)
  simpa [Array.setIfInBounds, hdt] using this

end
end Go.Eng
