/- Insertion sort, by a number: in plain Lean. No conditions. -/
import Derived.Test.YtebielkakdhelaaGreatDoorZP11
set_option linter.unusedVariables false
set_option linter.unusedSimpArgs false
namespace Go.Proofs.YtebielkakdhelaaGreatDoor.P
open Go Go.Eng

section
variable {α : Type} (f : α → Int)

/-- Where an element comes to stand that is moved down from a place. -/
def placeAt (x : α) (p : List α) : Nat → Nat
  | 0 => 0
  | j + 1 => match p[j]? with
    | some q => if f q > f x then placeAt x p j else j + 1
    | none => j + 1
/-- The list while an element is moved down. -/
def movedL (x : α) (p : List α) (j : Nat) : List α := p.take j ++ x :: p.drop j
def insAt (p : List α) (x : α) : List α := movedL x p (placeAt f x p p.length)
def sortL (l : List α) : List α := l.foldl (insAt f) []
end

section
variable {α : Type} {f : α → Int} {x : α} {p : List α}

theorem movedL_len (x : α) (p : List α) (j : Nat) : (movedL x p j).length = p.length + 1 := by
  simp only [movedL, List.length_append, List.length_cons, List.length_take, List.length_drop]; omega
theorem movedL_at {j : Nat} (h : j ≤ p.length) (r : List α) : (movedL x p j ++ r)[j]? = some x := by
  rw [List.getElem?_append_left (by rw [movedL_len]; omega), movedL, List.getElem?_append_right (by simp; omega)]
  simp [Nat.min_eq_left h]
theorem movedL_prev {j : Nat} (h0 : 0 < j) (h : j ≤ p.length) (r : List α) : (movedL x p j ++ r)[j - 1]? = p[j - 1]? := by
  rw [List.getElem?_append_left (by rw [movedL_len]; omega), movedL, List.getElem?_append_left (by simp; omega), List.getElem?_take]
  simp [show j - 1 < j by omega]
theorem movedL_end (x : α) (p : List α) : movedL x p p.length = p ++ [x] := by simp [movedL]
theorem movedL_get {j i : Nat} (h : j ≤ p.length) : (movedL x p j)[i]? = if i < j then p[i]? else if i = j then some x else p[i - 1]? := by
  unfold movedL
  by_cases h1 : i < j
  · rw [if_pos h1, List.getElem?_append_left (by simp; omega), List.getElem?_take, if_pos h1]
  · rw [if_neg h1, List.getElem?_append_right (by simp; omega), List.length_take, Nat.min_eq_left h]
    by_cases h2 : i = j
    · rw [if_pos h2, h2, Nat.sub_self]; rfl
    · rw [if_neg h2]
      obtain ⟨d, hd⟩ : ∃ d, i - j = d + 1 := ⟨i - j - 1, by omega⟩
      rw [hd, List.getElem?_cons_succ, List.getElem?_drop]
      congr 1
      omega
theorem movedL_swap {j : Nat} {q : α} (h0 : 0 < j) (h : j ≤ p.length) (hq : p[j - 1]? = some q) (r : List α) : ((movedL x p j ++ r).set j q).set (j - 1) x = movedL x p (j - 1) ++ r := by
  have hl : j < (movedL x p j).length := by rw [movedL_len]; omega
  rw [List.set_append_left _ _ hl, List.set_append_left _ _ (by simp; rw [movedL_len]; omega)]
  congr 1
  apply List.ext_getElem?
  intro i
  rw [movedL_get (by omega)]
  by_cases h1 : i = j - 1
  · subst h1
    rw [List.getElem?_set_self (by simp; rw [movedL_len]; omega), if_neg (by omega), if_pos rfl]
  · rw [List.getElem?_set_ne (Ne.symm h1)]
    by_cases h2 : i = j
    · subst h2
      rw [List.getElem?_set_self hl, if_neg (by omega), if_neg (by omega), hq]
    · rw [List.getElem?_set_ne (Ne.symm h2), movedL_get h]
      by_cases h3 : i < j - 1
      · rw [if_pos (by omega), if_pos h3]
      · rw [if_neg (by omega), if_neg h2, if_neg h3, if_neg h1]
theorem placeAt_le (f : α → Int) (x : α) (p : List α) : ∀ j, placeAt f x p j ≤ j
  | 0 => Nat.le_refl _
  | j + 1 => by
    unfold placeAt
    split
    · split
      · have := placeAt_le f x p j; omega
      · exact Nat.le_refl _
    · exact Nat.le_refl _
theorem placeAt_yes {j : Nat} {q : α} (h0 : 0 < j) (hq : p[j - 1]? = some q) (hg : f q > f x) : placeAt f x p j = placeAt f x p (j - 1) := by
  obtain ⟨k, rfl⟩ : ∃ k, j = k + 1 := ⟨j - 1, by omega⟩
  rw [Nat.add_sub_cancel] at hq ⊢
  rw [placeAt, hq]
  simp [hg]
theorem placeAt_no {j : Nat} {q : α} (h0 : 0 < j) (hq : p[j - 1]? = some q) (hg : ¬ f q > f x) : placeAt f x p j = j := by
  obtain ⟨k, rfl⟩ : ∃ k, j = k + 1 := ⟨j - 1, by omega⟩
  rw [Nat.add_sub_cancel] at hq
  rw [placeAt, hq]
  simp [hg]
theorem placeAt_zero : placeAt f x p 0 = 0 := rfl
theorem placeAt_end {j : Nat} (hj : placeAt f x p j = placeAt f x p p.length) (hs : placeAt f x p j = j) : movedL x p j = insAt f p x := by
  rw [insAt, ← hj, hs]

theorem insAt_perm (f : α → Int) (p : List α) (x : α) : (insAt f p x).Perm (x :: p) := by
  unfold insAt movedL
  refine List.perm_middle.trans (List.Perm.cons x ?_)
  rw [List.take_append_drop]
theorem placeAt_spec (f : α → Int) (x : α) (p : List α) : ∀ j, j ≤ p.length → (∀ i q, placeAt f x p j ≤ i → i < j → p[i]? = some q → f q > f x) ∧ (0 < placeAt f x p j → ∀ q, p[placeAt f x p j - 1]? = some q → f q ≤ f x)
  | 0, _ => ⟨fun i q _ h => by omega, fun h => by simp [placeAt] at h⟩
  | j + 1, hj => by
    obtain ⟨q, hq⟩ : ∃ q, p[j]? = some q := ⟨p[j], by simp [show j < p.length by omega]⟩
    by_cases hg : f q > f x
    · have e : placeAt f x p (j + 1) = placeAt f x p j := by rw [placeAt, hq]; simp [hg]
      rw [e]
      obtain ⟨h1, h2⟩ := placeAt_spec f x p j (by omega)
      refine ⟨fun i r hi hlt hr => ?_, h2⟩
      by_cases hij : i = j
      · subst hij; rw [hq] at hr; cases hr; exact hg
      · exact h1 i r hi (by omega) hr
    · have e : placeAt f x p (j + 1) = j + 1 := by rw [placeAt, hq]; simp [hg]
      rw [e]
      refine ⟨fun i r hi hlt => by omega, fun _ r hr => ?_⟩
      rw [Nat.add_sub_cancel, hq] at hr
      cases hr
      omega
theorem insAt_sorted (f : α → Int) {p : List α} (x : α) (h : p.Pairwise (fun a b => f a ≤ f b)) : (insAt f p x).Pairwise (fun a b => f a ≤ f b) := by
  obtain ⟨h1, h2⟩ := placeAt_spec f x p p.length (Nat.le_refl _)
  have hle := placeAt_le f x p p.length
  unfold insAt movedL
  generalize placeAt f x p p.length = j at *
  have hsplit := h
  rw [← List.take_append_drop j p, List.pairwise_append] at hsplit
  obtain ⟨s1, s2, s3⟩ := hsplit
  refine List.pairwise_append.2 ⟨s1, List.pairwise_cons.2 ⟨fun b hb => ?_, s2⟩, fun a ha b hb => ?_⟩
  · obtain ⟨i, hi, rfl⟩ := List.getElem_of_mem hb
    have := h1 (j + i) (p.drop j)[i] (by omega) (by simp at hi; omega) (by simp [List.getElem_drop])
    omega
  · rcases List.mem_cons.1 hb with rfl | hb
    · -- everything before the place is at most the last of it
      have hj : 0 < j := by
        rcases Nat.eq_zero_or_pos j with h | h
        · subst h; simp at ha
        · exact h
      obtain ⟨q, hq⟩ : ∃ q, p[j - 1]? = some q := ⟨p[j - 1]'(by omega), by simp [show j - 1 < p.length by omega]⟩
      have hqx := h2 hj q hq
      obtain ⟨i, hi, rfl⟩ := List.getElem_of_mem ha
      simp only [List.length_take] at hi
      rw [List.getElem_take]
      by_cases hij : i = j - 1
      · have : p[i]'(by omega) = q := by
          have := hq
          rw [← hij] at this
          simpa [show i < p.length by omega] using this
        rw [this]; exact hqx
      · have := List.pairwise_iff_getElem.1 h i (j - 1) (by omega) (by omega) (by omega)
        have e : p[j - 1]'(by omega) = q := by simpa [show j - 1 < p.length by omega] using hq
        rw [e] at this
        omega
    · exact s3 a ha b hb

theorem sortL_next {l : List α} {k : Nat} {x : α} (h : l[k]? = some x) : sortL f (l.take (k + 1)) = insAt f (sortL f (l.take k)) x := by
  rw [List.take_add_one, h, sortL, sortL, Option.toList_some, List.foldl_append]
  rfl
theorem sort_gen (f : α → Int) : ∀ (l p : List α), p.Pairwise (fun a b => f a ≤ f b) → (l.foldl (insAt f) p).Perm (p ++ l) ∧ (l.foldl (insAt f) p).Pairwise (fun a b => f a ≤ f b)
  | [], p, h => by simpa using h
  | x :: l, p, h => by
    obtain ⟨h1, h2⟩ := sort_gen f l (insAt f p x) (insAt_sorted f x h)
    refine ⟨h1.trans ?_, h2⟩
    refine ((insAt_perm f p x).append_right l).trans ?_
    exact (List.perm_middle (l₁ := p) (l₂ := l) (a := x)).symm
theorem sortL_perm (f : α → Int) (l : List α) : (sortL f l).Perm l := by simpa [sortL] using (sort_gen f l [] List.Pairwise.nil).1
theorem sortL_sorted (f : α → Int) (l : List α) : (sortL f l).Pairwise (fun a b => f a ≤ f b) := (sort_gen f l [] List.Pairwise.nil).2
theorem sortL_len (f : α → Int) (l : List α) : (sortL f l).length = l.length := (sortL_perm f l).length_eq

end

end Go.Proofs.YtebielkakdhelaaGreatDoor.P
