/- Plain facts on names: what stands between the dots of a text; labels; names; which name is under which. Nothing of the program. -/
import Derived.Test.YtklkmdoakhkikaaDoorBase
namespace Go.Proofs.YtklkmdoakhkikaaDoor.Nm

/-- What stands between the dots of a text. -/
def split : List UInt8 → List (List UInt8)
  | [] => [[]]
  | c :: r => if c = 46 then [] :: split r else match split r with
    | [] => [[c]]
    | h :: t => (c :: h) :: t

theorem split_ne (l : List UInt8) : split l ≠ [] := by
  cases l with
  | nil => simp [split]
  | cons c r => simp only [split]; split <;> (try split) <;> simp

theorem split_cons (c : UInt8) (r : List UInt8) (h : c ≠ 46) : ∃ x t, split r = x :: t ∧ split (c :: r) = (c :: x) :: t := by
  have := split_ne r
  match hr : split r, this with
  | x :: t, _ => exact ⟨x, t, rfl, by simp [split, h, hr]⟩

theorem split_dot (a b : List UInt8) : split (a ++ 46 :: b) = split a ++ split b := by
  induction a with
  | nil => simp [split]
  | cons c r ih =>
    by_cases h : c = 46
    · subst h; simp [split, ih]
    · obtain ⟨x, t, h1, h2⟩ := split_cons c r h
      obtain ⟨y, u, h3, h4⟩ := split_cons c (r ++ 46 :: b) h
      rw [List.cons_append, h4, h2]
      rw [ih, h1] at h3
      simp only [List.cons_append, List.cons.injEq] at h3
      obtain ⟨rfl, rfl⟩ := h3
      rfl

theorem split_nodot (l : List UInt8) (h : 46 ∉ l) : split l = [l] := by
  induction l with
  | nil => rfl
  | cons c r ih =>
    simp only [List.mem_cons, not_or] at h
    have hc : c ≠ 46 := fun e => h.1 e.symm
    simp [split, hc, ih h.2]

theorem split_snoc_dot (l : List UInt8) : split (l ++ [46]) = split l ++ [[]] := split_dot l []

theorem split_snoc (l : List UInt8) (c : UInt8) (h : c ≠ 46) : ∃ i x, split l = i ++ [x] ∧ split (l ++ [c]) = i ++ [x ++ [c]] := by
  induction l with
  | nil => exact ⟨[], [], rfl, by simp [split, h]⟩
  | cons d r ih =>
    obtain ⟨i, x, h1, h2⟩ := ih
    by_cases hd : d = 46
    · subst hd
      exact ⟨[] :: i, x, by simp [split, h1], by simp [split, h2]⟩
    · obtain ⟨y, u, h3, h4⟩ := split_cons d r hd
      obtain ⟨z, v, h5, h6⟩ := split_cons d (r ++ [c]) hd
      rw [h1] at h3
      rw [h2] at h5
      rw [List.cons_append, h6, h4]
      cases i with
      | nil =>
        simp only [List.nil_append, List.cons.injEq] at h3 h5
        obtain ⟨rfl, rfl⟩ := h3
        obtain ⟨rfl, rfl⟩ := h5
        exact ⟨[], d :: x, rfl, rfl⟩
      | cons p q =>
        simp only [List.cons_append, List.cons.injEq] at h3 h5
        obtain ⟨rfl, rfl⟩ := h3
        obtain ⟨rfl, rfl⟩ := h5
        exact ⟨(d :: p) :: q, x, rfl, rfl⟩

/-- No part has a dot. -/
theorem split_parts (l : List UInt8) : ∀ x ∈ split l, 46 ∉ x := by
  induction l with
  | nil => simp [split]
  | cons c r ih =>
    by_cases hc : c = 46
    · subst hc; simp only [split, if_true]
      intro x hx
      rcases List.mem_cons.1 hx with rfl | h
      · simp
      · exact ih x h
    · obtain ⟨y, u, h1, h2⟩ := split_cons c r hc
      rw [h2]
      intro x hx
      rcases List.mem_cons.1 hx with rfl | h
      · simp only [List.mem_cons, not_or]; exact ⟨fun e => hc e.symm, ih y (by rw [h1]; simp)⟩
      · exact ih x (by rw [h1]; simp [h])

/-- Parts, glued. -/
def glue : List (List UInt8) → List UInt8
  | [] => []
  | [x] => x
  | x :: y :: t => x ++ 46 :: glue (y :: t)

theorem glue_split (l : List UInt8) : glue (split l) = l := by
  induction l with
  | nil => rfl
  | cons c r ih =>
    by_cases hc : c = 46
    · subst hc
      simp only [split, if_true]
      have := split_ne r
      match hr : split r, this with
      | x :: t, _ => rw [hr] at ih; simp [glue, ih]
    · obtain ⟨y, u, h1, h2⟩ := split_cons c r hc
      rw [h2]
      rw [h1] at ih
      cases u with
      | nil => simp only [glue] at ih ⊢; rw [ih]
      | cons z v => simp only [glue, List.cons_append] at ih ⊢; rw [ih]

theorem split_glue (ls : List (List UInt8)) (hne : ls ≠ []) (h : ∀ x ∈ ls, 46 ∉ x) : split (glue ls) = ls := by
  induction ls with
  | nil => exact absurd rfl hne
  | cons x t ih =>
    cases t with
    | nil => exact split_nodot x (h x (by simp))
    | cons y u =>
      simp only [glue]
      rw [split_dot, split_nodot x (h x (by simp)), ih (by simp) (fun z hz => h z (by simp [hz]))]
      rfl

theorem split_inj (a b : List UInt8) (h : split a = split b) : a = b := by rw [← glue_split a, ← glue_split b, h]

/-- A letter or a digit. -/
def alnum (c : UInt8) : Bool := (decide (97 ≤ c.toNat) && decide (c.toNat ≤ 122)) || (decide (48 ≤ c.toNat) && decide (c.toNat ≤ 57))
/-- What a label may have at a place. -/
def labelAt (l : List UInt8) (i : Nat) : Bool := match l[i]? with
  | some c => alnum c || (c == 45 && decide (0 < i) && decide (i + 1 < l.length))
  | none => true
/-- A label. -/
def label (l : List UInt8) : Bool := decide (1 ≤ l.length ∧ l.length ≤ 12 ∧ ∀ i, i < l.length → labelAt l i = true)
/-- The parts of a name. -/
def parts (ls : List (List UInt8)) : Bool := decide (ls.length ≤ 8) && (match ls with
  | [] => true
  | x :: t => (label x || x == [42]) && t.all label)
/-- A name. -/
def valid (l : List UInt8) : Bool := decide (l = [46]) || (decide (l.length ≤ 60) && parts (split l))
/-- The labels of a name. -/
def labels (l : List UInt8) : List (List UInt8) := if l = [46] then [] else split l
/-- A name is another one, or below it. -/
def under (s z : List UInt8) : Bool := decide (labels z <:+ labels s)
/-- A wildcard. -/
def wild (l : List UInt8) : Bool := match l with
  | c :: _ => c == 42
  | [] => false

end Go.Proofs.YtklkmdoakhkikaaDoor.Nm
