/- Zones: what the program and the reference implementation find behind cuts is the same. Plain laws of lists; conditions as each says. -/
import Derived.Test.YtebielkakdhelaaGreatDoorZP19
set_option linter.unusedVariables false
set_option linter.unusedSimpArgs false
namespace Go.Proofs.YtebielkakdhelaaGreatDoor.P
open Go Go.Eng
set_option maxRecDepth 100000
set_option maxHeartbeats 4000000

theorem ordN_le_trans {a b c : Text} (h : ordN a b ≤ 0) (k : ordN b c ≤ 0) : ordN a c ≤ 0 := by
  rcases Int.lt_or_eq_of_le h with h | h
  · rcases Int.lt_or_eq_of_le k with k | k
    · exact Int.le_of_lt (ordN_trans h k)
    · rw [← ordN_zero k]; exact Int.le_of_lt h
  · rw [ordN_zero h]; exact k
theorem under_self (a : Text) : Nm.under a a = true := by simp [Nm.under]

/-- Texts in order, one after the other. -/
def Asc (l : List Text) : Prop := ∀ (i j : Nat) (x y : Text), i < j → l[i]? = some x → l[j]? = some y → ordN x y ≤ 0
/-- None is behind one before it. -/
def Apart (l : List Text) : Prop := ∀ (i j : Nat) (x y : Text), i < j → l[i]? = some x → l[j]? = some y → Nm.under y x = false

theorem Asc.snoc {l : List Text} {c : Text} (h : Asc (l ++ [c])) : Asc l ∧ ∀ x ∈ l, ordN x c ≤ 0 := by
  refine ⟨fun i j x y hij hx hy => h i j x y hij (by rw [List.getElem?_append_left (lt_of_getElem? hx)]; exact hx) (by rw [List.getElem?_append_left (lt_of_getElem? hy)]; exact hy), fun x hx => ?_⟩
  obtain ⟨i, hi⟩ := List.getElem?_of_mem hx
  have := lt_of_getElem? hi
  exact h i l.length x c this (by rw [List.getElem?_append_left this]; exact hi) (by simp)
theorem snoc_at {α : Type} {l : List α} {c x : α} {i : Nat} (h : (l ++ [c])[i]? = some x) : l[i]? = some x ∨ (i = l.length ∧ x = c) := by
  rcases Nat.lt_or_ge i l.length with hi | hi
  · rw [List.getElem?_append_left hi] at h; exact .inl h
  · rw [List.getElem?_append_right hi] at h
    have h0 : i - l.length = 0 := by
      have := lt_of_getElem? h
      simp at this
      omega
    rw [h0] at h
    simp at h
    exact .inr ⟨by omega, h.symm⟩

/-- The highest cuts: in order, apart, and each cut is behind one of them. -/
theorem high_ok : ∀ (C : List Text), Asc C → Asc (highL C) ∧ Apart (highL C) ∧ (∀ c ∈ C, ∃ d ∈ highL C, Nm.under c d = true) := by
  have main : ∀ (n : Nat) (C : List Text), C.length = n → Asc C → Asc (highL C) ∧ Apart (highL C) ∧ (∀ c ∈ C, ∃ d ∈ highL C, Nm.under c d = true) := by
    intro n
    induction n with
    | zero =>
      intro C hn _
      obtain rfl : C = [] := List.eq_nil_of_length_eq_zero hn
      exact ⟨fun i j x y _ h => by simp [highL] at h, fun i j x y _ h => by simp [highL] at h, fun c h => by simp at h⟩
    | succ n ih =>
      intro C hn hA
      rcases List.eq_nil_or_concat C with rfl | ⟨P, c, rfl⟩
      · simp at hn
      rw [List.concat_eq_append] at *
      obtain ⟨hA1, hA2⟩ := hA.snoc
      obtain ⟨i1, i2, i3⟩ := ih P (by simpa using hn) hA1
      have e : highL (P ++ [c]) = highStep (highL P) c := by rw [highL, List.foldl_append]; rfl
      have hle : ∀ d ∈ highL P, ordN d c ≤ 0 := fun d hd => hA2 d (highL_mem d hd)
      rw [e]
      generalize highL P = H at *
      rcases List.eq_nil_or_concat H with rfl | ⟨H0, d, rfl⟩
      · have e2 : highStep [] c = [c] := rfl
        rw [e2]
        refine ⟨fun i j x y hij hx hy => ?_, fun i j x y hij hx hy => ?_, fun x hx => ?_⟩
        · have := lt_of_getElem? hy; simp at this; omega
        · have := lt_of_getElem? hy; simp at this; omega
        · rcases List.mem_append.1 hx with hx | hx
          · obtain ⟨d, hd, -⟩ := i3 x hx
            simp at hd
          · simp at hx; subst hx; exact ⟨x, by simp, under_self x⟩
      · rw [List.concat_eq_append] at *
        have e2 : highStep (H0 ++ [d]) c = if Nm.under c d then H0 ++ [d] else H0 ++ [d] ++ [c] := by simp [highStep]
        rw [e2]
        cases hu : Nm.under c d
        · simp only [Bool.false_eq_true, if_false]
          refine ⟨fun i j x y hij hx hy => ?_, fun i j x y hij hx hy => ?_, fun x hx => ?_⟩
          · rcases snoc_at hy with hy' | ⟨rfl, rfl⟩
            · rcases snoc_at hx with hx | ⟨rfl, rfl⟩
              · exact i1 i j x y hij hx hy'
              · exact absurd (lt_of_getElem? hy') (by omega)
            · rcases snoc_at hx with hx | ⟨h, -⟩
              · exact hle x (List.mem_of_getElem? hx)
              · omega
          · rcases snoc_at hy with hy' | ⟨rfl, rfl⟩
            · rcases snoc_at hx with hx | ⟨rfl, rfl⟩
              · exact i2 i j x y hij hx hy'
              · exact absurd (lt_of_getElem? hy') (by omega)
            · rcases snoc_at hx with hx | ⟨h, -⟩
              · rcases snoc_at hx with hx0 | ⟨-, rfl⟩
                · rw [← Bool.not_eq_true]
                  intro hxu
                  have hd : (H0 ++ [d])[H0.length]? = some d := by simp
                  have hi0 := lt_of_getElem? hx0
                  have h1 := i1 i H0.length x d hi0 hx hd
                  have h2 := hle d (by simp)
                  have h3 := ordN_between h1 h2 hxu
                  rw [i2 i H0.length x d hi0 hx hd] at h3
                  cases h3
                · exact hu
              · omega
          · rcases List.mem_append.1 hx with hx | hx
            · obtain ⟨q, hq, hqu⟩ := i3 x hx
              exact ⟨q, List.mem_append_left _ hq, hqu⟩
            · simp at hx; subst hx; exact ⟨x, by simp, under_self x⟩
        · simp only [if_true]
          refine ⟨i1, i2, fun x hx => ?_⟩
          rcases List.mem_append.1 hx with hx | hx
          · exact i3 x hx
          · simp at hx; subst hx; exact ⟨d, by simp, hu⟩
  exact fun C => main C.length C rfl

/-- The highest cut that a name is behind; nothing if there is none. -/
def IsF (H : List Text) (n r : Text) : Prop := (r ∈ H ∧ Nm.under n r = true) ∨ (r = [] ∧ ∀ d ∈ H, Nm.under n d = false)
theorem only_one {H : List Text} (hA : Asc H) (hP : Apart H) {n d e : Text} (hd : d ∈ H) (he : e ∈ H) (h1 : Nm.under n d = true) (h2 : Nm.under n e = true) : d = e := by
  obtain ⟨i, hi⟩ := List.getElem?_of_mem hd
  obtain ⟨j, hj⟩ := List.getElem?_of_mem he
  rcases Nat.lt_trichotomy i j with h | h | h
  · have := ordN_between (hA i j d e h hi hj) (ordN_under h2) h1
    rw [hP i j d e h hi hj] at this
    cases this
  · subst h; rw [hi] at hj; exact Option.some.inj hj
  · have := ordN_between (hA j i e d h hj hi) (ordN_under h1) h2
    rw [hP j i e d h hj hi] at this
    cases this
theorem IsF.unique {H : List Text} (hA : Asc H) (hP : Apart H) {n r s : Text} (h1 : IsF H n r) (h2 : IsF H n s) : r = s := by
  rcases h1 with ⟨a1, a2⟩ | ⟨a1, a2⟩
  · rcases h2 with ⟨b1, b2⟩ | ⟨b1, b2⟩
    · exact only_one hA hP a1 b1 a2 b2
    · rw [b2 r a1] at a2; cases a2
  · rcases h2 with ⟨b1, b2⟩ | ⟨b1, b2⟩
    · rw [a2 s b1] at b2; cases b2
    · rw [a1, b1]

theorem takeWhile_ok {α : Type} (p : α → Bool) : ∀ (l : List α), ∀ x ∈ l.takeWhile p, p x = true
  | [], x, h => by simp at h
  | a :: l, x, h => by
    rw [List.takeWhile_cons] at h
    cases ha : p a
    · rw [ha] at h; simp at h
    · rw [ha] at h
      rcases List.mem_cons.1 h with rfl | h
      · exact ha
      · exact takeWhile_ok p l x h
theorem takeWhile_end {α : Type} (p : α → Bool) : ∀ (l : List α) (x : α), l[(l.takeWhile p).length]? = some x → p x = false
  | [], x, h => by simp at h
  | a :: l, x, h => by
    rw [List.takeWhile_cons] at h
    cases ha : p a
    · rw [ha] at h; simp at h; rw [← h]; exact ha
    · rw [ha] at h
      exact takeWhile_end p l x (by simpa using h)

theorem beh_isF {H : List Text} (hA : Asc H) (hP : Apart H) {n : Text} {k : Nat} (hk : k ≤ H.length) (hlow : ∀ m d, m < k → H[m]? = some d → ordN d n ≤ 0) :
    IsF H n (behAt H n (adv H n k)) ∧ (∀ m d, m < adv H n k → H[m]? = some d → ordN d n ≤ 0) := by
  have hal := adv_le (n := n) hk
  have low : ∀ m d, m < adv H n k → H[m]? = some d → ordN d n ≤ 0 := fun m d hm hd => by
    rcases Nat.lt_or_ge m k with h | h
    · exact hlow m d h hd
    · unfold adv at hm
      have h1 : (H.drop k)[m - k]? = some d := by rw [List.getElem?_drop, show k + (m - k) = m by omega]; exact hd
      have h2 := List.takeWhile_prefix (fun c => decide (ordN c n ≤ 0)) (l := H.drop k)
      have h3 : ((H.drop k).takeWhile fun c => decide (ordN c n ≤ 0))[m - k]? = some d := by
        obtain ⟨r, hr⟩ := h2
        rw [← hr, List.getElem?_append_left (by omega)] at h1
        exact h1
      simpa using takeWhile_ok _ _ d (List.mem_of_getElem? h3)
  have high : ∀ m d, adv H n k ≤ m → H[m]? = some d → Nm.under n d = false := fun m d hm hd => by
    rw [← Bool.not_eq_true]
    intro hu
    have h1 := ordN_under hu
    obtain ⟨e, he⟩ := some_of_lt (l := H) (k := adv H n k) (by have := lt_of_getElem? hd; omega)
    have h2 : ordN e n ≤ 0 := by
      rcases Nat.lt_or_ge (adv H n k) m with h | h
      · exact ordN_le_trans (hA _ m e d h he hd) h1
      · obtain rfl : m = adv H n k := by omega
        rw [he] at hd; cases hd; exact h1
    have h3 : (H.drop k)[((H.drop k).takeWhile fun c => decide (ordN c n ≤ 0)).length]? = some e := by
      rw [List.getElem?_drop]; exact he
    have h6 := takeWhile_end _ _ e h3
    simp at h6
    omega
  refine ⟨?_, low⟩
  generalize adv H n k = j at *
  unfold behAt
  by_cases hj : j = 0
  · rw [if_pos hj]
    refine .inr ⟨rfl, fun d hd => ?_⟩
    obtain ⟨m, hm⟩ := List.getElem?_of_mem hd
    exact high m d (by omega) hm
  · rw [if_neg hj]
    obtain ⟨c, hc⟩ := some_of_lt (l := H) (k := j - 1) (by omega)
    rw [hc]
    dsimp only
    cases hu : Nm.under n c
    · simp only [Bool.false_eq_true, if_false]
      refine .inr ⟨rfl, fun d hd => ?_⟩
      obtain ⟨m, hm⟩ := List.getElem?_of_mem hd
      rcases Nat.lt_or_ge m j with h | h
      · rcases Nat.lt_or_ge m (j - 1) with h' | h'
        · rw [← Bool.not_eq_true]
          intro hdu
          have := ordN_between (hA m (j - 1) d c h' hm hc) (low (j - 1) c (by omega) hc) hdu
          rw [hP m (j - 1) d c h' hm hc] at this
          cases this
        · obtain rfl : m = j - 1 := by omega
          rw [hc] at hm
          cases hm
          exact hu
      · exact high m d h hm
    · simp only [if_true]
      exact .inl ⟨List.mem_of_getElem? hc, hu⟩

theorem lay_isF {C H : List Text} (hA : Asc H) (hP : Apart H) (hHC : ∀ d ∈ H, d ∈ C) (hCH : ∀ c ∈ C, ∃ d ∈ H, Nm.under c d = true) (hne : ∀ c ∈ C, c ≠ []) {cut n : Text} {prev : Option Text}
    (hcut : match prev with | none => cut = [] | some p => IsF H p cut) (hbefore : ∀ d ∈ H, ordN d n < 0 → ∃ p, prev = some p ∧ ordN d p ≤ 0) (hpn : ∀ p, prev = some p → ordN p n ≤ 0) : IsF H n (layS C cut n) := by
  -- a highest cut before the name that it is behind is the cut
  have key : ∀ d ∈ H, Nm.under n d = true → d ≠ n → cut = d := fun d hd hu hdn => by
    have h1 := ordN_under hu
    have h2 : ordN d n < 0 := by
      rcases Int.lt_or_eq_of_le h1 with h | h
      · exact h
      · exact absurd (ordN_zero h) hdn
    obtain ⟨p, hp, hdp⟩ := hbefore d hd h2
    have h3 := ordN_between hdp (hpn p hp) hu
    rw [hp] at hcut
    exact hcut.unique hA hP (.inl ⟨hd, h3⟩)
  by_cases hc : cut ≠ [] ∧ Nm.under n cut = true
  · have e : layS C cut n = cut := by simp [layS, hc.1, hc.2]
    rw [e]
    refine .inl ⟨?_, hc.2⟩
    cases prev with
    | none => exact absurd hcut hc.1
    | some p =>
      rcases hcut with h | h
      · exact h.1
      · exact absurd h.1 hc.1
  · have no : ∀ d ∈ H, Nm.under n d = true → d = n := fun d hd hu => by
      apply Classical.byContradiction
      intro hdn
      have := key d hd hu hdn
      subst this
      exact hc ⟨hne _ (hHC _ hd), hu⟩
    have e0 : (if cut != [] && !Nm.under n cut then [] else cut) = [] := by
      by_cases h1 : cut = []
      · simp [h1]
      · have : Nm.under n cut = false := by
          rw [← Bool.not_eq_true]
          exact fun h => hc ⟨h1, h⟩
        simp [h1, this]
    have e : layS C cut n = if C.contains n then n else [] := by
      simp only [layS, e0]
      cases C.contains n <;> rfl
    rw [e]
    cases hcn : C.contains n
    · refine .inr ⟨by simp, fun d hd => ?_⟩
      rw [← Bool.not_eq_true]
      intro hu
      have := no d hd hu
      subst this
      have : C.contains d = true := by simpa using hHC d hd
      rw [hcn] at this
      cases this
    · simp only [if_true]
      have hn : n ∈ C := by simpa using hcn
      obtain ⟨d, hd, hu⟩ := hCH n hn
      have := no d hd hu
      subst this
      exact .inl ⟨hd, hu⟩

/-- What the program finds is what the reference implementation finds. -/
theorem lay_beh {C H : List Text} (hA : Asc H) (hP : Apart H) (hHC : ∀ d ∈ H, d ∈ C) (hCH : ∀ c ∈ C, ∃ d ∈ H, Nm.under c d = true) (hne : ∀ c ∈ C, c ≠ []) :
    ∀ (rest done : List Text) (cut : Text) (k : Nat), Asc (done ++ rest) → (∀ c ∈ C, c ∈ done ++ rest) → k ≤ H.length → (match done.getLast? with | none => cut = [] | some p => IsF H p cut) → (∀ m d, m < k → H[m]? = some d → ∃ p, done.getLast? = some p ∧ ordN d p ≤ 0) → layL C cut rest = behL H k rest
  | [], _, _, _, _, _, _, _, _ => rfl
  | n :: rest, done, cut, k, hasc, hall, hk, hcut, hlow => by
    have hpn : ∀ p, done.getLast? = some p → ordN p n ≤ 0 := fun p hp => by
      have hl : 0 < done.length := by cases done with | nil => simp at hp | cons => simp
      rw [List.getLast?_eq_getElem?] at hp
      exact hasc (done.length - 1) done.length p n (by omega) (by rw [List.getElem?_append_left (by omega)]; exact hp) (by simp)
    have hbefore : ∀ d ∈ H, ordN d n < 0 → ∃ p, done.getLast? = some p ∧ ordN d p ≤ 0 := fun d hd hdn => by
      have := hall d (hHC d hd)
      obtain ⟨i, hi⟩ := List.getElem?_of_mem this
      have hnn : (done ++ n :: rest)[done.length]? = some n := by simp
      have hlt : i < done.length := by
        rcases Nat.lt_trichotomy i done.length with h | h | h
        · exact h
        · subst h; rw [hnn] at hi; cases hi; rw [ordN_self] at hdn; omega
        · have h1 := hasc done.length i n d h hnn hi
          have h2 := ordN_neg d n
          omega
      rw [List.getElem?_append_left hlt] at hi
      obtain ⟨p, hp⟩ := some_of_lt (l := done) (k := done.length - 1) (by omega)
      refine ⟨p, by rw [List.getLast?_eq_getElem?]; exact hp, ?_⟩
      rcases Nat.lt_or_ge i (done.length - 1) with h | h
      · exact hasc i (done.length - 1) d p h (by rw [List.getElem?_append_left hlt]; exact hi) (by rw [List.getElem?_append_left (by omega)]; exact hp)
      · obtain rfl : i = done.length - 1 := by omega
        rw [hp] at hi; cases hi
        rw [ordN_self]; omega
    have f1 := lay_isF hA hP hHC hCH hne hcut hbefore hpn
    obtain ⟨f2, f3⟩ := beh_isF hA hP (n := n) hk (fun m d hm hd => by
      obtain ⟨p, hp, hdp⟩ := hlow m d hm hd
      exact ordN_le_trans hdp (hpn p hp))
    have e := f1.unique hA hP f2
    simp only [layL, behL, e]
    congr 1
    have ih := lay_beh hA hP hHC hCH hne rest (done ++ [n]) (behAt H n (adv H n k)) (adv H n k) (by simpa using hasc) (by simpa using hall) (adv_le hk) (by simpa using f2) (fun m d hm hd => ⟨n, by simp, f3 m d hm hd⟩)
    exact ih

end Go.Proofs.YtebielkakdhelaaGreatDoor.P
