/- Own sets of a valid zone: the program's are the reference implementation's. Plain Lean, no conditions. -/
import Derived.Test.YtebielkakdhelaaGreatDoorZP21
set_option linter.unusedVariables false
set_option linter.unusedSimpArgs false
namespace Go.Proofs.YtebielkakdhelaaGreatDoor.P
open Go Go.Eng

def ownS (C : List Text) (cut n : Text) : Text := if C.contains n then n else if cut != [] && !Nm.under n cut then [] else cut
def ownL (C : List Text) : Text → List Text → List Text
  | _, [] => []
  | cut, n :: ns => ownS C cut n :: ownL C (ownS C cut n) ns
theorem ownL_len (C : List Text) : ∀ (k : Text) (ns : List Text), (ownL C k ns).length = ns.length
  | _, [] => rfl
  | k, n :: ns => by simp [ownL, ownL_len C _ ns]
/-- The cuts that the sets of a zone are behind, as package sign finds them. -/
def ownCuts (z : Zone) : List Text := ownL (cutsL z.apex z.sets) [] (z.sets.map (·.set.name))
theorem ownCuts_len (z : Zone) : (ownCuts z).length = z.sets.length := by simp [ownCuts, ownL_len]

/-- The same as lay_beh, with what the values are. -/
theorem lay_all {C H : List Text} (hA : Asc H) (hP : Apart H) (hHC : ∀ d ∈ H, d ∈ C) (hCH : ∀ c ∈ C, ∃ d ∈ H, Nm.under c d = true) (hne : ∀ c ∈ C, c ≠ []) :
    ∀ (rest done : List Text) (cut : Text) (k : Nat), Asc (done ++ rest) → (∀ c ∈ C, c ∈ done ++ rest) → k ≤ H.length → (match done.getLast? with | none => cut = [] | some p => IsF H p cut) → (∀ m d, m < k → H[m]? = some d → ∃ p, done.getLast? = some p ∧ ordN d p ≤ 0) → ∀ (i : Nat) (n r : Text), rest[i]? = some n → (behL H k rest)[i]? = some r → IsF H n r
  | [], _, _, _, _, _, _, _, _ => fun i n r h => by simp at h
  | n :: rest, done, cut, k, hasc, hall, hk, hcut, hlow => by
    have hpn : ∀ p, done.getLast? = some p → ordN p n ≤ 0 := fun p hp => by
      have hl : 0 < done.length := by cases done with | nil => simp at hp | cons => simp
      rw [List.getLast?_eq_getElem?] at hp
      exact hasc (done.length - 1) done.length p n (by omega) (by rw [List.getElem?_append_left (by omega)]; exact hp) (by simp)
    have hbefore : ∀ d ∈ H, ordN d n < 0 → ∃ p, done.getLast? = some p ∧ ordN d p ≤ 0 := fun d hd hdn => by
      have := hall d (hHC d hd)
      obtain ⟨i, hi⟩ := List.getElem?_of_mem this
      have hnn : (done ++ n :: rest)[done.length]? = some n := by simp
      have hlt : i < done.length := by
        rcases Nat.lt_trichotomy i done.length with h | h | h
        · exact h
        · subst h; rw [hnn] at hi; cases hi; rw [ordN_self] at hdn; omega
        · have h1 := hasc done.length i n d h hnn hi
          have h2 := ordN_neg d n
          omega
      rw [List.getElem?_append_left hlt] at hi
      obtain ⟨p, hp⟩ := some_of_lt (l := done) (k := done.length - 1) (by omega)
      refine ⟨p, by rw [List.getLast?_eq_getElem?]; exact hp, ?_⟩
      rcases Nat.lt_or_ge i (done.length - 1) with h | h
      · exact hasc i (done.length - 1) d p h (by rw [List.getElem?_append_left hlt]; exact hi) (by rw [List.getElem?_append_left (by omega)]; exact hp)
      · obtain rfl : i = done.length - 1 := by omega
        rw [hp] at hi; cases hi
        rw [ordN_self]; omega
    obtain ⟨f2, f3⟩ := beh_isF hA hP (n := n) hk (fun m d hm hd => by
      obtain ⟨p, hp, hdp⟩ := hlow m d hm hd
      exact ordN_le_trans hdp (hpn p hp))
    have ih := lay_all hA hP hHC hCH hne rest (done ++ [n]) (behAt H n (adv H n k)) (adv H n k) (by simpa using hasc) (by simpa using hall) (adv_le hk) (by simpa using f2) (fun m d hm hd => ⟨n, by simp, f3 m d hm hd⟩)
    intro i m r hm hr
    cases i with
    | zero =>
      simp at hm
      subst hm
      simp only [behL, List.getElem?_cons_zero, Option.some.injEq] at hr
      subst hr
      exact f2
    | succ i => exact ih i m r (by simpa using hm) (by simpa [behL] using hr)


/-- Own sets: what the program finds. -/
theorem own_beh {C H : List Text} (hA : Asc H) (hP : Apart H) (hHC : ∀ d ∈ H, d ∈ C) (hCH : ∀ c ∈ C, ∃ d ∈ H, Nm.under c d = true) (hne : ∀ c ∈ C, c ≠ []) (hin : ∀ c ∈ C, c ∈ H) :
    ∀ (rest done : List Text) (cut : Text) (k : Nat), Asc (done ++ rest) → (∀ c ∈ C, c ∈ done ++ rest) → k ≤ H.length → (match done.getLast? with | none => cut = [] | some p => IsF H p cut) → (∀ m d, m < k → H[m]? = some d → ∃ p, done.getLast? = some p ∧ ordN d p ≤ 0) → ownL C cut rest = behL H k rest
  | [], _, _, _, _, _, _, _, _ => rfl
  | n :: rest, done, cut, k, hasc, hall, hk, hcut, hlow => by
    have hpn : ∀ p, done.getLast? = some p → ordN p n ≤ 0 := fun p hp => by
      have hl : 0 < done.length := by cases done with | nil => simp at hp | cons => simp
      rw [List.getLast?_eq_getElem?] at hp
      exact hasc (done.length - 1) done.length p n (by omega) (by rw [List.getElem?_append_left (by omega)]; exact hp) (by simp)
    have hbefore : ∀ d ∈ H, ordN d n < 0 → ∃ p, done.getLast? = some p ∧ ordN d p ≤ 0 := fun d hd hdn => by
      have := hall d (hHC d hd)
      obtain ⟨i, hi⟩ := List.getElem?_of_mem this
      have hnn : (done ++ n :: rest)[done.length]? = some n := by simp
      have hlt : i < done.length := by
        rcases Nat.lt_trichotomy i done.length with h | h | h
        · exact h
        · subst h; rw [hnn] at hi; cases hi; rw [ordN_self] at hdn; omega
        · have h1 := hasc done.length i n d h hnn hi
          have h2 := ordN_neg d n
          omega
      rw [List.getElem?_append_left hlt] at hi
      obtain ⟨p, hp⟩ := some_of_lt (l := done) (k := done.length - 1) (by omega)
      refine ⟨p, by rw [List.getLast?_eq_getElem?]; exact hp, ?_⟩
      rcases Nat.lt_or_ge i (done.length - 1) with h | h
      · exact hasc i (done.length - 1) d p h (by rw [List.getElem?_append_left hlt]; exact hi) (by rw [List.getElem?_append_left (by omega)]; exact hp)
      · obtain rfl : i = done.length - 1 := by omega
        rw [hp] at hi; cases hi
        rw [ordN_self]; omega
    have f1 := lay_isF hA hP hHC hCH hne hcut hbefore hpn
    obtain ⟨f2, f3⟩ := beh_isF hA hP (n := n) hk (fun m d hm hd => by
      obtain ⟨p, hp, hdp⟩ := hlow m d hm hd
      exact ordN_le_trans hdp (hpn p hp))
    have e := f1.unique hA hP f2
    have e0 : ownS C cut n = layS C cut n := by
      cases hcn : C.contains n
      · simp only [ownS, layS, hcn, Bool.false_eq_true, if_false, Bool.and_false]
      · have hn : n ∈ C := by simpa using hcn
        have : layS C cut n = n := f1.unique hA hP (.inl ⟨hin n hn, under_self n⟩)
        rw [this]
        simp [ownS, hn]
    simp only [ownL, behL, e0, e]
    congr 1
    have ih := own_beh hA hP hHC hCH hne hin rest (done ++ [n]) (behAt H n (adv H n k)) (adv H n k) (by simpa using hasc) (by simpa using hall) (adv_le hk) (by simpa using f2) (fun m d hm hd => ⟨n, by simp, f3 m d hm hd⟩)
    exact ih



theorem own_cuts {z : Zone} (hs : Sorted z.sets) (hne : ∀ s ∈ z.sets, s.set.name ≠ []) (h4 : fourB z = true) : ownCuts z = behindZ z := by
  have hA := cuts_asc (apex := z.apex) (sorted_asc hs)
  obtain ⟨h1, h2, h3⟩ := high_ok _ hA
  have hCne : ∀ c ∈ cutsL z.apex z.sets, c ≠ [] := fun c hc => by
    obtain ⟨s, h, rfl, -⟩ := cutsL_mem hc
    exact hne s h
  have hall : ∀ c ∈ cutsL z.apex z.sets, c ∈ ([] : List Text) ++ z.sets.map (·.set.name) := fun c hc => by
    obtain ⟨s, h, rfl, -⟩ := cutsL_mem hc
    simpa using ⟨s, h, rfl⟩
  have hval := lay_all h1 h2 highL_mem h3 hCne (z.sets.map (·.set.name)) [] [] 0 (by simpa using sorted_asc hs) hall (Nat.zero_le _) rfl (fun m d hm => by omega)
  refine own_beh h1 h2 highL_mem h3 hCne (fun c hc => ?_) (z.sets.map (·.set.name)) [] [] 0 (by simpa using sorted_asc hs) hall (Nat.zero_le _) rfl (fun m d hm => by omega)
  obtain ⟨s, hsm, rfl, hcut⟩ := cutsL_mem hc
  obtain ⟨i, hi⟩ := List.getElem?_of_mem hsm
  have hlt := lt_of_getElem? hi
  obtain ⟨b, hb⟩ := some_of_lt (l := behindZ z) (k := i) (by rw [behindZ_len]; exact hlt)
  have hF := hval i s.set.name b (by simp [hi]) hb
  obtain ⟨d, hd, hu⟩ := h3 _ hc
  rcases hF with ⟨g1, g2⟩ | ⟨-, g2⟩
  · have hz := List.all_eq_true.1 h4 (s, b) (List.mem_of_getElem? (zip_at hi hb))
    have hb0 : b ≠ [] := hCne b (highL_mem b g1)
    have ht : s.set.type = 2 := by
      simp only [isCut, Bool.and_eq_true, beq_iff_eq] at hcut
      exact hcut.1
    simp only [four1, Bool.and_eq_true] at hz
    have h5 := hz.1.1
    simp [hb0, ht] at h5
    rw [h5]
    exact g1
  · rw [g2 d hd] at hu; cases hu
/-- Own sets, as package sign finds them. -/
def ownP (z : Zone) : List Bool := (z.sets.zip (ownCuts z)).map fun p => own1 p.1 p.2
theorem ownP_eq {z : Zone} (h : zoneR z = true) : ownP z = ownZ z := by
  simp only [zoneR, Bool.and_eq_true] at h
  obtain ⟨h1, -, -, h4, -⟩ := h
  obtain ⟨hs, hv, hn⟩ := oneB_facts h1
  rw [ownP, ownZ, own_cuts hs (fun s hs => (hn s hs).1) h4]

end Go.Proofs.YtebielkakdhelaaGreatDoor.P
