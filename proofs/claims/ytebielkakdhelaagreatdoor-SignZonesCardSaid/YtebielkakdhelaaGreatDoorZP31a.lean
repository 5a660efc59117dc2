/- Small zones, and signed ones: lengths. Conditions: none. -/
import Derived.Test.YtebielkakdhelaaGreatDoorZP28a
set_option linter.unusedVariables false
set_option linter.unusedSimpArgs false
namespace Go.Proofs.YtebielkakdhelaaGreatDoor.P
open Go Go.Eng
set_option maxRecDepth 100000
set_option maxHeartbeats 4000000

theorem fewZ_each {z : Zone} (h : fewZ z = true) : z.sets.length ≤ 100 ∧ ∀ s ∈ z.sets, s.set.data.length ≤ 20 ∧ s.sigs.length ≤ 20 := by
  simp only [fewZ, Bool.and_eq_true, decide_eq_true_eq] at h
  obtain ⟨h1, h2⟩ := h
  rw [List.take_of_length_le (by omega)] at h1
  refine ⟨by omega, fun s hs => ?_⟩
  have := List.all_eq_true.1 h1 s hs
  simp [few1] at this
  omega
theorem fewZ_fits {z : Zone} (h : fewZ z = true) (ha : z.apex.length ≤ maxLen) (hn : ∀ s ∈ z.sets, s.set.name.length ≤ maxLen) (ht : ∀ s ∈ z.sets, ∀ d ∈ s.set.data, d.text.length ≤ maxLen) : z.Fits :=
  ⟨ha, fun s hs => ⟨hn s hs, by have := ((fewZ_each h).2 s hs).1; omega, ht s hs⟩⟩
theorem signZ_mem {z : Zone} {ord : List Key} {frm upto : Int} {s' : Signed} (h : s' ∈ (signZ z ord frm upto).sets) : ∃ s ∈ z.sets, s'.set = s.set ∧ s'.sigs.length ≤ ord.length := by
  obtain ⟨i, hi⟩ := List.getElem?_of_mem h
  have hl := lt_of_getElem? hi
  rw [signZ_len] at hl
  obtain ⟨s, hs⟩ := some_of_lt hl
  obtain ⟨o, ho⟩ := some_of_lt (l := ownZ z) (k := i) (by rw [ownZ_len]; exact hl)
  rw [signZ_at hs ho] at hi
  cases hi
  refine ⟨s, List.mem_of_getElem? hs, rfl, ?_⟩
  cases o <;> simp
theorem signZ_lens {z : Zone} (h : fewZ z = true) {ord : List Key} (ho : ord.length ≤ 10) (frm upto : Int) : (signZ z ord frm upto).Lens := by
  obtain ⟨h1, h2⟩ := fewZ_each h
  refine ⟨by rw [signZ_len]; omega, fun s' hs' => ?_⟩
  obtain ⟨s, hs, e1, e2⟩ := signZ_mem hs'
  have := h2 s hs
  exact ⟨by rw [e1]; omega, by omega⟩
end Go.Proofs.YtebielkakdhelaaGreatDoor.P
