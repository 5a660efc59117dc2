/- Plain facts on clocks: what a valid clock shows never goes back; its error grows or falls. -/
import Derived.Test.YtfgjeihchgfnnaaClk2
namespace Go.Proofs.Ytfgjeihchgfnnaa
open Go.RowKit

theorem Clk.vld_iff (off every : Int) : Clk.vld off every = true ↔ (-1000 ≤ off ∧ off ≤ 1000 ∧ (every = 0 ∨ (2 ≤ every ∧ every ≤ 10000000) ∨ (every ≤ -2 ∧ -10000000 ≤ every))) := by simp [Clk.vld]

theorem Clk.face_zero (off t : Int) : Clk.face off 0 t = t + off := by simp [Clk.face]
theorem Clk.face_pos (off every t : Int) (h : 2 ≤ every) (ht : 0 ≤ t) : Clk.face off every t = t + off + t / every := by
  unfold Clk.face; rw [if_neg (by omega), Int.tdiv_eq_ediv_of_nonneg ht]
theorem Clk.face_neg (off every t : Int) (h : every ≤ -2) (ht : 0 ≤ t) : Clk.face off every t = t + off - t / (-every) := by
  unfold Clk.face; rw [if_neg (by omega)]
  have h1 : t.tdiv every = -(t.tdiv (-every)) := by rw [Int.tdiv_neg, Int.neg_neg]
  rw [h1, Int.tdiv_eq_ediv_of_nonneg ht]; omega

theorem Clk.div_mono (a b k : Int) (hk : 2 ≤ k) (h : a ≤ b) : a / k ≤ b / k := Int.ediv_le_ediv (by omega) h
theorem Clk.div_slow (a b k : Int) (hk : 2 ≤ k) (h : a ≤ b) : b / k - a / k ≤ b - a := by
  have h1 : b / k ≤ (a + (b - a) * k) / k := Int.ediv_le_ediv (by omega) (by
    have : (b - a) * 1 ≤ (b - a) * k := Int.mul_le_mul_of_nonneg_left (by omega) (by omega)
    omega)
  rw [Int.add_mul_ediv_right _ _ (by omega)] at h1
  omega

/-- A clock never goes back. -/
theorem Clk.face_mono (off every a b : Int) (hv : Clk.vld off every = true) (ha : 0 ≤ a) (h : a ≤ b) : Clk.face off every a ≤ Clk.face off every b := by
  obtain ⟨_, _, h0 | ⟨h1, _⟩ | ⟨h2, _⟩⟩ := (Clk.vld_iff _ _).1 hv
  · subst h0; rw [Clk.face_zero, Clk.face_zero]; omega
  · rw [Clk.face_pos _ _ _ h1 ha, Clk.face_pos _ _ _ h1 (by omega)]
    have := Clk.div_mono a b every h1 h
    omega
  · rw [Clk.face_neg _ _ _ h2 ha, Clk.face_neg _ _ _ h2 (by omega)]
    have := Clk.div_slow a b (-every) (by omega) h
    omega

theorem Clk.ge_mono (off every shown : Int) (n : Nat) (hv : Clk.vld off every = true) : ∀ a b, a ≤ b → b < n → Clk.ge off every shown a = true → Clk.ge off every shown b = true := by
  intro a b hab _ h
  have := Clk.face_mono off every a b hv (by omega) (by omega)
  simp only [Clk.ge, decide_eq_true_eq] at *
  omega
theorem Clk.gt_mono (off every shown : Int) (n : Nat) (hv : Clk.vld off every = true) : ∀ a b, a ≤ b → b < n → Clk.gt off every shown a = true → Clk.gt off every shown b = true := by
  intro a b hab _ h
  have := Clk.face_mono off every a b hv (by omega) (by omega)
  simp only [Clk.gt, decide_eq_true_eq] at *
  omega

/-- The two places that Times finds. -/
theorem Clk.bounds (off every shown : Int) (n : Nat) (hv : Clk.vld off every = true) : ∃ k1 k2, Bound (Clk.ge off every shown) n k1 ∧ Bound (Clk.gt off every shown) n k2 := by
  obtain ⟨k1, h1⟩ := Bound.exists_of_mono _ n (Clk.ge_mono off every shown n hv)
  obtain ⟨k2, h2⟩ := Bound.exists_of_mono _ n (Clk.gt_mono off every shown n hv)
  exact ⟨k1, k2, h1, h2⟩

theorem Clk.bounds_facts {off every shown : Int} {n k1 k2 : Nat} (h1 : Bound (Clk.ge off every shown) n k1) (h2 : Bound (Clk.gt off every shown) n k2) :
    k1 ≤ k2 ∧ k2 ≤ n ∧ (∀ i : Nat, i < k1 → Clk.face off every i < shown) ∧ (∀ i : Nat, k1 ≤ i → i < k2 → Clk.face off every i = shown) ∧ (∀ i : Nat, k2 ≤ i → i < n → shown < Clk.face off every i) := by
  obtain ⟨a1, a2, a3⟩ := h1
  obtain ⟨b1, b2, b3⟩ := h2
  simp only [Clk.ge, Clk.gt, decide_eq_true_eq, decide_eq_false_iff_not] at *
  refine ⟨?_, b1, fun i hi => by have := a2 i hi; omega, fun i hi hi2 => by have := a3 i hi (by omega); have := b2 i hi2; omega, b3⟩
  rcases Nat.lt_or_ge k2 k1 with h | h
  · have := a2 k2 h; have := b3 k2 (Nat.le_refl _) (by omega); omega
  · exact h

theorem Clk.wrong_iff (off every drift t : Int) : Clk.wrong off every drift t = true ↔ (drift < Clk.face off every t - t ∨ Clk.face off every t - t < -drift) := by simp [Clk.wrong]
theorem Clk.wrong_not (off every drift t : Int) : Clk.wrong off every drift t = false ↔ (Clk.face off every t - t ≤ drift ∧ -drift ≤ Clk.face off every t - t) := by
  rw [← Bool.not_eq_true, Clk.wrong_iff]; omega

/-- A clock is most wrong at the first or at the last time. -/
theorem Clk.ends (off every drift n t : Int) (hv : Clk.vld off every = true) (h0 : Clk.wrong off every drift 0 = false) (h1 : Clk.wrong off every drift (n - 1) = false) (ht : 0 ≤ t) (htn : t < n) :
    Clk.wrong off every drift t = false := by
  rw [Clk.wrong_not] at *
  obtain ⟨_, _, e0 | ⟨e1, _⟩ | ⟨e2, _⟩⟩ := (Clk.vld_iff _ _).1 hv
  · subst e0; rw [Clk.face_zero] at *; omega
  · rw [Clk.face_pos _ _ _ e1 (by omega)] at *
    have := Clk.div_mono 0 t every e1 ht
    have := Clk.div_mono t (n - 1) every e1 (by omega)
    omega
  · rw [Clk.face_neg _ _ _ e2 (by omega)] at *
    have := Clk.div_mono 0 t (-every) (by omega) ht
    have := Clk.div_mono t (n - 1) (-every) (by omega) (by omega)
    omega

theorem Clk.abs_gt (n d : Int) : d < Clk.abs n ↔ (d < n ∨ n < -d) ∨ (d < n ∧ n < -d) := by unfold Clk.abs; split <;> omega

end Go.Proofs.Ytfgjeihchgfnnaa
