/- Contracts of the names' reference: Label. -/
import Derived.Test.YtklkmdoakhkikaaDoorNames
namespace Go.Proofs.YtklkmdoakhkikaaDoor
open Go.RowKit

theorem Nm.len (s : ByteArray) : s.data.toList.length = s.size := by show s.data.toList.length = s.data.size; simp

theorem Nm.labelAt_iff (s : ByteArray) (k : Nat) (h : k < s.size) : Nm.labelAt s.data.toList k = true ↔
    ((97 ≤ (s[k].toNat : Int) ∧ (s[k].toNat : Int) ≤ 122) ∨ (48 ≤ (s[k].toNat : Int) ∧ (s[k].toNat : Int) ≤ 57) ∨ ((s[k].toNat : Int) = 45 ∧ 0 < k ∧ k + 1 < s.size)) := by
  have hk : s.data.toList[k]? = some s[k] := by
    rw [List.getElem?_eq_getElem (by simpa using h)]; rfl
  have hl : s.data.toList.length = s.size := Nm.len s
  have e45 : (s[k] == 45) = decide ((s[k].toNat : Int) = 45) := by
    rw [Bool.eq_iff_iff]; simp only [beq_iff_eq, decide_eq_true_eq]
    constructor
    · intro e; rw [e]; rfl
    · intro e; apply UInt8.toNat.inj; show _ = 45; omega
  simp only [Nm.labelAt, hk, Nm.alnum, hl, e45]
  simp
  omega

theorem Nm.upto_succ {p : Nat → Bool} {k : Nat} (h : ∀ j, j < k → p j = true) (hk : p k = true) : ∀ j, j < k + 1 → p j = true := by
  intro j hj
  by_cases e : j = k
  · subst e; exact hk
  · exact h j (by omega)
theorem Nm.label_no (l : List UInt8) (k : Nat) (h : k < l.length) (hk : Nm.labelAt l k ≠ true) : false = Nm.label l := by
  symm
  simp only [Nm.label, decide_eq_false_iff_not]
  rintro ⟨_, _, h3⟩
  exact hk (h3 k h)
theorem Nm.label_yes (l : List UInt8) (h : ∀ i, i < l.length → Nm.labelAt l i = true) : Nm.label l = decide (1 ≤ l.length ∧ l.length ≤ 12) := by
  rw [Bool.eq_iff_iff]
  simp only [Nm.label, decide_eq_true_eq]
  exact ⟨fun h => ⟨h.1, h.2.1⟩, fun g => ⟨g.1, g.2, h⟩⟩

set_option maxHeartbeats 800000 in
theorem rlabel_any (s : ByteArray) (w : World) (hs : s.size ≤ maxLen) :
    Calls Tryd.prog 39 #[.string s] w fun e w' => e = .returned (.bool (Nm.label s.data.toList)) ∧ w = w' := by
  unfold maxLen at hs
  have hlen : s.data.toList.length = s.size := Nm.len s
  have HLEN := Lib.hid hlen
  clear hlen
  go_enter Tryd.func39, Tryd.ntmps39
  go_wp2
  go_loop [3] (fun i => ∃ k : Nat, k ≤ s.size ∧ i = .int .i64 k ∧ Hid (∀ j, j < k → Nm.labelAt s.data.toList j = true)) (fun i => s.size - (intOf i).toNat)
  case atStart => exact ⟨0, Nat.zero_le _, rfl, (fun j hj => by omega : ∀ j, j < 0 → Nm.labelAt s.data.toList j = true)⟩
  case round =>
    obtain ⟨k, hk, rfl, I⟩ := hrel
    by_cases hlt : k < s.size
    · have HL := Lib.hid (Nm.labelAt_iff s k hlt)
      by_cases hz : (k : Int) < (s.size : Int) - 1
      all_goals
        go_wp2
        all_goals first
          | (exfalso; omega)
          | (refine ⟨⟨k + 1, by omega, by go_num, ?_⟩, by simp [intOf]; omega⟩
             exact Nm.upto_succ I.out (HL.out.2 (by omega)))
          | (go_ret
             exact ⟨ret_bool (Nm.label_no s.data.toList k (by rw [HLEN.out]; exact hlt) (fun h => absurd (HL.out.1 h) (by omega))), rfl⟩)
    · obtain rfl : k = s.size := by omega
      go_wp2
      all_goals
        go_ret
        exact ⟨ret_bool (by rw [Nm.label_yes s.data.toList (by rw [HLEN.out]; exact I.out), HLEN.out, Bool.eq_iff_iff]; simp; omega), rfl⟩

end Go.Proofs.YtklkmdoakhkikaaDoor
