/- Contracts of package name and of Go's strings: isLabel, LastIndexByte, HasPrefix, HasSuffix. -/
import Derived.Test.YtklkmdoakhkikaaDoorR01c
namespace Go.Proofs.YtklkmdoakhkikaaDoor
open Go.RowKit

theorem Nm.toNat_eq (c d : UInt8) : ((c.toNat : Int) = (d.toNat : Int)) ↔ c = d := by
  constructor
  · intro e; apply UInt8.toNat.inj; omega
  · intro e; rw [e]

set_option maxHeartbeats 1000000 in
theorem isLabel_any (s : ByteArray) (w : World) :
    Calls Tryd.prog 61 #[.string s] w fun e w' => e = .returned (.bool (Nm.label (toL s))) ∧ w = w' := by
  have hlen := Nm.len s
  have HLEN : Hid ((toL s).length = s.size) := hlen
  clear hlen
  by_cases hz : 1 ≤ s.size ∧ s.size ≤ 12
  · obtain ⟨z1, z2⟩ := hz
    have p0 : 0 < s.size := by omega
    have p1 : s.size - 1 < s.size := by omega
    have e0 : ((s[0]'p0).toNat : Int) = 45 → false = Nm.label (toL s) := fun h => by
      refine Nm.label_no _ 0 (by rw [HLEN.out]; omega) (fun g => ?_)
      have := (Nm.labelAt_iff s 0 (by omega)).1 g
      omega
    have e1 : ((s[s.size - 1]'p1).toNat : Int) = 45 → false = Nm.label (toL s) := fun h => by
      refine Nm.label_no _ (s.size - 1) (by rw [HLEN.out]; omega) (fun g => ?_)
      have := (Nm.labelAt_iff s (s.size - 1) (by omega)).1 g
      omega
    have E0 := Lib.hid e0
    have E1 := Lib.hid e1
    clear e0 e1
    by_cases h0 : ((s[0]'p0).toNat : Int) = 45
    · have hb : (((s[0]'p0).toNat : Int) == 45) = true := by simp [h0]
      have F := Lib.hid (E0.out h0)
      clear h0
      go_enter Tryd.func61, Tryd.ntmps61
      go_wp2
      go_ret
      exact ⟨ret_bool F.out, rfl⟩
    · have hb : (((s[0]'p0).toNat : Int) == 45) = false := by simp [h0]
      by_cases h1 : ((s[s.size - 1]'p1).toNat : Int) = 45
      · have hb1 : (((s[s.size - 1]'p1).toNat : Int) == 45) = true := by simp [h1]
        have F := Lib.hid (E1.out h1)
        clear h1 h0
        go_enter Tryd.func61, Tryd.ntmps61
        go_wp2
        go_ret
        exact ⟨ret_bool F.out, rfl⟩
      · have hb1 : (((s[s.size - 1]'p1).toNat : Int) == 45) = false := by simp [h1]
        have H0 := Lib.hid h0
        have H1 := Lib.hid h1
        clear h0 h1
        go_enter Tryd.func61, Tryd.ntmps61
        go_wp2
        go_loop [28] (fun i => ∃ k : Nat, k ≤ s.size ∧ i = .int .i64 k ∧ Hid (∀ j, j < k → Nm.labelAt (toL s) j = true)) (fun i => s.size - (intOf i).toNat)
        case atStart => exact ⟨0, Nat.zero_le _, rfl, (fun j hj => by omega : ∀ j, j < 0 → Nm.labelAt (toL s) j = true)⟩
        case round =>
          obtain ⟨k, hk, rfl, I⟩ := hrel
          clear hb hb1
          by_cases hlt : k < s.size
          · have HL : Hid (Nm.labelAt (toL s) k = true ↔ _) := Nm.labelAt_iff s k hlt
            have H45 : Hid (((s[k]'hlt).toNat : Int) = 45 → 0 < k ∧ k + 1 < s.size) := fun h => by
              refine ⟨?_, ?_⟩
              · rcases Nat.eq_zero_or_pos k with rfl | h'
                · exact absurd h H0.out
                · exact h'
              · rcases Nat.lt_or_ge (k + 1) s.size with h' | h'
                · exact h'
                · obtain rfl : k = s.size - 1 := by omega
                  exact absurd h H1.out
            by_cases hc : ((s[k]'hlt).toNat : Int) = 45
            · have hne : (((s[k]'hlt).toNat : Int) != 45) = false := by simp [hc]
              have HC := Lib.hid hc
              clear hc
              go_wp2
              all_goals
                refine ⟨⟨k + 1, by omega, by go_num, ?_⟩, by simp [intOf]; omega⟩
                have h45 := H45.out HC.out
                exact Nm.upto_succ I.out (HL.out.2 (.inr (.inr ⟨HC.out, h45⟩)))
            · have hne : (((s[k]'hlt).toNat : Int) != 45) = true := by simp [hc]
              have HC := Lib.hid hc
              clear hc
              go_wp2
              all_goals first
                | (exfalso; omega)
                | (refine ⟨⟨k + 1, by omega, by go_num, ?_⟩, by simp [intOf]; omega⟩
                   exact Nm.upto_succ I.out (HL.out.2 (by omega)))
                | (have hc := HC.out
                   go_ret
                   exact ⟨ret_bool (Nm.label_no (toL s) k (by rw [HLEN.out]; exact hlt) (fun h => absurd (HL.out.1 h) (by omega))), rfl⟩)
          · obtain rfl : k = s.size := by omega
            go_wp2
            go_ret
            exact ⟨ret_bool (by rw [Nm.label_yes (toL s) (by rw [HLEN.out]; exact I.out), HLEN.out]; simp; omega), rfl⟩
  · have F : Hid (false = Nm.label (toL s)) := by
      show false = Nm.label (toL s)
      symm
      simp only [Nm.label, decide_eq_false_iff_not]
      rintro ⟨g1, g2, _⟩
      rw [HLEN.out] at g1 g2
      omega
    go_enter Tryd.func61, Tryd.ntmps61
    go_wp2
    all_goals first
      | (exfalso; omega)
      | (go_ret
         exact ⟨ret_bool F.out, rfl⟩)

/-- Where the last one of a byte is: behind it there is no other. -/
def Nm.LastAt (s : ByteArray) (c : UInt8) (r : Int) : Prop := -1 ≤ r ∧ r < s.size ∧ (∀ (h : r.toNat < s.size), 0 ≤ r → s[r.toNat]'h = c) ∧ ∀ (j : Nat) (h : j < s.size), r < j → s[j]'h ≠ c
def LastPost (s : ByteArray) (c : UInt8) (w : World) (e : Ending) (w' : World) : Prop := ∃ r : Int, e = .returned (.int .i64 r) ∧ Nm.LastAt s c r ∧ w = w'

set_option maxHeartbeats 800000 in
theorem lastIndexS_any (s : ByteArray) (c : UInt8) (w : World) (hs : s.size ≤ maxLen) :
    Calls Tryd.prog 93 #[.string s, .int .u8 c.toNat] w (LastPost s c w) := by
  unfold maxLen at hs
  go_enter Tryd.func93, Tryd.ntmps93
  go_wp2
  go_loop [5] (fun i => ∃ k : Int, -1 ≤ k ∧ k < s.size ∧ i = .int .i64 k ∧ Hid (∀ (j : Nat) (h : j < s.size), k < j → s[j]'h ≠ c)) (fun i => ((intOf i) + 1).toNat)
  case atStart => exact ⟨_, by omega, by omega, rfl, (fun j h hj => by omega : ∀ (j : Nat) (h : j < s.size), (s.size : Int) - 1 < j → s[j]'h ≠ c)⟩
  case round =>
    obtain ⟨k, hk1, hk2, rfl, I⟩ := hrel
    by_cases h0 : 0 ≤ k
    · obtain ⟨m, rfl⟩ := Int.eq_ofNat_of_zero_le h0
      have hm : m < s.size := by omega
      by_cases hc : s[m]'hm = c
      · have hb : (((s[m]'hm).toNat : Int) == (c.toNat : Int)) = true := by rw [hc]; simp
        have HC := Lib.hid hc
        clear hc
        go_wp2
        go_ret
        exact ⟨_, rfl, ⟨by omega, by omega, fun _ _ => HC.out, I.out⟩, rfl⟩
      · have hb : (((s[m]'hm).toNat : Int) == (c.toNat : Int)) = false := by simp only [beq_eq_false_iff_ne, ne_eq, Nm.toNat_eq]; exact hc
        have HC := Lib.hid hc
        clear hc
        go_wp2
        go_round
        case rel =>
          refine ⟨(m : Int) - 1, by omega, by omega, rfl, (fun j h hj => ?_ : ∀ (j : Nat) (h : j < s.size), (m : Int) - 1 < j → s[j]'h ≠ c)⟩
          by_cases e : j = m
          · subst e; exact HC.out
          · exact I.out j h (by omega)
        case measure => simp [intOf]
    · obtain rfl : k = -1 := by omega
      go_wp2
      go_ret
      exact ⟨-1, rfl, ⟨by omega, by omega, (fun _ h => by omega), I.out⟩, rfl⟩

set_option maxHeartbeats 400000 in
theorem lastIndex_any (s : ByteArray) (c : UInt8) (w : World) (hs : s.size ≤ maxLen) :
    Calls Tryd.prog 81 #[.string s, .int .u8 c.toNat] w (LastPost s c w) := by
  go_enter Tryd.func81, Tryd.ntmps81
  go_wp2_with fail
  refine (lastIndexS_any s c _ hs).mono ?_
  rintro e w' ⟨r, rfl, hr, rfl⟩
  have HR := Lib.hid hr
  clear hr
  go_wp2_with fail
  go_ret
  exact ⟨r, rfl, HR.out, rfl⟩

theorem Nm.take_bytes (s : ByteArray) (n : Nat) : toL (s.extract 0 n) = (toL s).take n := by
  show (s.extract 0 n).data.toList = _
  rw [ByteArray.data_extract, Array.toList_extract, List.extract_eq_take_drop]; simp
theorem Nm.drop_bytes (s : ByteArray) (n : Nat) : toL (s.extract n s.size) = (toL s).drop n := by
  show (s.extract n s.size).data.toList = _
  rw [ByteArray.data_extract, Array.toList_extract, List.extract_eq_take_drop, List.take_of_length_le]
  rw [List.length_drop, Nm.len]; exact Nat.le_refl _

set_option maxHeartbeats 400000 in
theorem hasPrefixL_any (s p : ByteArray) (w : World) :
    Calls Tryd.prog 42 #[.string s, .string p] w fun e w' => e = .returned (.bool (decide (toL p <+: toL s))) ∧ w = w' := by
  by_cases hp : p.size ≤ s.size
  · have hh : ((s.extract 0 p.size).toList == p.toList) = decide (toL p <+: toL s) := by
      rw [strEq, Nm.take_bytes, Bool.eq_iff_iff]
      simp only [decide_eq_true_eq]
      rw [List.prefix_iff_eq_take, show (toL p).length = p.size from Nm.len p]
      exact eq_comm
    have HH := Lib.hid hh
    clear hh
    go_enter Tryd.func42, Tryd.ntmps42
    go_wp2
    go_ret
    exact ⟨ret_bool HH.out, rfl⟩
  · have hh : decide (toL p <+: toL s) = false := by
      simp only [decide_eq_false_iff_not]
      intro h
      have := h.length_le
      rw [show (toL p).length = p.size from Nm.len p, show (toL s).length = s.size from Nm.len s] at this
      omega
    have HH := Lib.hid hh
    clear hh
    go_enter Tryd.func42, Tryd.ntmps42
    go_wp2
    go_ret
    exact ⟨by rw [HH.out]; rfl, rfl⟩

set_option maxHeartbeats 400000 in
theorem hasPrefix_any (s p : ByteArray) (w : World) :
    Calls Tryd.prog 22 #[.string s, .string p] w fun e w' => e = .returned (.bool (decide (toL p <+: toL s))) ∧ w = w' := by
  generalize hd : decide (toL p <+: toL s) = d
  have HD := Lib.hid hd
  clear hd
  go_enter Tryd.func22, Tryd.ntmps22
  go_wp2_with fail
  refine (hasPrefixL_any s p _).mono ?_
  rintro e w' ⟨rfl, rfl⟩
  rw [HD.out]
  go_wp2_with fail
  go_ret
  exact ⟨rfl, rfl⟩

set_option maxHeartbeats 400000 in
theorem hasSuffixL_any (s p : ByteArray) (w : World) (hs : s.size ≤ maxLen) (hps : p.size ≤ maxLen) :
    Calls Tryd.prog 66 #[.string s, .string p] w fun e w' => e = .returned (.bool (decide (toL p <:+ toL s))) ∧ w = w' := by
  unfold maxLen at hs hps
  by_cases hp : p.size ≤ s.size
  · have hh : ((s.extract (s.size - p.size) s.size).toList == p.toList) = decide (toL p <:+ toL s) := by
      rw [strEq, Nm.drop_bytes, Bool.eq_iff_iff]
      simp only [decide_eq_true_eq]
      rw [List.suffix_iff_eq_drop, show (toL p).length = p.size from Nm.len p, show (toL s).length = s.size from Nm.len s]
      exact eq_comm
    have HH := Lib.hid hh
    clear hh
    go_enter Tryd.func66, Tryd.ntmps66
    go_wp2
    go_ret
    exact ⟨ret_bool HH.out, rfl⟩
  · have hh : decide (toL p <:+ toL s) = false := by
      simp only [decide_eq_false_iff_not]
      intro h
      have := h.length_le
      rw [show (toL p).length = p.size from Nm.len p, show (toL s).length = s.size from Nm.len s] at this
      omega
    have HH := Lib.hid hh
    clear hh
    go_enter Tryd.func66, Tryd.ntmps66
    go_wp2
    go_ret
    exact ⟨by rw [HH.out]; rfl, rfl⟩

set_option maxHeartbeats 400000 in
theorem hasSuffix_any (s p : ByteArray) (w : World) (hs : s.size ≤ maxLen) (hps : p.size ≤ maxLen) :
    Calls Tryd.prog 46 #[.string s, .string p] w fun e w' => e = .returned (.bool (decide (toL p <:+ toL s))) ∧ w = w' := by
  generalize hd : decide (toL p <:+ toL s) = d
  have HD := Lib.hid hd
  clear hd
  go_enter Tryd.func46, Tryd.ntmps46
  go_wp2_with fail
  refine (hasSuffixL_any s p _ hs hps).mono ?_
  rintro e w' ⟨rfl, rfl⟩
  rw [HD.out]
  go_wp2_with fail
  go_ret
  exact ⟨rfl, rfl⟩

theorem Nm.wild_prefix (l : List UInt8) : decide ([42] <+: l) = Nm.wild l := by
  cases l with
  | nil => simp [Nm.wild]
  | cons c r =>
    rw [Bool.eq_iff_iff]
    simp only [Nm.wild, decide_eq_true_eq, beq_iff_eq, List.cons_prefix_cons, List.nil_prefix, and_true]
    exact eq_comm

end Go.Proofs.YtklkmdoakhkikaaDoor
