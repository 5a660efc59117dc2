/- ClockTimes: for any clock, number, end and time the law returns true: at the times that are returned the clock shows the number, before them less, behind them more. No conditions. -/
import Derived.Test.YtfgjeihchgfnnaaClk4
import Derived.Test.YtfgjeihchgfnnaaLaw
import Derived.Lib.SmallJoins
namespace Go.Proofs.Ytfgjeihchgfnnaa
open Go.RowKit

set_option maxRecDepth 100000 in
set_option maxHeartbeats 1000000 in
theorem ctimes_no (off every shown n t : Int) (w : World) (_l_every : -9223372036854775808 ≤ every) (_u_every : every ≤ 9223372036854775807)  (hv : Clk.vld off every = false ∨ Clk.isEnd n = false) :
    Calls Try.prog 5 #[.agg #[.int .i64 off, .int .i64 every], .int .i64 shown, .int .i64 n, .int .i64 t] w fun e w' => e = .returned (.bool true) ∧ Ext w w' := by
  have HV := Lib.hid hv
  clear hv
  go_enter Try.func5, Try.ntmps5
  go_wp2_with fail
  refine (head_any _).mono ?_
  rintro e w1 ⟨rfl, hx⟩
  have X : Ext w w1 := ((Ext.refl _).alloc _).trans hx
  have a0 : w1.cell? ⟨w.heap.size, 0, none⟩ = some (.int .i64 off) := hx.keep (by simp)
  have a1 : w1.cell? ⟨w.heap.size, 1, none⟩ = some (.int .i64 every) := hx.keep (by simp)
  clear hx
  go_wp2_with fail
  refine (times_no _ _ _ _ _ HV.out).mono ?_
  rintro e w2 ⟨rfl, hx⟩
  replace X := X.trans hx
  replace a0 := hx.keep a0
  replace a1 := hx.keep a1
  clear hx
  clear a0 a1
  go_wp2_with fail
  all_goals
    first
      | (exfalso; omega)
      | (go_ret; first | exact ⟨rfl, X⟩ | exact ⟨ret_bool (by simp; omega), X⟩)

set_option maxRecDepth 100000 in
set_option maxHeartbeats 1000000 in
theorem ctimes_none_lo (off every shown t : Int) (n k1 k2 : Nat) (w : World) (hv : Clk.vld off every = true) (n1 : 1 ≤ n) (n2 : (n : Int) ≤ 20000000)
    (b1 : Bound (Clk.ge off every shown) n k1) (b2 : Bound (Clk.gt off every shown) n k2) (ht : t < 0) (hk : k1 = k2) :
    Calls Try.prog 5 #[.agg #[.int .i64 off, .int .i64 every], .int .i64 shown, .int .i64 n, .int .i64 t] w fun e w' => e = .returned (.bool true) ∧ Ext w w' := by
  obtain ⟨q1, q2, q3, q4, q5⟩ := Clk.bounds_facts b1 b2
  have Q3 := Lib.hid q3
  have Q4 := Lib.hid q4
  have Q5 := Lib.hid q5
  have HV := Lib.hid hv
  have T := fun w => times_yes off every shown n k1 k2 w hv n1 n2 b1 b2
  rw [if_pos hk, if_pos hk, show (!decide (k1 = k2)) = false by simp [hk]] at T
  have HT := Lib.hid T
  clear T q3 q4 q5 b1 b2 hv hk
  go_enter Try.func5, Try.ntmps5
  go_wp2_with fail
  refine (head_any _).mono ?_
  rintro e w1 ⟨rfl, hx⟩
  have X : Ext w w1 := ((Ext.refl _).alloc _).trans hx
  have a0 : w1.cell? ⟨w.heap.size, 0, none⟩ = some (.int .i64 off) := hx.keep (by simp)
  have a1 : w1.cell? ⟨w.heap.size, 1, none⟩ = some (.int .i64 every) := hx.keep (by simp)
  clear hx
  go_wp2_with fail
  refine (HT.out _).mono ?_
  rintro e w2 ⟨rfl, hx⟩
  replace X := X.trans hx
  replace a0 := hx.keep a0
  replace a1 := hx.keep a1
  clear hx
  clear a0 a1
  go_wp2_with fail
  all_goals
    first
      | (exfalso; omega)
      | (go_ret; first | exact ⟨rfl, X⟩ | exact ⟨ret_bool (by simp; omega), X⟩)

set_option maxRecDepth 100000 in
set_option maxHeartbeats 1000000 in
theorem ctimes_none_hi (off every shown t : Int) (n k1 k2 : Nat) (w : World) (hv : Clk.vld off every = true) (n1 : 1 ≤ n) (n2 : (n : Int) ≤ 20000000)
    (b1 : Bound (Clk.ge off every shown) n k1) (b2 : Bound (Clk.gt off every shown) n k2) (ht : (n : Int) ≤ t) (hk : k1 = k2) :
    Calls Try.prog 5 #[.agg #[.int .i64 off, .int .i64 every], .int .i64 shown, .int .i64 n, .int .i64 t] w fun e w' => e = .returned (.bool true) ∧ Ext w w' := by
  obtain ⟨q1, q2, q3, q4, q5⟩ := Clk.bounds_facts b1 b2
  have Q3 := Lib.hid q3
  have Q4 := Lib.hid q4
  have Q5 := Lib.hid q5
  have HV := Lib.hid hv
  have T := fun w => times_yes off every shown n k1 k2 w hv n1 n2 b1 b2
  rw [if_pos hk, if_pos hk, show (!decide (k1 = k2)) = false by simp [hk]] at T
  have HT := Lib.hid T
  clear T q3 q4 q5 b1 b2 hv hk
  go_enter Try.func5, Try.ntmps5
  go_wp2_with fail
  refine (head_any _).mono ?_
  rintro e w1 ⟨rfl, hx⟩
  have X : Ext w w1 := ((Ext.refl _).alloc _).trans hx
  have a0 : w1.cell? ⟨w.heap.size, 0, none⟩ = some (.int .i64 off) := hx.keep (by simp)
  have a1 : w1.cell? ⟨w.heap.size, 1, none⟩ = some (.int .i64 every) := hx.keep (by simp)
  clear hx
  go_wp2_with fail
  refine (HT.out _).mono ?_
  rintro e w2 ⟨rfl, hx⟩
  replace X := X.trans hx
  replace a0 := hx.keep a0
  replace a1 := hx.keep a1
  clear hx
  clear a0 a1
  go_wp2_with fail
  all_goals
    first
      | (exfalso; omega)
      | (go_ret; first | exact ⟨rfl, X⟩ | exact ⟨ret_bool (by simp; omega), X⟩)

set_option maxRecDepth 100000 in
set_option maxHeartbeats 1000000 in
theorem ctimes_none_l (off every shown t : Int) (n k1 k2 : Nat) (w : World) (hv : Clk.vld off every = true) (n1 : 1 ≤ n) (n2 : (n : Int) ≤ 20000000)
    (b1 : Bound (Clk.ge off every shown) n k1) (b2 : Bound (Clk.gt off every shown) n k2) (t1 : 0 ≤ t) (ht : t < k1) (hk : k1 = k2) :
    Calls Try.prog 5 #[.agg #[.int .i64 off, .int .i64 every], .int .i64 shown, .int .i64 n, .int .i64 t] w fun e w' => e = .returned (.bool true) ∧ Ext w w' := by
  obtain ⟨q1, q2, q3, q4, q5⟩ := Clk.bounds_facts b1 b2
  have Q3 := Lib.hid q3
  have Q4 := Lib.hid q4
  have Q5 := Lib.hid q5
  have HV := Lib.hid hv
  have T := fun w => times_yes off every shown n k1 k2 w hv n1 n2 b1 b2
  rw [if_pos hk, if_pos hk, show (!decide (k1 = k2)) = false by simp [hk]] at T
  have HT := Lib.hid T
  clear T q3 q4 q5 b1 b2 hv hk
  obtain ⟨i, rfl⟩ := Int.eq_ofNat_of_zero_le (a := t) (by omega)
  have hq := Q3.out i (by omega)
  have hb : (Clk.face off every i == shown) = false := by simp; omega
  clear hq
  go_enter Try.func5, Try.ntmps5
  go_wp2_with fail
  refine (head_any _).mono ?_
  rintro e w1 ⟨rfl, hx⟩
  have X : Ext w w1 := ((Ext.refl _).alloc _).trans hx
  have a0 : w1.cell? ⟨w.heap.size, 0, none⟩ = some (.int .i64 off) := hx.keep (by simp)
  have a1 : w1.cell? ⟨w.heap.size, 1, none⟩ = some (.int .i64 every) := hx.keep (by simp)
  clear hx
  go_wp2_with fail
  refine (HT.out _).mono ?_
  rintro e w2 ⟨rfl, hx⟩
  replace X := X.trans hx
  replace a0 := hx.keep a0
  replace a1 := hx.keep a1
  clear hx
  go_wp2_with fail
  refine (show_yes _ _ _ _ HV.out (by omega) (by omega)).mono ?_
  rintro e w3 ⟨rfl, hx⟩
  replace X := X.trans hx
  replace a0 := hx.keep a0
  replace a1 := hx.keep a1
  clear hx
  clear a0 a1
  go_wp2_with fail
  all_goals
    first
      | (exfalso; omega)
      | (go_ret; first | exact ⟨rfl, X⟩ | exact ⟨ret_bool (by simp; omega), X⟩)

set_option maxRecDepth 100000 in
set_option maxHeartbeats 1000000 in
theorem ctimes_none_h (off every shown t : Int) (n k1 k2 : Nat) (w : World) (hv : Clk.vld off every = true) (n1 : 1 ≤ n) (n2 : (n : Int) ≤ 20000000)
    (b1 : Bound (Clk.ge off every shown) n k1) (b2 : Bound (Clk.gt off every shown) n k2) (t1 : (k2 : Int) ≤ t) (ht : t < n) (hk : k1 = k2) :
    Calls Try.prog 5 #[.agg #[.int .i64 off, .int .i64 every], .int .i64 shown, .int .i64 n, .int .i64 t] w fun e w' => e = .returned (.bool true) ∧ Ext w w' := by
  obtain ⟨q1, q2, q3, q4, q5⟩ := Clk.bounds_facts b1 b2
  have Q3 := Lib.hid q3
  have Q4 := Lib.hid q4
  have Q5 := Lib.hid q5
  have HV := Lib.hid hv
  have T := fun w => times_yes off every shown n k1 k2 w hv n1 n2 b1 b2
  rw [if_pos hk, if_pos hk, show (!decide (k1 = k2)) = false by simp [hk]] at T
  have HT := Lib.hid T
  clear T q3 q4 q5 b1 b2 hv hk
  obtain ⟨i, rfl⟩ := Int.eq_ofNat_of_zero_le (a := t) (by omega)
  have hq := Q5.out i (by omega) (by omega)
  have hb : (Clk.face off every i == shown) = false := by simp; omega
  clear hq
  go_enter Try.func5, Try.ntmps5
  go_wp2_with fail
  refine (head_any _).mono ?_
  rintro e w1 ⟨rfl, hx⟩
  have X : Ext w w1 := ((Ext.refl _).alloc _).trans hx
  have a0 : w1.cell? ⟨w.heap.size, 0, none⟩ = some (.int .i64 off) := hx.keep (by simp)
  have a1 : w1.cell? ⟨w.heap.size, 1, none⟩ = some (.int .i64 every) := hx.keep (by simp)
  clear hx
  go_wp2_with fail
  refine (HT.out _).mono ?_
  rintro e w2 ⟨rfl, hx⟩
  replace X := X.trans hx
  replace a0 := hx.keep a0
  replace a1 := hx.keep a1
  clear hx
  go_wp2_with fail
  refine (show_yes _ _ _ _ HV.out (by omega) (by omega)).mono ?_
  rintro e w3 ⟨rfl, hx⟩
  replace X := X.trans hx
  replace a0 := hx.keep a0
  replace a1 := hx.keep a1
  clear hx
  clear a0 a1
  go_wp2_with fail
  all_goals
    first
      | (exfalso; omega)
      | (go_ret; first | exact ⟨rfl, X⟩ | exact ⟨ret_bool (by simp; omega), X⟩)

set_option maxRecDepth 100000 in
set_option maxHeartbeats 2000000 in
theorem ctimes_some_lo (off every shown t : Int) (n k1 k2 : Nat) (w : World) (hv : Clk.vld off every = true) (n1 : 1 ≤ n) (n2 : (n : Int) ≤ 20000000)
    (b1 : Bound (Clk.ge off every shown) n k1) (b2 : Bound (Clk.gt off every shown) n k2) (ht : t < 0) (hk : k1 < k2) :
    Calls Try.prog 5 #[.agg #[.int .i64 off, .int .i64 every], .int .i64 shown, .int .i64 n, .int .i64 t] w fun e w' => e = .returned (.bool true) ∧ Ext w w' := by
  obtain ⟨q1, q2, q3, q4, q5⟩ := Clk.bounds_facts b1 b2
  have Q3 := Lib.hid q3
  have Q4 := Lib.hid q4
  have Q5 := Lib.hid q5
  have HV := Lib.hid hv
  have T := fun w => times_yes off every shown n k1 k2 w hv n1 n2 b1 b2
  rw [if_neg (by omega), if_neg (by omega), show (!decide (k1 = k2)) = true by simp; omega] at T
  have HT := Lib.hid T
  clear T q3 q4 q5 b1 b2 hv
  have s1 := Q4.out k1 (Nat.le_refl _) hk
  have s2 := Q4.out (k2 - 1) (by omega) (by omega)
  rw [show ((k2 - 1 : Nat) : Int) = (k2 : Int) - 1 by omega] at s2
  have fb := Clk.face_bd off every k1 HV.out (by omega) (by omega)
  rw [s1] at fb
  have S1 := Lib.hid (fun w => shows_any off every k1 shown w)
  have S2 := Lib.hid (fun w => shows_any off every ((k2 : Int) - 1) shown w)
  rw [(Clk.okT_iff _ _ _).2 ⟨HV.out, by omega, by omega⟩, s1, show decide (shown = shown) = true by simp] at S1
  rw [(Clk.okT_iff _ _ _).2 ⟨HV.out, by omega, by omega⟩, s2, show decide (shown = shown) = true by simp] at S2
  clear s1 s2
  by_cases hf : 0 < k1
  · have hl := Q3.out (k1 - 1) (by omega)
    rw [show ((k1 - 1 : Nat) : Int) = (k1 : Int) - 1 by omega] at hl
    by_cases hu : k2 < n
    · have hh := Q5.out k2 (Nat.le_refl _) hu
      go_enter Try.func5, Try.ntmps5
      go_wp2_with fail
      refine (head_any _).mono ?_
      rintro e w1 ⟨rfl, hx⟩
      have X : Ext w w1 := ((Ext.refl _).alloc _).trans hx
      have a0 : w1.cell? ⟨w.heap.size, 0, none⟩ = some (.int .i64 off) := hx.keep (by simp)
      have a1 : w1.cell? ⟨w.heap.size, 1, none⟩ = some (.int .i64 every) := hx.keep (by simp)
      clear hx
      go_wp2_with fail
      refine (HT.out _).mono ?_
      rintro e w2 ⟨rfl, hx⟩
      replace X := X.trans hx
      replace a0 := hx.keep a0
      replace a1 := hx.keep a1
      clear hx
      go_wp2_with fail
      refine (S1.out _).mono ?_
      rintro e w4 ⟨rfl, hx⟩
      replace X := X.trans hx
      replace a0 := hx.keep a0
      replace a1 := hx.keep a1
      clear hx
      go_wp2_with fail
      refine (S2.out _).mono ?_
      rintro e w5 ⟨rfl, hx⟩
      replace X := X.trans hx
      replace a0 := hx.keep a0
      replace a1 := hx.keep a1
      clear hx
      go_wp2_with fail
      refine (show_yes _ _ _ _ HV.out (by omega) (by omega)).mono ?_
      rintro e w6 ⟨rfl, hx⟩
      replace X := X.trans hx
      replace a0 := hx.keep a0
      replace a1 := hx.keep a1
      clear hx
      go_wp2_with fail
      refine (show_yes _ _ _ _ HV.out (by omega) (by omega)).mono ?_
      rintro e w7 ⟨rfl, hx⟩
      replace X := X.trans hx
      replace a0 := hx.keep a0
      replace a1 := hx.keep a1
      clear hx
      clear a0 a1
      go_wp2_with fail
      all_goals
        first
          | (exfalso; omega)
          | (go_ret; first | exact ⟨rfl, X⟩ | exact ⟨ret_bool (by simp; omega), X⟩)
    · go_enter Try.func5, Try.ntmps5
      go_wp2_with fail
      refine (head_any _).mono ?_
      rintro e w1 ⟨rfl, hx⟩
      have X : Ext w w1 := ((Ext.refl _).alloc _).trans hx
      have a0 : w1.cell? ⟨w.heap.size, 0, none⟩ = some (.int .i64 off) := hx.keep (by simp)
      have a1 : w1.cell? ⟨w.heap.size, 1, none⟩ = some (.int .i64 every) := hx.keep (by simp)
      clear hx
      go_wp2_with fail
      refine (HT.out _).mono ?_
      rintro e w2 ⟨rfl, hx⟩
      replace X := X.trans hx
      replace a0 := hx.keep a0
      replace a1 := hx.keep a1
      clear hx
      go_wp2_with fail
      refine (S1.out _).mono ?_
      rintro e w4 ⟨rfl, hx⟩
      replace X := X.trans hx
      replace a0 := hx.keep a0
      replace a1 := hx.keep a1
      clear hx
      go_wp2_with fail
      refine (S2.out _).mono ?_
      rintro e w5 ⟨rfl, hx⟩
      replace X := X.trans hx
      replace a0 := hx.keep a0
      replace a1 := hx.keep a1
      clear hx
      go_wp2_with fail
      refine (show_yes _ _ _ _ HV.out (by omega) (by omega)).mono ?_
      rintro e w6 ⟨rfl, hx⟩
      replace X := X.trans hx
      replace a0 := hx.keep a0
      replace a1 := hx.keep a1
      clear hx
      clear a0 a1
      go_wp2_with fail
      all_goals
        first
          | (exfalso; omega)
          | (go_ret; first | exact ⟨rfl, X⟩ | exact ⟨ret_bool (by simp; omega), X⟩)
  · by_cases hu : k2 < n
    · have hh := Q5.out k2 (Nat.le_refl _) hu
      go_enter Try.func5, Try.ntmps5
      go_wp2_with fail
      refine (head_any _).mono ?_
      rintro e w1 ⟨rfl, hx⟩
      have X : Ext w w1 := ((Ext.refl _).alloc _).trans hx
      have a0 : w1.cell? ⟨w.heap.size, 0, none⟩ = some (.int .i64 off) := hx.keep (by simp)
      have a1 : w1.cell? ⟨w.heap.size, 1, none⟩ = some (.int .i64 every) := hx.keep (by simp)
      clear hx
      go_wp2_with fail
      refine (HT.out _).mono ?_
      rintro e w2 ⟨rfl, hx⟩
      replace X := X.trans hx
      replace a0 := hx.keep a0
      replace a1 := hx.keep a1
      clear hx
      go_wp2_with fail
      refine (S1.out _).mono ?_
      rintro e w4 ⟨rfl, hx⟩
      replace X := X.trans hx
      replace a0 := hx.keep a0
      replace a1 := hx.keep a1
      clear hx
      go_wp2_with fail
      refine (S2.out _).mono ?_
      rintro e w5 ⟨rfl, hx⟩
      replace X := X.trans hx
      replace a0 := hx.keep a0
      replace a1 := hx.keep a1
      clear hx
      go_wp2_with fail
      refine (show_yes _ _ _ _ HV.out (by omega) (by omega)).mono ?_
      rintro e w7 ⟨rfl, hx⟩
      replace X := X.trans hx
      replace a0 := hx.keep a0
      replace a1 := hx.keep a1
      clear hx
      clear a0 a1
      go_wp2_with fail
      all_goals
        first
          | (exfalso; omega)
          | (go_ret; first | exact ⟨rfl, X⟩ | exact ⟨ret_bool (by simp; omega), X⟩)
    · go_enter Try.func5, Try.ntmps5
      go_wp2_with fail
      refine (head_any _).mono ?_
      rintro e w1 ⟨rfl, hx⟩
      have X : Ext w w1 := ((Ext.refl _).alloc _).trans hx
      have a0 : w1.cell? ⟨w.heap.size, 0, none⟩ = some (.int .i64 off) := hx.keep (by simp)
      have a1 : w1.cell? ⟨w.heap.size, 1, none⟩ = some (.int .i64 every) := hx.keep (by simp)
      clear hx
      go_wp2_with fail
      refine (HT.out _).mono ?_
      rintro e w2 ⟨rfl, hx⟩
      replace X := X.trans hx
      replace a0 := hx.keep a0
      replace a1 := hx.keep a1
      clear hx
      go_wp2_with fail
      refine (S1.out _).mono ?_
      rintro e w4 ⟨rfl, hx⟩
      replace X := X.trans hx
      replace a0 := hx.keep a0
      replace a1 := hx.keep a1
      clear hx
      go_wp2_with fail
      refine (S2.out _).mono ?_
      rintro e w5 ⟨rfl, hx⟩
      replace X := X.trans hx
      replace a0 := hx.keep a0
      replace a1 := hx.keep a1
      clear hx
      clear a0 a1
      go_wp2_with fail
      all_goals
        first
          | (exfalso; omega)
          | (go_ret; first | exact ⟨rfl, X⟩ | exact ⟨ret_bool (by simp; omega), X⟩)

set_option maxRecDepth 100000 in
set_option maxHeartbeats 2000000 in
theorem ctimes_some_hi (off every shown t : Int) (n k1 k2 : Nat) (w : World) (hv : Clk.vld off every = true) (n1 : 1 ≤ n) (n2 : (n : Int) ≤ 20000000)
    (b1 : Bound (Clk.ge off every shown) n k1) (b2 : Bound (Clk.gt off every shown) n k2) (ht : (n : Int) ≤ t) (hk : k1 < k2) :
    Calls Try.prog 5 #[.agg #[.int .i64 off, .int .i64 every], .int .i64 shown, .int .i64 n, .int .i64 t] w fun e w' => e = .returned (.bool true) ∧ Ext w w' := by
  obtain ⟨q1, q2, q3, q4, q5⟩ := Clk.bounds_facts b1 b2
  have Q3 := Lib.hid q3
  have Q4 := Lib.hid q4
  have Q5 := Lib.hid q5
  have HV := Lib.hid hv
  have T := fun w => times_yes off every shown n k1 k2 w hv n1 n2 b1 b2
  rw [if_neg (by omega), if_neg (by omega), show (!decide (k1 = k2)) = true by simp; omega] at T
  have HT := Lib.hid T
  clear T q3 q4 q5 b1 b2 hv
  have s1 := Q4.out k1 (Nat.le_refl _) hk
  have s2 := Q4.out (k2 - 1) (by omega) (by omega)
  rw [show ((k2 - 1 : Nat) : Int) = (k2 : Int) - 1 by omega] at s2
  have fb := Clk.face_bd off every k1 HV.out (by omega) (by omega)
  rw [s1] at fb
  have S1 := Lib.hid (fun w => shows_any off every k1 shown w)
  have S2 := Lib.hid (fun w => shows_any off every ((k2 : Int) - 1) shown w)
  rw [(Clk.okT_iff _ _ _).2 ⟨HV.out, by omega, by omega⟩, s1, show decide (shown = shown) = true by simp] at S1
  rw [(Clk.okT_iff _ _ _).2 ⟨HV.out, by omega, by omega⟩, s2, show decide (shown = shown) = true by simp] at S2
  clear s1 s2
  by_cases hf : 0 < k1
  · have hl := Q3.out (k1 - 1) (by omega)
    rw [show ((k1 - 1 : Nat) : Int) = (k1 : Int) - 1 by omega] at hl
    by_cases hu : k2 < n
    · have hh := Q5.out k2 (Nat.le_refl _) hu
      go_enter Try.func5, Try.ntmps5
      go_wp2_with fail
      refine (head_any _).mono ?_
      rintro e w1 ⟨rfl, hx⟩
      have X : Ext w w1 := ((Ext.refl _).alloc _).trans hx
      have a0 : w1.cell? ⟨w.heap.size, 0, none⟩ = some (.int .i64 off) := hx.keep (by simp)
      have a1 : w1.cell? ⟨w.heap.size, 1, none⟩ = some (.int .i64 every) := hx.keep (by simp)
      clear hx
      go_wp2_with fail
      refine (HT.out _).mono ?_
      rintro e w2 ⟨rfl, hx⟩
      replace X := X.trans hx
      replace a0 := hx.keep a0
      replace a1 := hx.keep a1
      clear hx
      go_wp2_with fail
      refine (S1.out _).mono ?_
      rintro e w4 ⟨rfl, hx⟩
      replace X := X.trans hx
      replace a0 := hx.keep a0
      replace a1 := hx.keep a1
      clear hx
      go_wp2_with fail
      refine (S2.out _).mono ?_
      rintro e w5 ⟨rfl, hx⟩
      replace X := X.trans hx
      replace a0 := hx.keep a0
      replace a1 := hx.keep a1
      clear hx
      go_wp2_with fail
      refine (show_yes _ _ _ _ HV.out (by omega) (by omega)).mono ?_
      rintro e w6 ⟨rfl, hx⟩
      replace X := X.trans hx
      replace a0 := hx.keep a0
      replace a1 := hx.keep a1
      clear hx
      go_wp2_with fail
      refine (show_yes _ _ _ _ HV.out (by omega) (by omega)).mono ?_
      rintro e w7 ⟨rfl, hx⟩
      replace X := X.trans hx
      replace a0 := hx.keep a0
      replace a1 := hx.keep a1
      clear hx
      clear a0 a1
      go_wp2_with fail
      all_goals
        first
          | (exfalso; omega)
          | (go_ret; first | exact ⟨rfl, X⟩ | exact ⟨ret_bool (by simp; omega), X⟩)
    · go_enter Try.func5, Try.ntmps5
      go_wp2_with fail
      refine (head_any _).mono ?_
      rintro e w1 ⟨rfl, hx⟩
      have X : Ext w w1 := ((Ext.refl _).alloc _).trans hx
      have a0 : w1.cell? ⟨w.heap.size, 0, none⟩ = some (.int .i64 off) := hx.keep (by simp)
      have a1 : w1.cell? ⟨w.heap.size, 1, none⟩ = some (.int .i64 every) := hx.keep (by simp)
      clear hx
      go_wp2_with fail
      refine (HT.out _).mono ?_
      rintro e w2 ⟨rfl, hx⟩
      replace X := X.trans hx
      replace a0 := hx.keep a0
      replace a1 := hx.keep a1
      clear hx
      go_wp2_with fail
      refine (S1.out _).mono ?_
      rintro e w4 ⟨rfl, hx⟩
      replace X := X.trans hx
      replace a0 := hx.keep a0
      replace a1 := hx.keep a1
      clear hx
      go_wp2_with fail
      refine (S2.out _).mono ?_
      rintro e w5 ⟨rfl, hx⟩
      replace X := X.trans hx
      replace a0 := hx.keep a0
      replace a1 := hx.keep a1
      clear hx
      go_wp2_with fail
      refine (show_yes _ _ _ _ HV.out (by omega) (by omega)).mono ?_
      rintro e w6 ⟨rfl, hx⟩
      replace X := X.trans hx
      replace a0 := hx.keep a0
      replace a1 := hx.keep a1
      clear hx
      clear a0 a1
      go_wp2_with fail
      all_goals
        first
          | (exfalso; omega)
          | (go_ret; first | exact ⟨rfl, X⟩ | exact ⟨ret_bool (by simp; omega), X⟩)
  · by_cases hu : k2 < n
    · have hh := Q5.out k2 (Nat.le_refl _) hu
      go_enter Try.func5, Try.ntmps5
      go_wp2_with fail
      refine (head_any _).mono ?_
      rintro e w1 ⟨rfl, hx⟩
      have X : Ext w w1 := ((Ext.refl _).alloc _).trans hx
      have a0 : w1.cell? ⟨w.heap.size, 0, none⟩ = some (.int .i64 off) := hx.keep (by simp)
      have a1 : w1.cell? ⟨w.heap.size, 1, none⟩ = some (.int .i64 every) := hx.keep (by simp)
      clear hx
      go_wp2_with fail
      refine (HT.out _).mono ?_
      rintro e w2 ⟨rfl, hx⟩
      replace X := X.trans hx
      replace a0 := hx.keep a0
      replace a1 := hx.keep a1
      clear hx
      go_wp2_with fail
      refine (S1.out _).mono ?_
      rintro e w4 ⟨rfl, hx⟩
      replace X := X.trans hx
      replace a0 := hx.keep a0
      replace a1 := hx.keep a1
      clear hx
      go_wp2_with fail
      refine (S2.out _).mono ?_
      rintro e w5 ⟨rfl, hx⟩
      replace X := X.trans hx
      replace a0 := hx.keep a0
      replace a1 := hx.keep a1
      clear hx
      go_wp2_with fail
      refine (show_yes _ _ _ _ HV.out (by omega) (by omega)).mono ?_
      rintro e w7 ⟨rfl, hx⟩
      replace X := X.trans hx
      replace a0 := hx.keep a0
      replace a1 := hx.keep a1
      clear hx
      clear a0 a1
      go_wp2_with fail
      all_goals
        first
          | (exfalso; omega)
          | (go_ret; first | exact ⟨rfl, X⟩ | exact ⟨ret_bool (by simp; omega), X⟩)
    · go_enter Try.func5, Try.ntmps5
      go_wp2_with fail
      refine (head_any _).mono ?_
      rintro e w1 ⟨rfl, hx⟩
      have X : Ext w w1 := ((Ext.refl _).alloc _).trans hx
      have a0 : w1.cell? ⟨w.heap.size, 0, none⟩ = some (.int .i64 off) := hx.keep (by simp)
      have a1 : w1.cell? ⟨w.heap.size, 1, none⟩ = some (.int .i64 every) := hx.keep (by simp)
      clear hx
      go_wp2_with fail
      refine (HT.out _).mono ?_
      rintro e w2 ⟨rfl, hx⟩
      replace X := X.trans hx
      replace a0 := hx.keep a0
      replace a1 := hx.keep a1
      clear hx
      go_wp2_with fail
      refine (S1.out _).mono ?_
      rintro e w4 ⟨rfl, hx⟩
      replace X := X.trans hx
      replace a0 := hx.keep a0
      replace a1 := hx.keep a1
      clear hx
      go_wp2_with fail
      refine (S2.out _).mono ?_
      rintro e w5 ⟨rfl, hx⟩
      replace X := X.trans hx
      replace a0 := hx.keep a0
      replace a1 := hx.keep a1
      clear hx
      clear a0 a1
      go_wp2_with fail
      all_goals
        first
          | (exfalso; omega)
          | (go_ret; first | exact ⟨rfl, X⟩ | exact ⟨ret_bool (by simp; omega), X⟩)

set_option maxRecDepth 100000 in
set_option maxHeartbeats 2000000 in
theorem ctimes_some_l (off every shown t : Int) (n k1 k2 : Nat) (w : World) (hv : Clk.vld off every = true) (n1 : 1 ≤ n) (n2 : (n : Int) ≤ 20000000)
    (b1 : Bound (Clk.ge off every shown) n k1) (b2 : Bound (Clk.gt off every shown) n k2) (t1 : 0 ≤ t) (ht : t < k1) (hk : k1 < k2) :
    Calls Try.prog 5 #[.agg #[.int .i64 off, .int .i64 every], .int .i64 shown, .int .i64 n, .int .i64 t] w fun e w' => e = .returned (.bool true) ∧ Ext w w' := by
  obtain ⟨q1, q2, q3, q4, q5⟩ := Clk.bounds_facts b1 b2
  have Q3 := Lib.hid q3
  have Q4 := Lib.hid q4
  have Q5 := Lib.hid q5
  have HV := Lib.hid hv
  have T := fun w => times_yes off every shown n k1 k2 w hv n1 n2 b1 b2
  rw [if_neg (by omega), if_neg (by omega), show (!decide (k1 = k2)) = true by simp; omega] at T
  have HT := Lib.hid T
  clear T q3 q4 q5 b1 b2 hv
  have s1 := Q4.out k1 (Nat.le_refl _) hk
  have s2 := Q4.out (k2 - 1) (by omega) (by omega)
  rw [show ((k2 - 1 : Nat) : Int) = (k2 : Int) - 1 by omega] at s2
  have fb := Clk.face_bd off every k1 HV.out (by omega) (by omega)
  rw [s1] at fb
  have S1 := Lib.hid (fun w => shows_any off every k1 shown w)
  have S2 := Lib.hid (fun w => shows_any off every ((k2 : Int) - 1) shown w)
  rw [(Clk.okT_iff _ _ _).2 ⟨HV.out, by omega, by omega⟩, s1, show decide (shown = shown) = true by simp] at S1
  rw [(Clk.okT_iff _ _ _).2 ⟨HV.out, by omega, by omega⟩, s2, show decide (shown = shown) = true by simp] at S2
  clear s1 s2
  obtain ⟨i, rfl⟩ := Int.eq_ofNat_of_zero_le (a := t) (by omega)
  have hq := Q3.out i (by omega)
  have hb : (Clk.face off every i == shown) = false := by simp; omega
  clear hq
  by_cases hf : 0 < k1
  · have hl := Q3.out (k1 - 1) (by omega)
    rw [show ((k1 - 1 : Nat) : Int) = (k1 : Int) - 1 by omega] at hl
    by_cases hu : k2 < n
    · have hh := Q5.out k2 (Nat.le_refl _) hu
      go_enter Try.func5, Try.ntmps5
      go_wp2_with fail
      refine (head_any _).mono ?_
      rintro e w1 ⟨rfl, hx⟩
      have X : Ext w w1 := ((Ext.refl _).alloc _).trans hx
      have a0 : w1.cell? ⟨w.heap.size, 0, none⟩ = some (.int .i64 off) := hx.keep (by simp)
      have a1 : w1.cell? ⟨w.heap.size, 1, none⟩ = some (.int .i64 every) := hx.keep (by simp)
      clear hx
      go_wp2_with fail
      refine (HT.out _).mono ?_
      rintro e w2 ⟨rfl, hx⟩
      replace X := X.trans hx
      replace a0 := hx.keep a0
      replace a1 := hx.keep a1
      clear hx
      go_wp2_with fail
      refine (show_yes _ _ _ _ HV.out (by omega) (by omega)).mono ?_
      rintro e w3 ⟨rfl, hx⟩
      replace X := X.trans hx
      replace a0 := hx.keep a0
      replace a1 := hx.keep a1
      clear hx
      go_wp2_with fail
      refine (S1.out _).mono ?_
      rintro e w4 ⟨rfl, hx⟩
      replace X := X.trans hx
      replace a0 := hx.keep a0
      replace a1 := hx.keep a1
      clear hx
      go_wp2_with fail
      refine (S2.out _).mono ?_
      rintro e w5 ⟨rfl, hx⟩
      replace X := X.trans hx
      replace a0 := hx.keep a0
      replace a1 := hx.keep a1
      clear hx
      go_wp2_with fail
      refine (show_yes _ _ _ _ HV.out (by omega) (by omega)).mono ?_
      rintro e w6 ⟨rfl, hx⟩
      replace X := X.trans hx
      replace a0 := hx.keep a0
      replace a1 := hx.keep a1
      clear hx
      go_wp2_with fail
      refine (show_yes _ _ _ _ HV.out (by omega) (by omega)).mono ?_
      rintro e w7 ⟨rfl, hx⟩
      replace X := X.trans hx
      replace a0 := hx.keep a0
      replace a1 := hx.keep a1
      clear hx
      clear a0 a1
      go_wp2_with fail
      all_goals
        first
          | (exfalso; omega)
          | (go_ret; first | exact ⟨rfl, X⟩ | exact ⟨ret_bool (by simp; omega), X⟩)
    · go_enter Try.func5, Try.ntmps5
      go_wp2_with fail
      refine (head_any _).mono ?_
      rintro e w1 ⟨rfl, hx⟩
      have X : Ext w w1 := ((Ext.refl _).alloc _).trans hx
      have a0 : w1.cell? ⟨w.heap.size, 0, none⟩ = some (.int .i64 off) := hx.keep (by simp)
      have a1 : w1.cell? ⟨w.heap.size, 1, none⟩ = some (.int .i64 every) := hx.keep (by simp)
      clear hx
      go_wp2_with fail
      refine (HT.out _).mono ?_
      rintro e w2 ⟨rfl, hx⟩
      replace X := X.trans hx
      replace a0 := hx.keep a0
      replace a1 := hx.keep a1
      clear hx
      go_wp2_with fail
      refine (show_yes _ _ _ _ HV.out (by omega) (by omega)).mono ?_
      rintro e w3 ⟨rfl, hx⟩
      replace X := X.trans hx
      replace a0 := hx.keep a0
      replace a1 := hx.keep a1
      clear hx
      go_wp2_with fail
      refine (S1.out _).mono ?_
      rintro e w4 ⟨rfl, hx⟩
      replace X := X.trans hx
      replace a0 := hx.keep a0
      replace a1 := hx.keep a1
      clear hx
      go_wp2_with fail
      refine (S2.out _).mono ?_
      rintro e w5 ⟨rfl, hx⟩
      replace X := X.trans hx
      replace a0 := hx.keep a0
      replace a1 := hx.keep a1
      clear hx
      go_wp2_with fail
      refine (show_yes _ _ _ _ HV.out (by omega) (by omega)).mono ?_
      rintro e w6 ⟨rfl, hx⟩
      replace X := X.trans hx
      replace a0 := hx.keep a0
      replace a1 := hx.keep a1
      clear hx
      clear a0 a1
      go_wp2_with fail
      all_goals
        first
          | (exfalso; omega)
          | (go_ret; first | exact ⟨rfl, X⟩ | exact ⟨ret_bool (by simp; omega), X⟩)
  · exfalso; omega

set_option maxRecDepth 100000 in
set_option maxHeartbeats 2000000 in
theorem ctimes_some_m (off every shown t : Int) (n k1 k2 : Nat) (w : World) (hv : Clk.vld off every = true) (n1 : 1 ≤ n) (n2 : (n : Int) ≤ 20000000)
    (b1 : Bound (Clk.ge off every shown) n k1) (b2 : Bound (Clk.gt off every shown) n k2) (t1 : (k1 : Int) ≤ t) (ht : t < k2) (hk : k1 < k2) :
    Calls Try.prog 5 #[.agg #[.int .i64 off, .int .i64 every], .int .i64 shown, .int .i64 n, .int .i64 t] w fun e w' => e = .returned (.bool true) ∧ Ext w w' := by
  obtain ⟨q1, q2, q3, q4, q5⟩ := Clk.bounds_facts b1 b2
  have Q3 := Lib.hid q3
  have Q4 := Lib.hid q4
  have Q5 := Lib.hid q5
  have HV := Lib.hid hv
  have T := fun w => times_yes off every shown n k1 k2 w hv n1 n2 b1 b2
  rw [if_neg (by omega), if_neg (by omega), show (!decide (k1 = k2)) = true by simp; omega] at T
  have HT := Lib.hid T
  clear T q3 q4 q5 b1 b2 hv
  have s1 := Q4.out k1 (Nat.le_refl _) hk
  have s2 := Q4.out (k2 - 1) (by omega) (by omega)
  rw [show ((k2 - 1 : Nat) : Int) = (k2 : Int) - 1 by omega] at s2
  have fb := Clk.face_bd off every k1 HV.out (by omega) (by omega)
  rw [s1] at fb
  have S1 := Lib.hid (fun w => shows_any off every k1 shown w)
  have S2 := Lib.hid (fun w => shows_any off every ((k2 : Int) - 1) shown w)
  rw [(Clk.okT_iff _ _ _).2 ⟨HV.out, by omega, by omega⟩, s1, show decide (shown = shown) = true by simp] at S1
  rw [(Clk.okT_iff _ _ _).2 ⟨HV.out, by omega, by omega⟩, s2, show decide (shown = shown) = true by simp] at S2
  clear s1 s2
  obtain ⟨i, rfl⟩ := Int.eq_ofNat_of_zero_le (a := t) (by omega)
  have hq := Q4.out i (by omega) (by omega)
  have hb : (Clk.face off every i == shown) = true := by simp; omega
  clear hq
  by_cases hf : 0 < k1
  · have hl := Q3.out (k1 - 1) (by omega)
    rw [show ((k1 - 1 : Nat) : Int) = (k1 : Int) - 1 by omega] at hl
    by_cases hu : k2 < n
    · have hh := Q5.out k2 (Nat.le_refl _) hu
      go_enter Try.func5, Try.ntmps5
      go_wp2_with fail
      refine (head_any _).mono ?_
      rintro e w1 ⟨rfl, hx⟩
      have X : Ext w w1 := ((Ext.refl _).alloc _).trans hx
      have a0 : w1.cell? ⟨w.heap.size, 0, none⟩ = some (.int .i64 off) := hx.keep (by simp)
      have a1 : w1.cell? ⟨w.heap.size, 1, none⟩ = some (.int .i64 every) := hx.keep (by simp)
      clear hx
      go_wp2_with fail
      refine (HT.out _).mono ?_
      rintro e w2 ⟨rfl, hx⟩
      replace X := X.trans hx
      replace a0 := hx.keep a0
      replace a1 := hx.keep a1
      clear hx
      go_wp2_with fail
      refine (show_yes _ _ _ _ HV.out (by omega) (by omega)).mono ?_
      rintro e w3 ⟨rfl, hx⟩
      replace X := X.trans hx
      replace a0 := hx.keep a0
      replace a1 := hx.keep a1
      clear hx
      go_wp2_with fail
      refine (S1.out _).mono ?_
      rintro e w4 ⟨rfl, hx⟩
      replace X := X.trans hx
      replace a0 := hx.keep a0
      replace a1 := hx.keep a1
      clear hx
      go_wp2_with fail
      refine (S2.out _).mono ?_
      rintro e w5 ⟨rfl, hx⟩
      replace X := X.trans hx
      replace a0 := hx.keep a0
      replace a1 := hx.keep a1
      clear hx
      go_wp2_with fail
      refine (show_yes _ _ _ _ HV.out (by omega) (by omega)).mono ?_
      rintro e w6 ⟨rfl, hx⟩
      replace X := X.trans hx
      replace a0 := hx.keep a0
      replace a1 := hx.keep a1
      clear hx
      go_wp2_with fail
      refine (show_yes _ _ _ _ HV.out (by omega) (by omega)).mono ?_
      rintro e w7 ⟨rfl, hx⟩
      replace X := X.trans hx
      replace a0 := hx.keep a0
      replace a1 := hx.keep a1
      clear hx
      clear a0 a1
      go_wp2_with fail
      all_goals
        first
          | (exfalso; omega)
          | (go_ret; first | exact ⟨rfl, X⟩ | exact ⟨ret_bool (by simp; omega), X⟩)
    · go_enter Try.func5, Try.ntmps5
      go_wp2_with fail
      refine (head_any _).mono ?_
      rintro e w1 ⟨rfl, hx⟩
      have X : Ext w w1 := ((Ext.refl _).alloc _).trans hx
      have a0 : w1.cell? ⟨w.heap.size, 0, none⟩ = some (.int .i64 off) := hx.keep (by simp)
      have a1 : w1.cell? ⟨w.heap.size, 1, none⟩ = some (.int .i64 every) := hx.keep (by simp)
      clear hx
      go_wp2_with fail
      refine (HT.out _).mono ?_
      rintro e w2 ⟨rfl, hx⟩
      replace X := X.trans hx
      replace a0 := hx.keep a0
      replace a1 := hx.keep a1
      clear hx
      go_wp2_with fail
      refine (show_yes _ _ _ _ HV.out (by omega) (by omega)).mono ?_
      rintro e w3 ⟨rfl, hx⟩
      replace X := X.trans hx
      replace a0 := hx.keep a0
      replace a1 := hx.keep a1
      clear hx
      go_wp2_with fail
      refine (S1.out _).mono ?_
      rintro e w4 ⟨rfl, hx⟩
      replace X := X.trans hx
      replace a0 := hx.keep a0
      replace a1 := hx.keep a1
      clear hx
      go_wp2_with fail
      refine (S2.out _).mono ?_
      rintro e w5 ⟨rfl, hx⟩
      replace X := X.trans hx
      replace a0 := hx.keep a0
      replace a1 := hx.keep a1
      clear hx
      go_wp2_with fail
      refine (show_yes _ _ _ _ HV.out (by omega) (by omega)).mono ?_
      rintro e w6 ⟨rfl, hx⟩
      replace X := X.trans hx
      replace a0 := hx.keep a0
      replace a1 := hx.keep a1
      clear hx
      clear a0 a1
      go_wp2_with fail
      all_goals
        first
          | (exfalso; omega)
          | (go_ret; first | exact ⟨rfl, X⟩ | exact ⟨ret_bool (by simp; omega), X⟩)
  · by_cases hu : k2 < n
    · have hh := Q5.out k2 (Nat.le_refl _) hu
      go_enter Try.func5, Try.ntmps5
      go_wp2_with fail
      refine (head_any _).mono ?_
      rintro e w1 ⟨rfl, hx⟩
      have X : Ext w w1 := ((Ext.refl _).alloc _).trans hx
      have a0 : w1.cell? ⟨w.heap.size, 0, none⟩ = some (.int .i64 off) := hx.keep (by simp)
      have a1 : w1.cell? ⟨w.heap.size, 1, none⟩ = some (.int .i64 every) := hx.keep (by simp)
      clear hx
      go_wp2_with fail
      refine (HT.out _).mono ?_
      rintro e w2 ⟨rfl, hx⟩
      replace X := X.trans hx
      replace a0 := hx.keep a0
      replace a1 := hx.keep a1
      clear hx
      go_wp2_with fail
      refine (show_yes _ _ _ _ HV.out (by omega) (by omega)).mono ?_
      rintro e w3 ⟨rfl, hx⟩
      replace X := X.trans hx
      replace a0 := hx.keep a0
      replace a1 := hx.keep a1
      clear hx
      go_wp2_with fail
      refine (S1.out _).mono ?_
      rintro e w4 ⟨rfl, hx⟩
      replace X := X.trans hx
      replace a0 := hx.keep a0
      replace a1 := hx.keep a1
      clear hx
      go_wp2_with fail
      refine (S2.out _).mono ?_
      rintro e w5 ⟨rfl, hx⟩
      replace X := X.trans hx
      replace a0 := hx.keep a0
      replace a1 := hx.keep a1
      clear hx
      go_wp2_with fail
      refine (show_yes _ _ _ _ HV.out (by omega) (by omega)).mono ?_
      rintro e w7 ⟨rfl, hx⟩
      replace X := X.trans hx
      replace a0 := hx.keep a0
      replace a1 := hx.keep a1
      clear hx
      clear a0 a1
      go_wp2_with fail
      all_goals
        first
          | (exfalso; omega)
          | (go_ret; first | exact ⟨rfl, X⟩ | exact ⟨ret_bool (by simp; omega), X⟩)
    · go_enter Try.func5, Try.ntmps5
      go_wp2_with fail
      refine (head_any _).mono ?_
      rintro e w1 ⟨rfl, hx⟩
      have X : Ext w w1 := ((Ext.refl _).alloc _).trans hx
      have a0 : w1.cell? ⟨w.heap.size, 0, none⟩ = some (.int .i64 off) := hx.keep (by simp)
      have a1 : w1.cell? ⟨w.heap.size, 1, none⟩ = some (.int .i64 every) := hx.keep (by simp)
      clear hx
      go_wp2_with fail
      refine (HT.out _).mono ?_
      rintro e w2 ⟨rfl, hx⟩
      replace X := X.trans hx
      replace a0 := hx.keep a0
      replace a1 := hx.keep a1
      clear hx
      go_wp2_with fail
      refine (show_yes _ _ _ _ HV.out (by omega) (by omega)).mono ?_
      rintro e w3 ⟨rfl, hx⟩
      replace X := X.trans hx
      replace a0 := hx.keep a0
      replace a1 := hx.keep a1
      clear hx
      go_wp2_with fail
      refine (S1.out _).mono ?_
      rintro e w4 ⟨rfl, hx⟩
      replace X := X.trans hx
      replace a0 := hx.keep a0
      replace a1 := hx.keep a1
      clear hx
      go_wp2_with fail
      refine (S2.out _).mono ?_
      rintro e w5 ⟨rfl, hx⟩
      replace X := X.trans hx
      replace a0 := hx.keep a0
      replace a1 := hx.keep a1
      clear hx
      clear a0 a1
      go_wp2_with fail
      all_goals
        first
          | (exfalso; omega)
          | (go_ret; first | exact ⟨rfl, X⟩ | exact ⟨ret_bool (by simp; omega), X⟩)

set_option maxRecDepth 100000 in
set_option maxHeartbeats 2000000 in
theorem ctimes_some_h (off every shown t : Int) (n k1 k2 : Nat) (w : World) (hv : Clk.vld off every = true) (n1 : 1 ≤ n) (n2 : (n : Int) ≤ 20000000)
    (b1 : Bound (Clk.ge off every shown) n k1) (b2 : Bound (Clk.gt off every shown) n k2) (t1 : (k2 : Int) ≤ t) (ht : t < n) (hk : k1 < k2) :
    Calls Try.prog 5 #[.agg #[.int .i64 off, .int .i64 every], .int .i64 shown, .int .i64 n, .int .i64 t] w fun e w' => e = .returned (.bool true) ∧ Ext w w' := by
  obtain ⟨q1, q2, q3, q4, q5⟩ := Clk.bounds_facts b1 b2
  have Q3 := Lib.hid q3
  have Q4 := Lib.hid q4
  have Q5 := Lib.hid q5
  have HV := Lib.hid hv
  have T := fun w => times_yes off every shown n k1 k2 w hv n1 n2 b1 b2
  rw [if_neg (by omega), if_neg (by omega), show (!decide (k1 = k2)) = true by simp; omega] at T
  have HT := Lib.hid T
  clear T q3 q4 q5 b1 b2 hv
  have s1 := Q4.out k1 (Nat.le_refl _) hk
  have s2 := Q4.out (k2 - 1) (by omega) (by omega)
  rw [show ((k2 - 1 : Nat) : Int) = (k2 : Int) - 1 by omega] at s2
  have fb := Clk.face_bd off every k1 HV.out (by omega) (by omega)
  rw [s1] at fb
  have S1 := Lib.hid (fun w => shows_any off every k1 shown w)
  have S2 := Lib.hid (fun w => shows_any off every ((k2 : Int) - 1) shown w)
  rw [(Clk.okT_iff _ _ _).2 ⟨HV.out, by omega, by omega⟩, s1, show decide (shown = shown) = true by simp] at S1
  rw [(Clk.okT_iff _ _ _).2 ⟨HV.out, by omega, by omega⟩, s2, show decide (shown = shown) = true by simp] at S2
  clear s1 s2
  obtain ⟨i, rfl⟩ := Int.eq_ofNat_of_zero_le (a := t) (by omega)
  have hq := Q5.out i (by omega) (by omega)
  have hb : (Clk.face off every i == shown) = false := by simp; omega
  clear hq
  by_cases hf : 0 < k1
  · have hl := Q3.out (k1 - 1) (by omega)
    rw [show ((k1 - 1 : Nat) : Int) = (k1 : Int) - 1 by omega] at hl
    by_cases hu : k2 < n
    · have hh := Q5.out k2 (Nat.le_refl _) hu
      go_enter Try.func5, Try.ntmps5
      go_wp2_with fail
      refine (head_any _).mono ?_
      rintro e w1 ⟨rfl, hx⟩
      have X : Ext w w1 := ((Ext.refl _).alloc _).trans hx
      have a0 : w1.cell? ⟨w.heap.size, 0, none⟩ = some (.int .i64 off) := hx.keep (by simp)
      have a1 : w1.cell? ⟨w.heap.size, 1, none⟩ = some (.int .i64 every) := hx.keep (by simp)
      clear hx
      go_wp2_with fail
      refine (HT.out _).mono ?_
      rintro e w2 ⟨rfl, hx⟩
      replace X := X.trans hx
      replace a0 := hx.keep a0
      replace a1 := hx.keep a1
      clear hx
      go_wp2_with fail
      refine (show_yes _ _ _ _ HV.out (by omega) (by omega)).mono ?_
      rintro e w3 ⟨rfl, hx⟩
      replace X := X.trans hx
      replace a0 := hx.keep a0
      replace a1 := hx.keep a1
      clear hx
      go_wp2_with fail
      refine (S1.out _).mono ?_
      rintro e w4 ⟨rfl, hx⟩
      replace X := X.trans hx
      replace a0 := hx.keep a0
      replace a1 := hx.keep a1
      clear hx
      go_wp2_with fail
      refine (S2.out _).mono ?_
      rintro e w5 ⟨rfl, hx⟩
      replace X := X.trans hx
      replace a0 := hx.keep a0
      replace a1 := hx.keep a1
      clear hx
      go_wp2_with fail
      refine (show_yes _ _ _ _ HV.out (by omega) (by omega)).mono ?_
      rintro e w6 ⟨rfl, hx⟩
      replace X := X.trans hx
      replace a0 := hx.keep a0
      replace a1 := hx.keep a1
      clear hx
      go_wp2_with fail
      refine (show_yes _ _ _ _ HV.out (by omega) (by omega)).mono ?_
      rintro e w7 ⟨rfl, hx⟩
      replace X := X.trans hx
      replace a0 := hx.keep a0
      replace a1 := hx.keep a1
      clear hx
      clear a0 a1
      go_wp2_with fail
      all_goals
        first
          | (exfalso; omega)
          | (go_ret; first | exact ⟨rfl, X⟩ | exact ⟨ret_bool (by simp; omega), X⟩)
    · exfalso; omega
  · by_cases hu : k2 < n
    · have hh := Q5.out k2 (Nat.le_refl _) hu
      go_enter Try.func5, Try.ntmps5
      go_wp2_with fail
      refine (head_any _).mono ?_
      rintro e w1 ⟨rfl, hx⟩
      have X : Ext w w1 := ((Ext.refl _).alloc _).trans hx
      have a0 : w1.cell? ⟨w.heap.size, 0, none⟩ = some (.int .i64 off) := hx.keep (by simp)
      have a1 : w1.cell? ⟨w.heap.size, 1, none⟩ = some (.int .i64 every) := hx.keep (by simp)
      clear hx
      go_wp2_with fail
      refine (HT.out _).mono ?_
      rintro e w2 ⟨rfl, hx⟩
      replace X := X.trans hx
      replace a0 := hx.keep a0
      replace a1 := hx.keep a1
      clear hx
      go_wp2_with fail
      refine (show_yes _ _ _ _ HV.out (by omega) (by omega)).mono ?_
      rintro e w3 ⟨rfl, hx⟩
      replace X := X.trans hx
      replace a0 := hx.keep a0
      replace a1 := hx.keep a1
      clear hx
      go_wp2_with fail
      refine (S1.out _).mono ?_
      rintro e w4 ⟨rfl, hx⟩
      replace X := X.trans hx
      replace a0 := hx.keep a0
      replace a1 := hx.keep a1
      clear hx
      go_wp2_with fail
      refine (S2.out _).mono ?_
      rintro e w5 ⟨rfl, hx⟩
      replace X := X.trans hx
      replace a0 := hx.keep a0
      replace a1 := hx.keep a1
      clear hx
      go_wp2_with fail
      refine (show_yes _ _ _ _ HV.out (by omega) (by omega)).mono ?_
      rintro e w7 ⟨rfl, hx⟩
      replace X := X.trans hx
      replace a0 := hx.keep a0
      replace a1 := hx.keep a1
      clear hx
      clear a0 a1
      go_wp2_with fail
      all_goals
        first
          | (exfalso; omega)
          | (go_ret; first | exact ⟨rfl, X⟩ | exact ⟨ret_bool (by simp; omega), X⟩)
    · exfalso; omega

theorem ctimes_any (off every shown n t : Int) (w : World) (_l_every : -9223372036854775808 ≤ every) (_u_every : every ≤ 9223372036854775807) (_l_shown : -9223372036854775808 ≤ shown) (_u_shown : shown ≤ 9223372036854775807) (_l_n : -9223372036854775808 ≤ n) (_u_n : n ≤ 9223372036854775807) (_l_t : -9223372036854775808 ≤ t) (_u_t : t ≤ 9223372036854775807) :
    Calls Try.prog 5 #[.agg #[.int .i64 off, .int .i64 every], .int .i64 shown, .int .i64 n, .int .i64 t] w fun e w' => e = .returned (.bool true) ∧ Ext w w' := by
  by_cases hb : Clk.vld off every = false ∨ Clk.isEnd n = false
  · exact ctimes_no off every shown n t w _l_every _u_every hb
  · have hv : Clk.vld off every = true := by simp at hb; exact hb.1
    have hn : Clk.isEnd n = true := by simp at hb; exact hb.2
    simp only [Clk.isEnd, decide_eq_true_eq] at hn
    obtain ⟨m, rfl⟩ := Int.eq_ofNat_of_zero_le (a := n) (by omega)
    obtain ⟨k1, k2, b1, b2⟩ := Clk.bounds off every shown m hv
    obtain ⟨q1, q2, _, _, _⟩ := Clk.bounds_facts b1 b2
    by_cases hk : k1 = k2
    · by_cases h1 : t < 0
      · exact ctimes_none_lo off every shown t m k1 k2 w hv (by omega) hn.2 b1 b2 h1 hk
      · by_cases h2 : (m : Int) ≤ t
        · exact ctimes_none_hi off every shown t m k1 k2 w hv (by omega) hn.2 b1 b2 h2 hk
        · by_cases h3 : t < k1
          · exact ctimes_none_l off every shown t m k1 k2 w hv (by omega) hn.2 b1 b2 (by omega) h3 hk
          · exact ctimes_none_h off every shown t m k1 k2 w hv (by omega) hn.2 b1 b2 (by omega) (by omega) hk
    · have hk' : k1 < k2 := by omega
      by_cases h1 : t < 0
      · exact ctimes_some_lo off every shown t m k1 k2 w hv (by omega) hn.2 b1 b2 h1 hk'
      · by_cases h2 : (m : Int) ≤ t
        · exact ctimes_some_hi off every shown t m k1 k2 w hv (by omega) hn.2 b1 b2 h2 hk'
        · by_cases h3 : t < k1
          · exact ctimes_some_l off every shown t m k1 k2 w hv (by omega) hn.2 b1 b2 (by omega) h3 hk'
          · by_cases h4 : t < k2
            · exact ctimes_some_m off every shown t m k1 k2 w hv (by omega) hn.2 b1 b2 (by omega) h4 hk'
            · exact ctimes_some_h off every shown t m k1 k2 w hv (by omega) hn.2 b1 b2 (by omega) (by omega) hk'

open Go.ChangeShapes Go.WideShapes Go.ChangeAt Go.Joins in
set_option maxRecDepth 100000 in
theorem ctimes_lifted (os : Os) (started : os.Started) (H : Type) (enc : TypeId × Value → H) :
    ReturnsInHanded {} Try.checked os 5 .any (Rows.clockTimesSpec.pre6 enc Try.prog Try.f5 Rows.clockTimesRow.domain false) (Rows.clockTimesSpec.post enc Try.prog Try.f5 false true false false) := by
  refine returnsInHanded_of_change (C := Try.checked) Try.own started (by kernel_rfl) Try.func5
    (ChangeSpec.witness6 (enc := enc) (C := Try.checked) false ⟨#[], #[.agg #[.int .i64 0, .int .i64 0], .int .i64 0, .int .i64 0, .int .i64 0], []⟩ 8 (by kernel_rfl) (by kernel_rfl) (by kernel_rfl) (by kernel_rfl)) ?_
  intro W base args ds gs before hval0 hW _ _
  have hval : ∀ (j : Nat) t v, Try.f5.params[j]? = some t → args[j]? = some v → Value.okWide Try.prog W .any base t v := hval0
  have hW' := hW
  obtain ⟨p, q, hA0, hV, rfl, hfz, hnd⟩ := hW
  have hA : DataW.TrodAll enc Try.prog W 0 (fun _ => true) true Try.f5.params.toList args.toList ds p := hA0
  rw [Try.params5] at hA hval
  obtain ⟨v0, vs0, d0, ds0, p0, q0, hargs, rfl, rfl, h0, r0⟩ := trodAll_cons hA
  obtain ⟨v1, vs1, d1, ds1, p1, q1, rfl, rfl, rfl, h1, r1⟩ := trodAll_cons r0
  obtain ⟨v2, vs2, d2, ds2, p2, q2, rfl, rfl, rfl, h2, r2⟩ := trodAll_cons r1
  obtain ⟨v3, vs3, d3, ds3, p3, q3, rfl, rfl, rfl, h3, r3⟩ := trodAll_cons r2
  obtain ⟨rfl, rfl, rfl⟩ := trodAll_nil r3
  obtain rfl : args = #[v0, v1, v2, v3] := by cases args; simp_all
  obtain ⟨c0, c1, y0, y1, m, rfl, rfl, rfl, hy0, hy1⟩ := open_agg2 Try.underlying23 (by kernel_rfl) (by kernel_rfl) (hval 0 23 v0 rfl rfl) h0
  obtain ⟨off, e0, rfl, wa⟩ := DataW.trod_int Try.underlying3 hy0
  obtain ⟨every, e1, rfl, wb⟩ := DataW.trod_int Try.underlying3 hy1
  simp at e0 e1
  subst e0 e1
  have gb := bounds_i64 wb
  obtain ⟨n1, rfl, rfl, rfl, wt1⟩ := open_int Try.underlying3 (hval 1 3 v1 rfl rfl) h1
  have gb1 := bounds_i64 wt1
  obtain ⟨n2, rfl, rfl, rfl, wt2⟩ := open_int Try.underlying3 (hval 2 3 v2 rfl rfl) h2
  have gb2 := bounds_i64 wt2
  obtain ⟨n3, rfl, rfl, rfl, wt3⟩ := open_int Try.underlying3 (hval 3 3 v3 rfl rfl) h3
  have gb3 := bounds_i64 wt3
  refine (ctimes_any off every n1 n2 n3 W (by omega) (by omega) (by omega) (by omega) (by omega) (by omega) (by omega) (by omega)).mono fun e W' ⟨he, hx⟩ => ?_
  subst he
  exact ⟨_, rfl, law_post Try.laidOut (by rw [Try.params5]; intro t ht; simp at ht; rcases ht with rfl | rfl <;> exact ⟨by kernel_rfl, of_decide_eq_true (by kernel_rfl)⟩) rfl rfl Try.underlying4 rfl rfl rfl hW' hx⟩

theorem ctimes_holds : Rows.ClockTimesSaid :=
  OpenClaim.holds_of_wide 5 Try.f5 rfl rfl rfl rfl rfl rfl rfl ⟨rfl, rfl, rfl, rfl, rfl⟩ rfl rfl rfl rfl rfl (by kernel_rfl) Try.func5 (by kernel_rfl)
    (of_decide_eq_true (by kernel_rfl)) (by unfold Func.isWrapper; first | (rw [if_pos (by decide +kernel)]; kernel_rfl) | (rw [if_neg (by decide +kernel)]; exact ⟨rfl, rfl⟩))
    (fun os started H enc _ => ctimes_lifted os started H enc)

end Go.Proofs.Ytfgjeihchgfnnaa
