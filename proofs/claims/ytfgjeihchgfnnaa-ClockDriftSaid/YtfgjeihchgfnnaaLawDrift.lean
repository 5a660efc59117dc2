/- ClockDrift: for any clock, drift, end and times the law returns true: a clock that is within a drift is so at each time, within each greater drift and before each earlier end. No conditions. -/
import Derived.Test.YtfgjeihchgfnnaaClk4
import Derived.Test.YtfgjeihchgfnnaaLaw
import Derived.Lib.SmallJoins
namespace Go.Proofs.Ytfgjeihchgfnnaa
open Go.RowKit

set_option maxRecDepth 100000 in
set_option maxHeartbeats 400000 in
theorem drift1_any (off every t : Int) (b : Nat) (w : World) (hv : Clk.vld off every = true) (h1 : 0 ≤ t) (h2 : t ≤ 20000000) (c0 : w.cell? ⟨b, 0, none⟩ = some (.int .i64 off)) (c1 : w.cell? ⟨b, 1, none⟩ = some (.int .i64 every)) :
    Calls Try.prog 20 #[.int .i64 t, .pointer (some ⟨b, 0, none⟩)] w fun e w' => e = .returned (.int .i64 (Clk.abs (Clk.face off every t - t))) ∧ Ext w w' := by
  have fb := Clk.face_bd off every t hv h1 h2
  go_enter Try.func20, Try.ntmps20
  go_wp2_with fail
  refine (show_yes _ _ _ _ hv h1 h2).mono ?_
  rintro e w1 ⟨rfl, hx⟩
  go_wp2_with fail
  refine (abs_any _ _ (by omega) (by omega)).mono ?_
  rintro e w' ⟨rfl, rfl⟩
  go_wp2_with fail
  go_ret
  exact ⟨rfl, hx⟩

theorem Clk.abs_wrong (off every drift t : Int) (h : Clk.wrong off every drift t = true) : drift < Clk.abs (Clk.face off every t - t) := by
  rw [Clk.wrong_iff] at h; rw [Clk.abs_gt]; omega
theorem Clk.abs_right (off every drift t : Int) (h : Clk.wrong off every drift t = false) : Clk.abs (Clk.face off every t - t) ≤ drift ∧ 0 ≤ Clk.abs (Clk.face off every t - t) := by
  rw [Clk.wrong_not] at h; unfold Clk.abs; split <;> omega
theorem Clk.wider (off every drift more t : Int) (h : Clk.wrong off every drift t = false) (hm : drift ≤ more) : Clk.wrong off every more t = false := by
  rw [Clk.wrong_not] at *; omega

set_option maxRecDepth 100000 in
set_option maxHeartbeats 1000000 in
theorem drift_no (off every drift n t more earlier : Int) (w : World) (_l_every : -9223372036854775808 ≤ every) (_u_every : every ≤ 9223372036854775807)  (hw : Clk.okW off every drift n = false) :
    Calls Try.prog 6 #[.agg #[.int .i64 off, .int .i64 every], .int .i64 drift, .int .i64 n, .int .i64 t, .int .i64 more, .int .i64 earlier] w fun e w' => e = .returned (.bool true) ∧ Ext w w' := by
  have HW := Lib.hid hw
  clear hw
  go_enter Try.func6, Try.ntmps6
  go_wp2_with fail
  refine (head_any _).mono ?_
  rintro e w1 ⟨rfl, hx⟩
  have X : Ext w w1 := ((Ext.refl _).alloc _).trans hx
  have a0 : w1.cell? ⟨w.heap.size, 0, none⟩ = some (.int .i64 off) := hx.keep (by simp)
  have a1 : w1.cell? ⟨w.heap.size, 1, none⟩ = some (.int .i64 every) := hx.keep (by simp)
  clear hx
  go_wp2_with fail
  refine (within_no _ _ _ _ _ HW.out).mono ?_
  rintro e w2 ⟨rfl, hx⟩
  replace X := X.trans hx
  replace a0 := hx.keep a0
  replace a1 := hx.keep a1
  clear hx
  clear a0 a1
  go_wp2_with fail
  all_goals
    first
      | (exfalso; omega)
      | (go_ret; first | exact ⟨rfl, X⟩ | exact ⟨ret_bool (by simp; omega), X⟩)

set_option maxRecDepth 100000 in
set_option maxHeartbeats 1000000 in
theorem drift_out (off every drift n t more earlier : Int) (w : World) (_l_every : -9223372036854775808 ≤ every) (_u_every : every ≤ 9223372036854775807)  (hv : Clk.vld off every = true) (d1 : 0 ≤ drift) (d2 : drift ≤ 1000) (n1 : 1 ≤ n) (n2 : n ≤ 20000000) (hin : (!Clk.wrong off every drift 0 && !Clk.wrong off every drift (n - 1)) = false) :
    Calls Try.prog 6 #[.agg #[.int .i64 off, .int .i64 every], .int .i64 drift, .int .i64 n, .int .i64 t, .int .i64 more, .int .i64 earlier] w fun e w' => e = .returned (.bool true) ∧ Ext w w' := by
  have HV := Lib.hid hv
  have HI := Lib.hid hin
  clear hv
  cases h0 : Clk.wrong off every drift 0
  · have h9 : Clk.wrong off every drift (n - 1) = true := by simpa [h0] using hin
    have k0 := (Clk.abs_right _ _ _ _ h0).1
    rw [Int.sub_zero] at k0
    have k9 := Clk.abs_wrong _ _ _ _ h9
    clear hin h0 h9
    go_enter Try.func6, Try.ntmps6
    go_wp2_with fail
    refine (head_any _).mono ?_
    rintro e w1 ⟨rfl, hx⟩
    have X : Ext w w1 := ((Ext.refl _).alloc _).trans hx
    have a0 : w1.cell? ⟨w.heap.size, 0, none⟩ = some (.int .i64 off) := hx.keep (by simp)
    have a1 : w1.cell? ⟨w.heap.size, 1, none⟩ = some (.int .i64 every) := hx.keep (by simp)
    clear hx
    go_wp2_with fail
    refine (within_yes _ _ _ _ _ HV.out d1 d2 n1 n2).mono ?_
    rintro e w2 ⟨rfl, hx⟩
    replace X := X.trans hx
    replace a0 := hx.keep a0
    replace a1 := hx.keep a1
    clear hx
    rw [HI.out]
    go_wp2_with fail
    refine (drift1_any off every _ _ _ HV.out (by omega) (by omega) a0 a1).mono ?_
    rintro e w3 ⟨rfl, hx⟩
    replace X := X.trans hx
    replace a0 := hx.keep a0
    replace a1 := hx.keep a1
    clear hx
    go_wp2_with fail
    refine (drift1_any off every _ _ _ HV.out (by omega) (by omega) a0 a1).mono ?_
    rintro e w4 ⟨rfl, hx⟩
    replace X := X.trans hx
    replace a0 := hx.keep a0
    replace a1 := hx.keep a1
    clear hx
    clear a0 a1
    go_wp2_with fail
    all_goals
      first
        | (exfalso; omega)
        | (go_ret; first | exact ⟨rfl, X⟩ | exact ⟨ret_bool (by simp; omega), X⟩)
  · have k0 := Clk.abs_wrong _ _ _ _ h0
    rw [Int.sub_zero] at k0
    clear hin h0
    go_enter Try.func6, Try.ntmps6
    go_wp2_with fail
    refine (head_any _).mono ?_
    rintro e w1 ⟨rfl, hx⟩
    have X : Ext w w1 := ((Ext.refl _).alloc _).trans hx
    have a0 : w1.cell? ⟨w.heap.size, 0, none⟩ = some (.int .i64 off) := hx.keep (by simp)
    have a1 : w1.cell? ⟨w.heap.size, 1, none⟩ = some (.int .i64 every) := hx.keep (by simp)
    clear hx
    go_wp2_with fail
    refine (within_yes _ _ _ _ _ HV.out d1 d2 n1 n2).mono ?_
    rintro e w2 ⟨rfl, hx⟩
    replace X := X.trans hx
    replace a0 := hx.keep a0
    replace a1 := hx.keep a1
    clear hx
    rw [HI.out]
    go_wp2_with fail
    refine (drift1_any off every _ _ _ HV.out (by omega) (by omega) a0 a1).mono ?_
    rintro e w3 ⟨rfl, hx⟩
    replace X := X.trans hx
    replace a0 := hx.keep a0
    replace a1 := hx.keep a1
    clear hx
    clear a0 a1
    go_wp2_with fail
    all_goals
      first
        | (exfalso; omega)
        | (go_ret; first | exact ⟨rfl, X⟩ | exact ⟨ret_bool (by simp; omega), X⟩)

set_option maxRecDepth 100000 in
set_option maxHeartbeats 2000000 in
theorem drift_in0 (off every drift n t more earlier : Int) (w : World) (_l_every : -9223372036854775808 ≤ every) (_u_every : every ≤ 9223372036854775807)  (hv : Clk.vld off every = true) (d1 : 0 ≤ drift) (d2 : drift ≤ 1000) (n1 : 1 ≤ n) (n2 : n ≤ 20000000) (hin : (!Clk.wrong off every drift 0 && !Clk.wrong off every drift (n - 1)) = true) (ht : ¬ (0 ≤ t ∧ t < n)) :
    Calls Try.prog 6 #[.agg #[.int .i64 off, .int .i64 every], .int .i64 drift, .int .i64 n, .int .i64 t, .int .i64 more, .int .i64 earlier] w fun e w' => e = .returned (.bool true) ∧ Ext w w' := by
  have HV := Lib.hid hv
  have HI := Lib.hid hin
  simp only [Bool.and_eq_true, Bool.not_eq_true'] at hin
  obtain ⟨w0, w9⟩ := hin
  have W0 := Lib.hid w0
  have W9 := Lib.hid w9
  clear hv w0 w9
  by_cases hm : drift ≤ more ∧ more ≤ 1000
  · obtain ⟨m1, m2⟩ := hm
    have M := Lib.hid (fun w => within_yes off every more n w HV.out (by omega) m2 n1 n2)
    rw [Clk.wider _ _ _ _ _ W0.out m1, Clk.wider _ _ _ _ _ W9.out m1] at M
    by_cases he : 1 ≤ earlier ∧ earlier ≤ n
    · obtain ⟨e1, e2⟩ := he
      have E := Lib.hid (fun w => within_yes off every drift earlier w HV.out d1 d2 e1 (by omega))
      rw [W0.out, Clk.ends off every drift n (earlier - 1) HV.out W0.out W9.out (by omega) (by omega)] at E
      go_enter Try.func6, Try.ntmps6
      go_wp2_with fail
      refine (head_any _).mono ?_
      rintro e w1 ⟨rfl, hx⟩
      have X : Ext w w1 := ((Ext.refl _).alloc _).trans hx
      have a0 : w1.cell? ⟨w.heap.size, 0, none⟩ = some (.int .i64 off) := hx.keep (by simp)
      have a1 : w1.cell? ⟨w.heap.size, 1, none⟩ = some (.int .i64 every) := hx.keep (by simp)
      clear hx
      go_wp2_with fail
      refine (within_yes _ _ _ _ _ HV.out d1 d2 n1 n2).mono ?_
      rintro e w2 ⟨rfl, hx⟩
      replace X := X.trans hx
      replace a0 := hx.keep a0
      replace a1 := hx.keep a1
      clear hx
      rw [HI.out]
      go_wp2_with (first | (go_at_call 15; (with_reducible refine (M.out _).mono ?_); rintro e wi ⟨rfl, hx⟩; replace X := X.trans hx; replace a0 := hx.keep a0; replace a1 := hx.keep a1; clear hx) | (go_at_call 15; (with_reducible refine (E.out _).mono ?_); rintro e wi ⟨rfl, hx⟩; replace X := X.trans hx; replace a0 := hx.keep a0; replace a1 := hx.keep a1; clear hx))
      all_goals
        first
          | (exfalso; omega)
          | (go_ret; exact ⟨rfl, X⟩)
    · rw [Decidable.not_and_iff_or_not] at he
      go_enter Try.func6, Try.ntmps6
      go_wp2_with fail
      refine (head_any _).mono ?_
      rintro e w1 ⟨rfl, hx⟩
      have X : Ext w w1 := ((Ext.refl _).alloc _).trans hx
      have a0 : w1.cell? ⟨w.heap.size, 0, none⟩ = some (.int .i64 off) := hx.keep (by simp)
      have a1 : w1.cell? ⟨w.heap.size, 1, none⟩ = some (.int .i64 every) := hx.keep (by simp)
      clear hx
      go_wp2_with fail
      refine (within_yes _ _ _ _ _ HV.out d1 d2 n1 n2).mono ?_
      rintro e w2 ⟨rfl, hx⟩
      replace X := X.trans hx
      replace a0 := hx.keep a0
      replace a1 := hx.keep a1
      clear hx
      rw [HI.out]
      go_wp2_with (first | (go_at_call 15; (with_reducible refine (M.out _).mono ?_); rintro e wi ⟨rfl, hx⟩; replace X := X.trans hx; replace a0 := hx.keep a0; replace a1 := hx.keep a1; clear hx))
      all_goals
        first
          | (exfalso; omega)
          | (go_ret; exact ⟨rfl, X⟩)
  · rw [Decidable.not_and_iff_or_not] at hm
    by_cases he : 1 ≤ earlier ∧ earlier ≤ n
    · obtain ⟨e1, e2⟩ := he
      have E := Lib.hid (fun w => within_yes off every drift earlier w HV.out d1 d2 e1 (by omega))
      rw [W0.out, Clk.ends off every drift n (earlier - 1) HV.out W0.out W9.out (by omega) (by omega)] at E
      go_enter Try.func6, Try.ntmps6
      go_wp2_with fail
      refine (head_any _).mono ?_
      rintro e w1 ⟨rfl, hx⟩
      have X : Ext w w1 := ((Ext.refl _).alloc _).trans hx
      have a0 : w1.cell? ⟨w.heap.size, 0, none⟩ = some (.int .i64 off) := hx.keep (by simp)
      have a1 : w1.cell? ⟨w.heap.size, 1, none⟩ = some (.int .i64 every) := hx.keep (by simp)
      clear hx
      go_wp2_with fail
      refine (within_yes _ _ _ _ _ HV.out d1 d2 n1 n2).mono ?_
      rintro e w2 ⟨rfl, hx⟩
      replace X := X.trans hx
      replace a0 := hx.keep a0
      replace a1 := hx.keep a1
      clear hx
      rw [HI.out]
      go_wp2_with (first | (go_at_call 15; (with_reducible refine (E.out _).mono ?_); rintro e wi ⟨rfl, hx⟩; replace X := X.trans hx; replace a0 := hx.keep a0; replace a1 := hx.keep a1; clear hx))
      all_goals
        first
          | (exfalso; omega)
          | (go_ret; exact ⟨rfl, X⟩)
    · rw [Decidable.not_and_iff_or_not] at he
      go_enter Try.func6, Try.ntmps6
      go_wp2_with fail
      refine (head_any _).mono ?_
      rintro e w1 ⟨rfl, hx⟩
      have X : Ext w w1 := ((Ext.refl _).alloc _).trans hx
      have a0 : w1.cell? ⟨w.heap.size, 0, none⟩ = some (.int .i64 off) := hx.keep (by simp)
      have a1 : w1.cell? ⟨w.heap.size, 1, none⟩ = some (.int .i64 every) := hx.keep (by simp)
      clear hx
      go_wp2_with fail
      refine (within_yes _ _ _ _ _ HV.out d1 d2 n1 n2).mono ?_
      rintro e w2 ⟨rfl, hx⟩
      replace X := X.trans hx
      replace a0 := hx.keep a0
      replace a1 := hx.keep a1
      clear hx
      rw [HI.out]
      go_wp2_with fail
      all_goals
        first
          | (exfalso; omega)
          | (go_ret; exact ⟨rfl, X⟩)

set_option maxRecDepth 100000 in
set_option maxHeartbeats 2000000 in
theorem drift_in1 (off every drift n t more earlier : Int) (w : World) (_l_every : -9223372036854775808 ≤ every) (_u_every : every ≤ 9223372036854775807)  (hv : Clk.vld off every = true) (d1 : 0 ≤ drift) (d2 : drift ≤ 1000) (n1 : 1 ≤ n) (n2 : n ≤ 20000000) (hin : (!Clk.wrong off every drift 0 && !Clk.wrong off every drift (n - 1)) = true) (ht : 0 ≤ t ∧ t < n) :
    Calls Try.prog 6 #[.agg #[.int .i64 off, .int .i64 every], .int .i64 drift, .int .i64 n, .int .i64 t, .int .i64 more, .int .i64 earlier] w fun e w' => e = .returned (.bool true) ∧ Ext w w' := by
  have HV := Lib.hid hv
  have HI := Lib.hid hin
  simp only [Bool.and_eq_true, Bool.not_eq_true'] at hin
  obtain ⟨w0, w9⟩ := hin
  have W0 := Lib.hid w0
  have W9 := Lib.hid w9
  clear hv w0 w9
  obtain ⟨t1, t2⟩ := ht
  obtain ⟨k1, k2⟩ := Clk.abs_right _ _ _ _ (Clk.ends off every drift n t HV.out W0.out W9.out t1 t2)
  by_cases hm : drift ≤ more ∧ more ≤ 1000
  · obtain ⟨m1, m2⟩ := hm
    have M := Lib.hid (fun w => within_yes off every more n w HV.out (by omega) m2 n1 n2)
    rw [Clk.wider _ _ _ _ _ W0.out m1, Clk.wider _ _ _ _ _ W9.out m1] at M
    by_cases he : 1 ≤ earlier ∧ earlier ≤ n
    · obtain ⟨e1, e2⟩ := he
      have E := Lib.hid (fun w => within_yes off every drift earlier w HV.out d1 d2 e1 (by omega))
      rw [W0.out, Clk.ends off every drift n (earlier - 1) HV.out W0.out W9.out (by omega) (by omega)] at E
      go_enter Try.func6, Try.ntmps6
      go_wp2_with fail
      refine (head_any _).mono ?_
      rintro e w1 ⟨rfl, hx⟩
      have X : Ext w w1 := ((Ext.refl _).alloc _).trans hx
      have a0 : w1.cell? ⟨w.heap.size, 0, none⟩ = some (.int .i64 off) := hx.keep (by simp)
      have a1 : w1.cell? ⟨w.heap.size, 1, none⟩ = some (.int .i64 every) := hx.keep (by simp)
      clear hx
      go_wp2_with fail
      refine (within_yes _ _ _ _ _ HV.out d1 d2 n1 n2).mono ?_
      rintro e w2 ⟨rfl, hx⟩
      replace X := X.trans hx
      replace a0 := hx.keep a0
      replace a1 := hx.keep a1
      clear hx
      rw [HI.out]
      go_wp2_with fail
      refine (drift1_any off every _ _ _ HV.out (by omega) (by omega) a0 a1).mono ?_
      rintro e w3 ⟨rfl, hx⟩
      replace X := X.trans hx
      replace a0 := hx.keep a0
      replace a1 := hx.keep a1
      clear hx
      go_wp2_with fail
      refine (drift1_any off every _ _ _ HV.out (by omega) (by omega) a0 a1).mono ?_
      rintro e w4 ⟨rfl, hx⟩
      replace X := X.trans hx
      replace a0 := hx.keep a0
      replace a1 := hx.keep a1
      clear hx
      go_wp2_with (first | (go_at_call 15; (with_reducible refine (M.out _).mono ?_); rintro e wi ⟨rfl, hx⟩; replace X := X.trans hx; replace a0 := hx.keep a0; replace a1 := hx.keep a1; clear hx) | (go_at_call 15; (with_reducible refine (E.out _).mono ?_); rintro e wi ⟨rfl, hx⟩; replace X := X.trans hx; replace a0 := hx.keep a0; replace a1 := hx.keep a1; clear hx))
      all_goals
        first
          | (exfalso; omega)
          | (go_ret; exact ⟨rfl, X⟩)
    · rw [Decidable.not_and_iff_or_not] at he
      go_enter Try.func6, Try.ntmps6
      go_wp2_with fail
      refine (head_any _).mono ?_
      rintro e w1 ⟨rfl, hx⟩
      have X : Ext w w1 := ((Ext.refl _).alloc _).trans hx
      have a0 : w1.cell? ⟨w.heap.size, 0, none⟩ = some (.int .i64 off) := hx.keep (by simp)
      have a1 : w1.cell? ⟨w.heap.size, 1, none⟩ = some (.int .i64 every) := hx.keep (by simp)
      clear hx
      go_wp2_with fail
      refine (within_yes _ _ _ _ _ HV.out d1 d2 n1 n2).mono ?_
      rintro e w2 ⟨rfl, hx⟩
      replace X := X.trans hx
      replace a0 := hx.keep a0
      replace a1 := hx.keep a1
      clear hx
      rw [HI.out]
      go_wp2_with fail
      refine (drift1_any off every _ _ _ HV.out (by omega) (by omega) a0 a1).mono ?_
      rintro e w3 ⟨rfl, hx⟩
      replace X := X.trans hx
      replace a0 := hx.keep a0
      replace a1 := hx.keep a1
      clear hx
      go_wp2_with fail
      refine (drift1_any off every _ _ _ HV.out (by omega) (by omega) a0 a1).mono ?_
      rintro e w4 ⟨rfl, hx⟩
      replace X := X.trans hx
      replace a0 := hx.keep a0
      replace a1 := hx.keep a1
      clear hx
      go_wp2_with (first | (go_at_call 15; (with_reducible refine (M.out _).mono ?_); rintro e wi ⟨rfl, hx⟩; replace X := X.trans hx; replace a0 := hx.keep a0; replace a1 := hx.keep a1; clear hx))
      all_goals
        first
          | (exfalso; omega)
          | (go_ret; exact ⟨rfl, X⟩)
  · rw [Decidable.not_and_iff_or_not] at hm
    by_cases he : 1 ≤ earlier ∧ earlier ≤ n
    · obtain ⟨e1, e2⟩ := he
      have E := Lib.hid (fun w => within_yes off every drift earlier w HV.out d1 d2 e1 (by omega))
      rw [W0.out, Clk.ends off every drift n (earlier - 1) HV.out W0.out W9.out (by omega) (by omega)] at E
      go_enter Try.func6, Try.ntmps6
      go_wp2_with fail
      refine (head_any _).mono ?_
      rintro e w1 ⟨rfl, hx⟩
      have X : Ext w w1 := ((Ext.refl _).alloc _).trans hx
      have a0 : w1.cell? ⟨w.heap.size, 0, none⟩ = some (.int .i64 off) := hx.keep (by simp)
      have a1 : w1.cell? ⟨w.heap.size, 1, none⟩ = some (.int .i64 every) := hx.keep (by simp)
      clear hx
      go_wp2_with fail
      refine (within_yes _ _ _ _ _ HV.out d1 d2 n1 n2).mono ?_
      rintro e w2 ⟨rfl, hx⟩
      replace X := X.trans hx
      replace a0 := hx.keep a0
      replace a1 := hx.keep a1
      clear hx
      rw [HI.out]
      go_wp2_with fail
      refine (drift1_any off every _ _ _ HV.out (by omega) (by omega) a0 a1).mono ?_
      rintro e w3 ⟨rfl, hx⟩
      replace X := X.trans hx
      replace a0 := hx.keep a0
      replace a1 := hx.keep a1
      clear hx
      go_wp2_with fail
      refine (drift1_any off every _ _ _ HV.out (by omega) (by omega) a0 a1).mono ?_
      rintro e w4 ⟨rfl, hx⟩
      replace X := X.trans hx
      replace a0 := hx.keep a0
      replace a1 := hx.keep a1
      clear hx
      go_wp2_with (first | (go_at_call 15; (with_reducible refine (E.out _).mono ?_); rintro e wi ⟨rfl, hx⟩; replace X := X.trans hx; replace a0 := hx.keep a0; replace a1 := hx.keep a1; clear hx))
      all_goals
        first
          | (exfalso; omega)
          | (go_ret; exact ⟨rfl, X⟩)
    · rw [Decidable.not_and_iff_or_not] at he
      go_enter Try.func6, Try.ntmps6
      go_wp2_with fail
      refine (head_any _).mono ?_
      rintro e w1 ⟨rfl, hx⟩
      have X : Ext w w1 := ((Ext.refl _).alloc _).trans hx
      have a0 : w1.cell? ⟨w.heap.size, 0, none⟩ = some (.int .i64 off) := hx.keep (by simp)
      have a1 : w1.cell? ⟨w.heap.size, 1, none⟩ = some (.int .i64 every) := hx.keep (by simp)
      clear hx
      go_wp2_with fail
      refine (within_yes _ _ _ _ _ HV.out d1 d2 n1 n2).mono ?_
      rintro e w2 ⟨rfl, hx⟩
      replace X := X.trans hx
      replace a0 := hx.keep a0
      replace a1 := hx.keep a1
      clear hx
      rw [HI.out]
      go_wp2_with fail
      refine (drift1_any off every _ _ _ HV.out (by omega) (by omega) a0 a1).mono ?_
      rintro e w3 ⟨rfl, hx⟩
      replace X := X.trans hx
      replace a0 := hx.keep a0
      replace a1 := hx.keep a1
      clear hx
      go_wp2_with fail
      refine (drift1_any off every _ _ _ HV.out (by omega) (by omega) a0 a1).mono ?_
      rintro e w4 ⟨rfl, hx⟩
      replace X := X.trans hx
      replace a0 := hx.keep a0
      replace a1 := hx.keep a1
      clear hx
      go_wp2_with fail
      all_goals
        first
          | (exfalso; omega)
          | (go_ret; exact ⟨rfl, X⟩)

theorem drift_any (off every drift n t more earlier : Int) (w : World) (_l_every : -9223372036854775808 ≤ every) (_u_every : every ≤ 9223372036854775807) (_l_drift : -9223372036854775808 ≤ drift) (_u_drift : drift ≤ 9223372036854775807) (_l_n : -9223372036854775808 ≤ n) (_u_n : n ≤ 9223372036854775807) (_l_t : -9223372036854775808 ≤ t) (_u_t : t ≤ 9223372036854775807) (_l_more : -9223372036854775808 ≤ more) (_u_more : more ≤ 9223372036854775807) (_l_earlier : -9223372036854775808 ≤ earlier) (_u_earlier : earlier ≤ 9223372036854775807) :
    Calls Try.prog 6 #[.agg #[.int .i64 off, .int .i64 every], .int .i64 drift, .int .i64 n, .int .i64 t, .int .i64 more, .int .i64 earlier] w fun e w' => e = .returned (.bool true) ∧ Ext w w' := by
  cases hw : Clk.okW off every drift n
  · exact drift_no off every drift n t more earlier w _l_every _u_every hw
  · obtain ⟨hv, d1, d2, n1, n2⟩ := (Clk.okW_iff _ _ _ _).1 hw
    cases hin : (!Clk.wrong off every drift 0 && !Clk.wrong off every drift (n - 1))
    · exact drift_out off every drift n t more earlier w _l_every _u_every hv d1 d2 n1 n2 hin
    · by_cases ht : 0 ≤ t ∧ t < n
      · exact drift_in1 off every drift n t more earlier w _l_every _u_every hv d1 d2 n1 n2 hin ht
      · exact drift_in0 off every drift n t more earlier w _l_every _u_every hv d1 d2 n1 n2 hin ht

open Go.ChangeShapes Go.WideShapes Go.ChangeAt Go.Joins in
set_option maxRecDepth 100000 in
theorem drift_lifted (os : Os) (started : os.Started) (H : Type) (enc : TypeId × Value → H) :
    ReturnsInHanded {} Try.checked os 6 .any (Rows.clockDriftSpec.pre6 enc Try.prog Try.f6 Rows.clockDriftRow.domain false) (Rows.clockDriftSpec.post enc Try.prog Try.f6 false true false false) := by
  refine returnsInHanded_of_change (C := Try.checked) Try.own started (by kernel_rfl) Try.func6
    (ChangeSpec.witness6 (enc := enc) (C := Try.checked) false ⟨#[], #[.agg #[.int .i64 0, .int .i64 0], .int .i64 0, .int .i64 0, .int .i64 0, .int .i64 0, .int .i64 0], []⟩ 8 (by kernel_rfl) (by kernel_rfl) (by kernel_rfl) (by kernel_rfl)) ?_
  intro W base args ds gs before hval0 hW _ _
  have hval : ∀ (j : Nat) t v, Try.f6.params[j]? = some t → args[j]? = some v → Value.okWide Try.prog W .any base t v := hval0
  have hW' := hW
  obtain ⟨p, q, hA0, hV, rfl, hfz, hnd⟩ := hW
  have hA : DataW.TrodAll enc Try.prog W 0 (fun _ => true) true Try.f6.params.toList args.toList ds p := hA0
  rw [Try.params6] at hA hval
  obtain ⟨v0, vs0, d0, ds0, p0, q0, hargs, rfl, rfl, h0, r0⟩ := trodAll_cons hA
  obtain ⟨v1, vs1, d1, ds1, p1, q1, rfl, rfl, rfl, h1, r1⟩ := trodAll_cons r0
  obtain ⟨v2, vs2, d2, ds2, p2, q2, rfl, rfl, rfl, h2, r2⟩ := trodAll_cons r1
  obtain ⟨v3, vs3, d3, ds3, p3, q3, rfl, rfl, rfl, h3, r3⟩ := trodAll_cons r2
  obtain ⟨v4, vs4, d4, ds4, p4, q4, rfl, rfl, rfl, h4, r4⟩ := trodAll_cons r3
  obtain ⟨v5, vs5, d5, ds5, p5, q5, rfl, rfl, rfl, h5, r5⟩ := trodAll_cons r4
  obtain ⟨rfl, rfl, rfl⟩ := trodAll_nil r5
  obtain rfl : args = #[v0, v1, v2, v3, v4, v5] := by cases args; simp_all
  obtain ⟨c0, c1, y0, y1, m, rfl, rfl, rfl, hy0, hy1⟩ := open_agg2 Try.underlying23 (by kernel_rfl) (by kernel_rfl) (hval 0 23 v0 rfl rfl) h0
  obtain ⟨off, e0, rfl, wa⟩ := DataW.trod_int Try.underlying3 hy0
  obtain ⟨every, e1, rfl, wb⟩ := DataW.trod_int Try.underlying3 hy1
  simp at e0 e1
  subst e0 e1
  have gb := bounds_i64 wb
  obtain ⟨n1, rfl, rfl, rfl, wt1⟩ := open_int Try.underlying3 (hval 1 3 v1 rfl rfl) h1
  have gb1 := bounds_i64 wt1
  obtain ⟨n2, rfl, rfl, rfl, wt2⟩ := open_int Try.underlying3 (hval 2 3 v2 rfl rfl) h2
  have gb2 := bounds_i64 wt2
  obtain ⟨n3, rfl, rfl, rfl, wt3⟩ := open_int Try.underlying3 (hval 3 3 v3 rfl rfl) h3
  have gb3 := bounds_i64 wt3
  obtain ⟨n4, rfl, rfl, rfl, wt4⟩ := open_int Try.underlying3 (hval 4 3 v4 rfl rfl) h4
  have gb4 := bounds_i64 wt4
  obtain ⟨n5, rfl, rfl, rfl, wt5⟩ := open_int Try.underlying3 (hval 5 3 v5 rfl rfl) h5
  have gb5 := bounds_i64 wt5
  refine (drift_any off every n1 n2 n3 n4 n5 W (by omega) (by omega) (by omega) (by omega) (by omega) (by omega) (by omega) (by omega) (by omega) (by omega) (by omega) (by omega)).mono fun e W' ⟨he, hx⟩ => ?_
  subst he
  exact ⟨_, rfl, law_post Try.laidOut (by rw [Try.params6]; intro t ht; simp at ht; rcases ht with rfl | rfl <;> exact ⟨by kernel_rfl, of_decide_eq_true (by kernel_rfl)⟩) rfl rfl Try.underlying4 rfl rfl rfl hW' hx⟩

theorem drift_holds : Rows.ClockDriftSaid :=
  OpenClaim.holds_of_wide 6 Try.f6 rfl rfl rfl rfl rfl rfl rfl ⟨rfl, rfl, rfl, rfl, rfl⟩ rfl rfl rfl rfl rfl (by kernel_rfl) Try.func6 (by kernel_rfl)
    (of_decide_eq_true (by kernel_rfl)) (by unfold Func.isWrapper; first | (rw [if_pos (by decide +kernel)]; kernel_rfl) | (rw [if_neg (by decide +kernel)]; exact ⟨rfl, rfl⟩))
    (fun os started H enc _ => drift_lifted os started H enc)

end Go.Proofs.Ytfgjeihchgfnnaa
