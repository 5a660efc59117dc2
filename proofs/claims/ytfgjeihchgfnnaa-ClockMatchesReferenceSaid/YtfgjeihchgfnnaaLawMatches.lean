/- ClockMatchesReference: for any clock and numbers the law returns true: all functions of package clock return what the reference returns. No conditions. -/
import Derived.Test.YtfgjeihchgfnnaaClk4
import Derived.Test.YtfgjeihchgfnnaaLaw
import Derived.Lib.SmallJoins
namespace Go.Proofs.Ytfgjeihchgfnnaa
open Go.RowKit

set_option maxRecDepth 100000 in
set_option maxHeartbeats 1000000 in
theorem matches_few (off every t shown drift n : Int) (w : World) (_l_every : -9223372036854775808 ≤ every) (_u_every : every ≤ 9223372036854775807)  (hf : Clk.few n = false) :
    Calls Try.prog 3 #[.agg #[.int .i64 off, .int .i64 every], .int .i64 t, .int .i64 shown, .int .i64 drift, .int .i64 n] w fun e w' => e = .returned (.bool true) ∧ Ext w w' := by
  have HF := Lib.hid hf
  clear hf
  go_enter Try.func3, Try.ntmps3
  go_wp2_with fail
  refine (head_any _).mono ?_
  rintro e w1 ⟨rfl, hx⟩
  have X : Ext w w1 := ((Ext.refl _).alloc _).trans hx
  have a0 : w1.cell? ⟨w.heap.size, 0, none⟩ = some (.int .i64 off) := hx.keep (by simp)
  have a1 : w1.cell? ⟨w.heap.size, 1, none⟩ = some (.int .i64 every) := hx.keep (by simp)
  clear hx
  go_wp2_with fail
  refine (few_any _ _).mono ?_
  rintro e w' ⟨rfl, rfl⟩
  rw [HF.out]
  clear a0 a1
  go_wp2_with fail
  all_goals
    first
      | (exfalso; omega)
      | (go_ret; first | exact ⟨rfl, X⟩ | exact ⟨ret_bool (by simp; omega), X⟩)

set_option maxRecDepth 100000 in
set_option maxHeartbeats 1000000 in
theorem matches_bad (off every t shown drift n : Int) (w : World) (_l_every : -9223372036854775808 ≤ every) (_u_every : every ≤ 9223372036854775807)  (hf : Clk.few n = true) (hv : Clk.vld off every = false ∨ Clk.isEnd n = false) (hw : Clk.okW off every drift n = false) :
    Calls Try.prog 3 #[.agg #[.int .i64 off, .int .i64 every], .int .i64 t, .int .i64 shown, .int .i64 drift, .int .i64 n] w fun e w' => e = .returned (.bool true) ∧ Ext w w' := by
  have HF := Lib.hid hf
  have HV := Lib.hid hv
  have HW := Lib.hid hw
  clear hf hv hw
  go_enter Try.func3, Try.ntmps3
  go_wp2_with fail
  refine (head_any _).mono ?_
  rintro e w1 ⟨rfl, hx⟩
  have X : Ext w w1 := ((Ext.refl _).alloc _).trans hx
  have a0 : w1.cell? ⟨w.heap.size, 0, none⟩ = some (.int .i64 off) := hx.keep (by simp)
  have a1 : w1.cell? ⟨w.heap.size, 1, none⟩ = some (.int .i64 every) := hx.keep (by simp)
  clear hx
  go_wp2_with fail
  refine (few_any _ _).mono ?_
  rintro e w' ⟨rfl, rfl⟩
  rw [HF.out]
  go_wp2_with fail
  refine (show_any _ _ _ _).mono ?_
  rintro e w2 ⟨rfl, hx⟩
  replace X := X.trans hx
  replace a0 := hx.keep a0
  replace a1 := hx.keep a1
  clear hx
  go_wp2_with fail
  refine (rshow_any _ _ _ _ _l_every _u_every).mono ?_
  rintro e w3 ⟨rfl, hx⟩
  replace X := X.trans hx
  replace a0 := hx.keep a0
  replace a1 := hx.keep a1
  clear hx
  go_wp2_with fail
  refine (times_no _ _ _ _ _ HV.out).mono ?_
  rintro e w4 ⟨rfl, hx⟩
  replace X := X.trans hx
  replace a0 := hx.keep a0
  replace a1 := hx.keep a1
  clear hx
  go_wp2_with fail
  refine (rtimes_no _ _ _ _ _ _l_every _u_every HV.out).mono ?_
  rintro e w5 ⟨rfl, hx⟩
  replace X := X.trans hx
  replace a0 := hx.keep a0
  replace a1 := hx.keep a1
  clear hx
  go_wp2_with fail
  refine (within_no _ _ _ _ _ HW.out).mono ?_
  rintro e w6 ⟨rfl, hx⟩
  replace X := X.trans hx
  replace a0 := hx.keep a0
  replace a1 := hx.keep a1
  clear hx
  go_wp2_with fail
  refine (rwithin_no _ _ _ _ _ _l_every _u_every HW.out).mono ?_
  rintro e w7 ⟨rfl, hx⟩
  replace X := X.trans hx
  replace a0 := hx.keep a0
  replace a1 := hx.keep a1
  clear hx
  go_wp2_with fail
  go_region_held3 (fun w' => w'.cell? ⟨w.heap.size, 0, none⟩ = some (.int .i64 off) ∧ w'.cell? ⟨w.heap.size, 1, none⟩ = some (.int .i64 every)) (first | go_keep | (go_split_ands; exact ⟨hx.keep (by assumption), hx.keep (by assumption)⟩))
    (first | (go_at_call 17; refine (valid_any _ _ _).mono ?_; rintro e w8 ⟨rfl, hx⟩; have X8 := (X.drew).trans hx) | (go_at_call 18; refine (rvalid_any _ _ _ _l_every _u_every).mono ?_; rintro e w9 ⟨rfl, hx⟩; have X9 := X8.trans hx))
  go_wp2_with fail
  go_ret
  exact ⟨rfl, X9⟩

set_option maxRecDepth 100000 in
set_option maxHeartbeats 1000000 in
theorem matches_half (off every t shown drift : Int) (n k1 k2 : Nat) (w : World) (_l_every : -9223372036854775808 ≤ every) (_u_every : every ≤ 9223372036854775807) (hf : Clk.few n = true) (hv : Clk.vld off every = true) (n1 : 1 ≤ n) (n2 : (n : Int) ≤ 20000000)
    (b1 : Bound (Clk.ge off every shown) n k1) (b2 : Bound (Clk.gt off every shown) n k2) (hw : Clk.okW off every drift n = false) :
    Calls Try.prog 3 #[.agg #[.int .i64 off, .int .i64 every], .int .i64 t, .int .i64 shown, .int .i64 drift, .int .i64 n] w fun e w' => e = .returned (.bool true) ∧ Ext w w' := by
  have HF := Lib.hid hf
  have HV := Lib.hid hv
  have T := fun w => times_yes off every shown n k1 k2 w hv n1 n2 b1 b2
  have R := fun w => rtimes_yes off every shown n k1 k2 w hv _l_every _u_every n1 n2 b1 b2
  generalize (if k1 = k2 then (0 : Int) else (k1 : Int)) = A at T R
  generalize (if k1 = k2 then (0 : Int) else (k2 : Int)) = B at T R
  generalize (!decide (k1 = k2)) = C at T R
  have HT := Lib.hid T
  have HR := Lib.hid R
  clear T R hf hv b1 b2
  have HW := Lib.hid hw
  clear hw
  go_enter Try.func3, Try.ntmps3
  go_wp2_with fail
  refine (head_any _).mono ?_
  rintro e w1 ⟨rfl, hx⟩
  have X : Ext w w1 := ((Ext.refl _).alloc _).trans hx
  have a0 : w1.cell? ⟨w.heap.size, 0, none⟩ = some (.int .i64 off) := hx.keep (by simp)
  have a1 : w1.cell? ⟨w.heap.size, 1, none⟩ = some (.int .i64 every) := hx.keep (by simp)
  clear hx
  go_wp2_with fail
  refine (few_any _ _).mono ?_
  rintro e w' ⟨rfl, rfl⟩
  rw [HF.out]
  go_wp2_with fail
  refine (show_any _ _ _ _).mono ?_
  rintro e w2 ⟨rfl, hx⟩
  replace X := X.trans hx
  replace a0 := hx.keep a0
  replace a1 := hx.keep a1
  clear hx
  go_wp2_with fail
  refine (rshow_any _ _ _ _ _l_every _u_every).mono ?_
  rintro e w3 ⟨rfl, hx⟩
  replace X := X.trans hx
  replace a0 := hx.keep a0
  replace a1 := hx.keep a1
  clear hx
  go_wp2_with fail
  refine (HT.out _).mono ?_
  rintro e w4 ⟨rfl, hx⟩
  replace X := X.trans hx
  replace a0 := hx.keep a0
  replace a1 := hx.keep a1
  clear hx
  go_wp2_with fail
  refine (HR.out _).mono ?_
  rintro e w5 ⟨rfl, hx⟩
  replace X := X.trans hx
  replace a0 := hx.keep a0
  replace a1 := hx.keep a1
  clear hx
  go_wp2_with fail
  refine (within_no _ _ _ _ _ HW.out).mono ?_
  rintro e w6 ⟨rfl, hx⟩
  replace X := X.trans hx
  replace a0 := hx.keep a0
  replace a1 := hx.keep a1
  clear hx
  go_wp2_with fail
  refine (rwithin_no _ _ _ _ _ _l_every _u_every HW.out).mono ?_
  rintro e w7 ⟨rfl, hx⟩
  replace X := X.trans hx
  replace a0 := hx.keep a0
  replace a1 := hx.keep a1
  clear hx
  go_wp2_with fail
  go_region_held3 (fun w' => w'.cell? ⟨w.heap.size, 0, none⟩ = some (.int .i64 off) ∧ w'.cell? ⟨w.heap.size, 1, none⟩ = some (.int .i64 every)) (first | go_keep | (go_split_ands; exact ⟨hx.keep (by assumption), hx.keep (by assumption)⟩))
    (first | (go_at_call 17; refine (valid_any _ _ _).mono ?_; rintro e w8 ⟨rfl, hx⟩; have X8 := (X.drew).trans hx) | (go_at_call 18; refine (rvalid_any _ _ _ _l_every _u_every).mono ?_; rintro e w9 ⟨rfl, hx⟩; have X9 := X8.trans hx))
  go_wp2_with fail
  go_ret
  exact ⟨rfl, X9⟩

set_option maxRecDepth 100000 in
set_option maxHeartbeats 1000000 in
theorem matches_good (off every t shown drift : Int) (n k1 k2 : Nat) (w : World) (_l_every : -9223372036854775808 ≤ every) (_u_every : every ≤ 9223372036854775807) (hf : Clk.few n = true) (hv : Clk.vld off every = true) (n1 : 1 ≤ n) (n2 : (n : Int) ≤ 20000000)
    (b1 : Bound (Clk.ge off every shown) n k1) (b2 : Bound (Clk.gt off every shown) n k2) (d1 : 0 ≤ drift) (d2 : drift ≤ 1000) :
    Calls Try.prog 3 #[.agg #[.int .i64 off, .int .i64 every], .int .i64 t, .int .i64 shown, .int .i64 drift, .int .i64 n] w fun e w' => e = .returned (.bool true) ∧ Ext w w' := by
  have HF := Lib.hid hf
  have HV := Lib.hid hv
  have T := fun w => times_yes off every shown n k1 k2 w hv n1 n2 b1 b2
  have R := fun w => rtimes_yes off every shown n k1 k2 w hv _l_every _u_every n1 n2 b1 b2
  generalize (if k1 = k2 then (0 : Int) else (k1 : Int)) = A at T R
  generalize (if k1 = k2 then (0 : Int) else (k2 : Int)) = B at T R
  generalize (!decide (k1 = k2)) = C at T R
  have HT := Lib.hid T
  have HR := Lib.hid R
  clear T R hf hv b1 b2
  go_enter Try.func3, Try.ntmps3
  go_wp2_with fail
  refine (head_any _).mono ?_
  rintro e w1 ⟨rfl, hx⟩
  have X : Ext w w1 := ((Ext.refl _).alloc _).trans hx
  have a0 : w1.cell? ⟨w.heap.size, 0, none⟩ = some (.int .i64 off) := hx.keep (by simp)
  have a1 : w1.cell? ⟨w.heap.size, 1, none⟩ = some (.int .i64 every) := hx.keep (by simp)
  clear hx
  go_wp2_with fail
  refine (few_any _ _).mono ?_
  rintro e w' ⟨rfl, rfl⟩
  rw [HF.out]
  go_wp2_with fail
  refine (show_any _ _ _ _).mono ?_
  rintro e w2 ⟨rfl, hx⟩
  replace X := X.trans hx
  replace a0 := hx.keep a0
  replace a1 := hx.keep a1
  clear hx
  go_wp2_with fail
  refine (rshow_any _ _ _ _ _l_every _u_every).mono ?_
  rintro e w3 ⟨rfl, hx⟩
  replace X := X.trans hx
  replace a0 := hx.keep a0
  replace a1 := hx.keep a1
  clear hx
  go_wp2_with fail
  refine (HT.out _).mono ?_
  rintro e w4 ⟨rfl, hx⟩
  replace X := X.trans hx
  replace a0 := hx.keep a0
  replace a1 := hx.keep a1
  clear hx
  go_wp2_with fail
  refine (HR.out _).mono ?_
  rintro e w5 ⟨rfl, hx⟩
  replace X := X.trans hx
  replace a0 := hx.keep a0
  replace a1 := hx.keep a1
  clear hx
  go_wp2_with fail
  refine (within_yes _ _ _ _ _ HV.out d1 d2 (by omega) n2).mono ?_
  rintro e w6 ⟨rfl, hx⟩
  replace X := X.trans hx
  replace a0 := hx.keep a0
  replace a1 := hx.keep a1
  clear hx
  go_wp2_with fail
  refine (rwithin_yes _ _ _ _ _ HV.out _l_every _u_every d1 d2 n1 n2).mono ?_
  rintro e w7 ⟨rfl, hx⟩
  replace X := X.trans hx
  replace a0 := hx.keep a0
  replace a1 := hx.keep a1
  clear hx
  rw [Clk.all_ends off every drift n HV.out n1]
  go_wp2_with fail
  go_region_held3 (fun w' => w'.cell? ⟨w.heap.size, 0, none⟩ = some (.int .i64 off) ∧ w'.cell? ⟨w.heap.size, 1, none⟩ = some (.int .i64 every)) (first | go_keep | (go_split_ands; exact ⟨hx.keep (by assumption), hx.keep (by assumption)⟩))
    (first | (go_at_call 17; refine (valid_any _ _ _).mono ?_; rintro e w8 ⟨rfl, hx⟩; have X8 := (X.drew).trans hx) | (go_at_call 18; refine (rvalid_any _ _ _ _l_every _u_every).mono ?_; rintro e w9 ⟨rfl, hx⟩; have X9 := X8.trans hx))
  go_wp2_with fail
  go_ret
  exact ⟨rfl, X9⟩

theorem matches_any (off every t shown drift n : Int) (w : World) (_l_every : -9223372036854775808 ≤ every) (_u_every : every ≤ 9223372036854775807) (_l_t : -9223372036854775808 ≤ t) (_u_t : t ≤ 9223372036854775807) (_l_shown : -9223372036854775808 ≤ shown) (_u_shown : shown ≤ 9223372036854775807) (_l_drift : -9223372036854775808 ≤ drift) (_u_drift : drift ≤ 9223372036854775807) (_l_n : -9223372036854775808 ≤ n) (_u_n : n ≤ 9223372036854775807) :
    Calls Try.prog 3 #[.agg #[.int .i64 off, .int .i64 every], .int .i64 t, .int .i64 shown, .int .i64 drift, .int .i64 n] w fun e w' => e = .returned (.bool true) ∧ Ext w w' := by
  cases hf : Clk.few n
  · exact matches_few off every t shown drift n w _l_every _u_every hf
  · by_cases hb : Clk.vld off every = false ∨ Clk.isEnd n = false
    · refine matches_bad off every t shown drift n w _l_every _u_every hf hb ?_
      rcases hb with h | h <;> simp [Clk.okW, h]
    · have hv : Clk.vld off every = true := by simp at hb; exact hb.1
      have hn : Clk.isEnd n = true := by simp at hb; exact hb.2
      simp only [Clk.isEnd, decide_eq_true_eq] at hn
      obtain ⟨m, rfl⟩ := Int.eq_ofNat_of_zero_le (a := n) (by omega)
      obtain ⟨k1, k2, b1, b2⟩ := Clk.bounds off every shown m hv
      by_cases hd : 0 ≤ drift ∧ drift ≤ 1000
      · exact matches_good off every t shown drift m k1 k2 w _l_every _u_every hf hv (by omega) hn.2 b1 b2 hd.1 hd.2
      · refine matches_half off every t shown drift m k1 k2 w _l_every _u_every hf hv (by omega) hn.2 b1 b2 ?_
        rw [Clk.okW_not]; omega

open Go.ChangeShapes Go.WideShapes Go.ChangeAt Go.Joins in
set_option maxRecDepth 100000 in
theorem matches_lifted (os : Os) (started : os.Started) (H : Type) (enc : TypeId × Value → H) :
    ReturnsInHanded {} Try.checked os 3 .any (Rows.clockMatchesReferenceSpec.pre6 enc Try.prog Try.f3 Rows.clockMatchesReferenceRow.domain false) (Rows.clockMatchesReferenceSpec.post enc Try.prog Try.f3 false true false false) := by
  refine returnsInHanded_of_change (C := Try.checked) Try.own started (by kernel_rfl) Try.func3
    (ChangeSpec.witness6 (enc := enc) (C := Try.checked) false ⟨#[], #[.agg #[.int .i64 0, .int .i64 0], .int .i64 0, .int .i64 0, .int .i64 0, .int .i64 0], []⟩ 8 (by kernel_rfl) (by kernel_rfl) (by kernel_rfl) (by kernel_rfl)) ?_
  intro W base args ds gs before hval0 hW _ _
  have hval : ∀ (j : Nat) t v, Try.f3.params[j]? = some t → args[j]? = some v → Value.okWide Try.prog W .any base t v := hval0
  have hW' := hW
  obtain ⟨p, q, hA0, hV, rfl, hfz, hnd⟩ := hW
  have hA : DataW.TrodAll enc Try.prog W 0 (fun _ => true) true Try.f3.params.toList args.toList ds p := hA0
  rw [Try.params3] at hA hval
  obtain ⟨v0, vs0, d0, ds0, p0, q0, hargs, rfl, rfl, h0, r0⟩ := trodAll_cons hA
  obtain ⟨v1, vs1, d1, ds1, p1, q1, rfl, rfl, rfl, h1, r1⟩ := trodAll_cons r0
  obtain ⟨v2, vs2, d2, ds2, p2, q2, rfl, rfl, rfl, h2, r2⟩ := trodAll_cons r1
  obtain ⟨v3, vs3, d3, ds3, p3, q3, rfl, rfl, rfl, h3, r3⟩ := trodAll_cons r2
  obtain ⟨v4, vs4, d4, ds4, p4, q4, rfl, rfl, rfl, h4, r4⟩ := trodAll_cons r3
  obtain ⟨rfl, rfl, rfl⟩ := trodAll_nil r4
  obtain rfl : args = #[v0, v1, v2, v3, v4] := by cases args; simp_all
  obtain ⟨c0, c1, y0, y1, m, rfl, rfl, rfl, hy0, hy1⟩ := open_agg2 Try.underlying23 (by kernel_rfl) (by kernel_rfl) (hval 0 23 v0 rfl rfl) h0
  obtain ⟨off, e0, rfl, wa⟩ := DataW.trod_int Try.underlying3 hy0
  obtain ⟨every, e1, rfl, wb⟩ := DataW.trod_int Try.underlying3 hy1
  simp at e0 e1
  subst e0 e1
  have gb := bounds_i64 wb
  obtain ⟨n1, rfl, rfl, rfl, wt1⟩ := open_int Try.underlying3 (hval 1 3 v1 rfl rfl) h1
  have gb1 := bounds_i64 wt1
  obtain ⟨n2, rfl, rfl, rfl, wt2⟩ := open_int Try.underlying3 (hval 2 3 v2 rfl rfl) h2
  have gb2 := bounds_i64 wt2
  obtain ⟨n3, rfl, rfl, rfl, wt3⟩ := open_int Try.underlying3 (hval 3 3 v3 rfl rfl) h3
  have gb3 := bounds_i64 wt3
  obtain ⟨n4, rfl, rfl, rfl, wt4⟩ := open_int Try.underlying3 (hval 4 3 v4 rfl rfl) h4
  have gb4 := bounds_i64 wt4
  refine (matches_any off every n1 n2 n3 n4 W (by omega) (by omega) (by omega) (by omega) (by omega) (by omega) (by omega) (by omega) (by omega) (by omega)).mono fun e W' ⟨he, hx⟩ => ?_
  subst he
  exact ⟨_, rfl, law_post Try.laidOut (by rw [Try.params3]; intro t ht; simp at ht; rcases ht with rfl | rfl <;> exact ⟨by kernel_rfl, of_decide_eq_true (by kernel_rfl)⟩) rfl rfl Try.underlying4 rfl rfl rfl hW' hx⟩

theorem matches_holds : Rows.ClockMatchesReferenceSaid :=
  OpenClaim.holds_of_wide 3 Try.f3 rfl rfl rfl rfl rfl rfl rfl ⟨rfl, rfl, rfl, rfl, rfl⟩ rfl rfl rfl rfl rfl (by kernel_rfl) Try.func3 (by kernel_rfl)
    (of_decide_eq_true (by kernel_rfl)) (by unfold Func.isWrapper; first | (rw [if_pos (by decide +kernel)]; kernel_rfl) | (rw [if_neg (by decide +kernel)]; exact ⟨rfl, rfl⟩))
    (fun os started H enc _ => matches_lifted os started H enc)

end Go.Proofs.Ytfgjeihchgfnnaa
