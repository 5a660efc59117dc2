/- ClockRight: for any clock, drift, number and end the law returns true: a clock that is within a drift shows a number only at times that differ from it by at most the drift. No conditions. -/
import Derived.Test.YtfgjeihchgfnnaaClk4
import Derived.Test.YtfgjeihchgfnnaaLaw
import Derived.Lib.SmallJoins
namespace Go.Proofs.Ytfgjeihchgfnnaa
open Go.RowKit

/-- Times returns something, whatever it is called with. -/
def Clk.SomeTimes (w : World) (e : Ending) (w' : World) : Prop := ∃ (a b d : Int) (c : Bool), e = .returned (.tuple #[.int .i64 a, .int .i64 b, .bool c, .int .i64 d]) ∧ Ext w w'
theorem times_some (off every shown n : Int) (w : World) : Calls Try.prog 13 #[.agg #[.int .i64 off, .int .i64 every], .int .i64 shown, .int .i64 n] w (Clk.SomeTimes w) := by
  cases hv : Clk.vld off every
  · exact (times_no off every shown n w (.inl hv)).mono fun _ _ ⟨he, hx⟩ => ⟨_, _, _, _, he, hx⟩
  · cases hn : Clk.isEnd n
    · exact (times_no off every shown n w (.inr hn)).mono fun _ _ ⟨he, hx⟩ => ⟨_, _, _, _, he, hx⟩
    · have h := hn
      simp only [Clk.isEnd, decide_eq_true_eq] at h
      obtain ⟨m, rfl⟩ := Int.eq_ofNat_of_zero_le (a := n) (by omega)
      obtain ⟨k1, k2, b1, b2⟩ := Clk.bounds off every shown m hv
      exact (times_yes off every shown m k1 k2 w hv (by omega) (by omega) b1 b2).mono fun _ _ ⟨he, hx⟩ => ⟨_, _, _, _, he, hx⟩

set_option maxRecDepth 100000 in
set_option maxHeartbeats 1000000 in
theorem right_no (off every drift shown n : Int) (w : World) (_l_every : -9223372036854775808 ≤ every) (_u_every : every ≤ 9223372036854775807)  (hw : Clk.okW off every drift n = false) :
    Calls Try.prog 8 #[.agg #[.int .i64 off, .int .i64 every], .int .i64 drift, .int .i64 shown, .int .i64 n] w fun e w' => e = .returned (.bool true) ∧ Ext w w' := by
  go_enter Try.func8, Try.ntmps8
  go_wp2_with fail
  refine (head_any _).mono ?_
  rintro e w1 ⟨rfl, hx⟩
  have X : Ext w w1 := ((Ext.refl _).alloc _).trans hx
  have a0 : w1.cell? ⟨w.heap.size, 0, none⟩ = some (.int .i64 off) := hx.keep (by simp)
  have a1 : w1.cell? ⟨w.heap.size, 1, none⟩ = some (.int .i64 every) := hx.keep (by simp)
  clear hx
  go_wp2_with fail
  refine (within_no _ _ _ _ _ hw).mono ?_
  rintro e w2 ⟨rfl, hx⟩
  replace X := X.trans hx
  replace a0 := hx.keep a0
  replace a1 := hx.keep a1
  clear hx
  go_wp2_with fail
  refine (times_some _ _ _ _ _).mono ?_
  rintro e w3 ⟨a, b, d, c, rfl, hx⟩
  replace X := X.trans hx
  clear hx a0 a1
  go_wp2_with fail
  go_ret
  exact ⟨rfl, X⟩

set_option maxRecDepth 100000 in
set_option maxHeartbeats 1000000 in
theorem right_yes (off every drift shown : Int) (n k1 k2 : Nat) (w : World) (hv : Clk.vld off every = true) (d1 : 0 ≤ drift) (d2 : drift ≤ 1000) (n1 : 1 ≤ n) (n2 : (n : Int) ≤ 20000000)
    (b1 : Bound (Clk.ge off every shown) n k1) (b2 : Bound (Clk.gt off every shown) n k2) :
    Calls Try.prog 8 #[.agg #[.int .i64 off, .int .i64 every], .int .i64 drift, .int .i64 shown, .int .i64 n] w fun e w' => e = .returned (.bool true) ∧ Ext w w' := by
  have B1 := Lib.hid b1
  have B2 := Lib.hid b2
  obtain ⟨q1, q2, q3, q4, q5⟩ := Clk.bounds_facts b1 b2
  have Q4 := Lib.hid q4
  clear q3 q4 q5 b1 b2
  have HV := Lib.hid hv
  clear hv
  cases hin : (!Clk.wrong off every drift 0 && !Clk.wrong off every drift ((n : Int) - 1))
  · have HI := Lib.hid hin
    clear hin
    go_enter Try.func8, Try.ntmps8
    go_wp2_with fail
    refine (head_any _).mono ?_
    rintro e w1 ⟨rfl, hx⟩
    have X : Ext w w1 := ((Ext.refl _).alloc _).trans hx
    have a0 : w1.cell? ⟨w.heap.size, 0, none⟩ = some (.int .i64 off) := hx.keep (by simp)
    have a1 : w1.cell? ⟨w.heap.size, 1, none⟩ = some (.int .i64 every) := hx.keep (by simp)
    clear hx
    go_wp2_with fail
    refine (within_yes _ _ _ _ _ HV.out d1 d2 (by omega) n2).mono ?_
    rintro e w2 ⟨rfl, hx⟩
    replace X := X.trans hx
    replace a0 := hx.keep a0
    replace a1 := hx.keep a1
    clear hx
    rw [HI.out]
    go_wp2_with fail
    refine (times_yes _ _ _ _ k1 k2 _ HV.out n1 n2 B1.out B2.out).mono ?_
    rintro e w3 ⟨rfl, hx⟩
    replace X := X.trans hx
    replace a0 := hx.keep a0
    replace a1 := hx.keep a1
    clear hx
    clear a0 a1
    go_wp2_with fail
    all_goals
      first
        | (exfalso; omega)
        | (go_ret; exact ⟨rfl, X⟩)
  · have HI := Lib.hid hin
    have hin' := hin
    simp only [Bool.and_eq_true, Bool.not_eq_true'] at hin'
    obtain ⟨w0, w9⟩ := hin'
    by_cases hk : k1 = k2
    · subst hk
      clear hin w0 w9
      go_enter Try.func8, Try.ntmps8
      go_wp2_with fail
      refine (head_any _).mono ?_
      rintro e w1 ⟨rfl, hx⟩
      have X : Ext w w1 := ((Ext.refl _).alloc _).trans hx
      have a0 : w1.cell? ⟨w.heap.size, 0, none⟩ = some (.int .i64 off) := hx.keep (by simp)
      have a1 : w1.cell? ⟨w.heap.size, 1, none⟩ = some (.int .i64 every) := hx.keep (by simp)
      clear hx
      go_wp2_with fail
      refine (within_yes _ _ _ _ _ HV.out d1 d2 (by omega) n2).mono ?_
      rintro e w2 ⟨rfl, hx⟩
      replace X := X.trans hx
      replace a0 := hx.keep a0
      replace a1 := hx.keep a1
      clear hx
      rw [HI.out]
      go_wp2_with fail
      refine (times_yes _ _ _ _ k1 k1 _ HV.out n1 n2 B1.out B2.out).mono ?_
      rintro e w3 ⟨rfl, hx⟩
      replace X := X.trans hx
      replace a0 := hx.keep a0
      replace a1 := hx.keep a1
      clear hx
      clear a0 a1
      go_wp2_with fail
      all_goals
        first
          | (exfalso; omega)
          | (go_ret; exact ⟨rfl, X⟩)
    · have e1 := Clk.ends off every drift n k1 HV.out w0 w9 (by omega) (by omega)
      have e2 := Clk.ends off every drift n (k2 - 1 : Nat) HV.out w0 w9 (by omega) (by omega)
      rw [Clk.wrong_not] at e1 e2
      rw [Q4.out k1 (Nat.le_refl _) (by omega)] at e1
      rw [Q4.out (k2 - 1) (by omega) (by omega)] at e2
      rw [show ((k2 - 1 : Nat) : Int) = (k2 : Int) - 1 by omega] at e2
      clear hin w0 w9
      have f1 : Clk.abs ((k1 : Int) - shown) ≤ drift := by unfold Clk.abs; split <;> omega
      have f2 : Clk.abs ((k2 : Int) - 1 - shown) ≤ drift := by unfold Clk.abs; split <;> omega
      have f3 : (k2 : Int) - 1 - k1 ≤ 2 * drift := by omega
      go_enter Try.func8, Try.ntmps8
      go_wp2_with fail
      refine (head_any _).mono ?_
      rintro e w1 ⟨rfl, hx⟩
      have X : Ext w w1 := ((Ext.refl _).alloc _).trans hx
      have a0 : w1.cell? ⟨w.heap.size, 0, none⟩ = some (.int .i64 off) := hx.keep (by simp)
      have a1 : w1.cell? ⟨w.heap.size, 1, none⟩ = some (.int .i64 every) := hx.keep (by simp)
      clear hx
      go_wp2_with fail
      refine (within_yes _ _ _ _ _ HV.out d1 d2 (by omega) n2).mono ?_
      rintro e w2 ⟨rfl, hx⟩
      replace X := X.trans hx
      replace a0 := hx.keep a0
      replace a1 := hx.keep a1
      clear hx
      rw [HI.out]
      go_wp2_with fail
      refine (times_yes _ _ _ _ k1 k2 _ HV.out n1 n2 B1.out B2.out).mono ?_
      rintro e w3 ⟨rfl, hx⟩
      replace X := X.trans hx
      replace a0 := hx.keep a0
      replace a1 := hx.keep a1
      clear hx
      rw [if_neg hk, if_neg hk, show (!decide (k1 = k2)) = true by simp [hk]]
      clear a0 a1
      go_wp2_with fail
      refine (abs_any _ _ (by omega) (by omega)).mono ?_
      rintro e w' ⟨rfl, rfl⟩
      go_wp2_with fail
      refine (abs_any _ _ (by omega) (by omega)).mono ?_
      rintro e w' ⟨rfl, rfl⟩
      go_wp2_with fail
      all_goals
        first
          | (exfalso; omega)
          | (go_ret; exact ⟨rfl, X⟩)

theorem right_any (off every drift shown n : Int) (w : World) (_l_every : -9223372036854775808 ≤ every) (_u_every : every ≤ 9223372036854775807) (_l_drift : -9223372036854775808 ≤ drift) (_u_drift : drift ≤ 9223372036854775807) (_l_shown : -9223372036854775808 ≤ shown) (_u_shown : shown ≤ 9223372036854775807) (_l_n : -9223372036854775808 ≤ n) (_u_n : n ≤ 9223372036854775807) :
    Calls Try.prog 8 #[.agg #[.int .i64 off, .int .i64 every], .int .i64 drift, .int .i64 shown, .int .i64 n] w fun e w' => e = .returned (.bool true) ∧ Ext w w' := by
  cases hw : Clk.okW off every drift n
  · exact right_no off every drift shown n w _l_every _u_every hw
  · obtain ⟨hv, d1, d2, n1, n2⟩ := (Clk.okW_iff _ _ _ _).1 hw
    obtain ⟨m, rfl⟩ := Int.eq_ofNat_of_zero_le (a := n) (by omega)
    obtain ⟨k1, k2, b1, b2⟩ := Clk.bounds off every shown m hv
    exact right_yes off every drift shown m k1 k2 w hv d1 d2 (by omega) n2 b1 b2

open Go.ChangeShapes Go.WideShapes Go.ChangeAt Go.Joins in
set_option maxRecDepth 100000 in
theorem right_lifted (os : Os) (started : os.Started) (H : Type) (enc : TypeId × Value → H) :
    ReturnsInHanded {} Try.checked os 8 .any (Rows.clockRightSpec.pre6 enc Try.prog Try.f8 Rows.clockRightRow.domain false) (Rows.clockRightSpec.post enc Try.prog Try.f8 false true false false) := by
  refine returnsInHanded_of_change (C := Try.checked) Try.own started (by kernel_rfl) Try.func8
    (ChangeSpec.witness6 (enc := enc) (C := Try.checked) false ⟨#[], #[.agg #[.int .i64 0, .int .i64 0], .int .i64 0, .int .i64 0, .int .i64 0], []⟩ 8 (by kernel_rfl) (by kernel_rfl) (by kernel_rfl) (by kernel_rfl)) ?_
  intro W base args ds gs before hval0 hW _ _
  have hval : ∀ (j : Nat) t v, Try.f8.params[j]? = some t → args[j]? = some v → Value.okWide Try.prog W .any base t v := hval0
  have hW' := hW
  obtain ⟨p, q, hA0, hV, rfl, hfz, hnd⟩ := hW
  have hA : DataW.TrodAll enc Try.prog W 0 (fun _ => true) true Try.f8.params.toList args.toList ds p := hA0
  rw [Try.params8] at hA hval
  obtain ⟨v0, vs0, d0, ds0, p0, q0, hargs, rfl, rfl, h0, r0⟩ := trodAll_cons hA
  obtain ⟨v1, vs1, d1, ds1, p1, q1, rfl, rfl, rfl, h1, r1⟩ := trodAll_cons r0
  obtain ⟨v2, vs2, d2, ds2, p2, q2, rfl, rfl, rfl, h2, r2⟩ := trodAll_cons r1
  obtain ⟨v3, vs3, d3, ds3, p3, q3, rfl, rfl, rfl, h3, r3⟩ := trodAll_cons r2
  obtain ⟨rfl, rfl, rfl⟩ := trodAll_nil r3
  obtain rfl : args = #[v0, v1, v2, v3] := by cases args; simp_all
  obtain ⟨c0, c1, y0, y1, m, rfl, rfl, rfl, hy0, hy1⟩ := open_agg2 Try.underlying23 (by kernel_rfl) (by kernel_rfl) (hval 0 23 v0 rfl rfl) h0
  obtain ⟨off, e0, rfl, wa⟩ := DataW.trod_int Try.underlying3 hy0
  obtain ⟨every, e1, rfl, wb⟩ := DataW.trod_int Try.underlying3 hy1
  simp at e0 e1
  subst e0 e1
  have gb := bounds_i64 wb
  obtain ⟨n1, rfl, rfl, rfl, wt1⟩ := open_int Try.underlying3 (hval 1 3 v1 rfl rfl) h1
  have gb1 := bounds_i64 wt1
  obtain ⟨n2, rfl, rfl, rfl, wt2⟩ := open_int Try.underlying3 (hval 2 3 v2 rfl rfl) h2
  have gb2 := bounds_i64 wt2
  obtain ⟨n3, rfl, rfl, rfl, wt3⟩ := open_int Try.underlying3 (hval 3 3 v3 rfl rfl) h3
  have gb3 := bounds_i64 wt3
  refine (right_any off every n1 n2 n3 W (by omega) (by omega) (by omega) (by omega) (by omega) (by omega) (by omega) (by omega)).mono fun e W' ⟨he, hx⟩ => ?_
  subst he
  exact ⟨_, rfl, law_post Try.laidOut (by rw [Try.params8]; intro t ht; simp at ht; rcases ht with rfl | rfl <;> exact ⟨by kernel_rfl, of_decide_eq_true (by kernel_rfl)⟩) rfl rfl Try.underlying4 rfl rfl rfl hW' hx⟩

theorem right_holds : Rows.ClockRightSaid :=
  OpenClaim.holds_of_wide 8 Try.f8 rfl rfl rfl rfl rfl rfl rfl ⟨rfl, rfl, rfl, rfl, rfl⟩ rfl rfl rfl rfl rfl (by kernel_rfl) Try.func8 (by kernel_rfl)
    (of_decide_eq_true (by kernel_rfl)) (by unfold Func.isWrapper; first | (rw [if_pos (by decide +kernel)]; kernel_rfl) | (rw [if_neg (by decide +kernel)]; exact ⟨rfl, rfl⟩))
    (fun os started H enc _ => right_lifted os started H enc)

end Go.Proofs.Ytfgjeihchgfnnaa
