/- ClockForward: for any clock and times the law returns true: a clock never goes back. No conditions. -/
import Derived.Test.YtfgjeihchgfnnaaClk4
import Derived.Test.YtfgjeihchgfnnaaLaw
import Derived.Lib.SmallJoins
namespace Go.Proofs.Ytfgjeihchgfnnaa
open Go.RowKit

set_option maxRecDepth 100000 in
set_option maxHeartbeats 1000000 in
theorem forward_bad (off every t u btw : Int) (w : World) (_l_every : -9223372036854775808 ≤ every) (_u_every : every ≤ 9223372036854775807)  (hv : Clk.vld off every = false) :
    Calls Try.prog 4 #[.agg #[.int .i64 off, .int .i64 every], .int .i64 t, .int .i64 u, .int .i64 btw] w fun e w' => e = .returned (.bool true) ∧ Ext w w' := by
  go_enter Try.func4, Try.ntmps4
  go_wp2_with fail
  refine (head_any _).mono ?_
  rintro e w1 ⟨rfl, hx⟩
  have X : Ext w w1 := ((Ext.refl _).alloc _).trans hx
  have a0 : w1.cell? ⟨w.heap.size, 0, none⟩ = some (.int .i64 off) := hx.keep (by simp)
  have a1 : w1.cell? ⟨w.heap.size, 1, none⟩ = some (.int .i64 every) := hx.keep (by simp)
  clear hx
  go_wp2_with fail
  refine (show_no _ _ _ _ (.inl hv)).mono ?_
  rintro e w2 ⟨rfl, hx⟩
  replace X := X.trans hx
  replace a0 := hx.keep a0
  replace a1 := hx.keep a1
  clear hx
  go_wp2_with fail
  refine (show_no _ _ _ _ (.inl hv)).mono ?_
  rintro e w3 ⟨rfl, hx⟩
  replace X := X.trans hx
  replace a0 := hx.keep a0
  replace a1 := hx.keep a1
  clear hx
  go_wp2_with fail
  refine (rvalid_any _ _ _ _l_every _u_every).mono ?_
  rintro e w4 ⟨rfl, hx⟩
  replace X := X.trans hx
  replace a0 := hx.keep a0
  replace a1 := hx.keep a1
  clear hx
  rw [hv]
  clear a0 a1
  go_wp2_with fail
  all_goals
    first
      | (exfalso; omega)
      | (go_ret; first | exact ⟨rfl, X⟩ | exact ⟨ret_bool (by simp; omega), X⟩)

set_option maxRecDepth 100000 in
set_option maxHeartbeats 1000000 in
theorem forward_t (off every t u btw : Int) (w : World) (_l_every : -9223372036854775808 ≤ every) (_u_every : every ≤ 9223372036854775807)  (hv : Clk.vld off every = true) (ht : t < 0 ∨ 20000000 < t) :
    Calls Try.prog 4 #[.agg #[.int .i64 off, .int .i64 every], .int .i64 t, .int .i64 u, .int .i64 btw] w fun e w' => e = .returned (.bool true) ∧ Ext w w' := by
  have HV := Lib.hid hv
  clear hv
  have HT := Lib.hid ht
  clear ht
  by_cases hu : 0 ≤ u ∧ u ≤ 20000000
  · have HU := Lib.hid hu
    clear hu
    go_enter Try.func4, Try.ntmps4
    go_wp2_with fail
    refine (head_any _).mono ?_
    rintro e w1 ⟨rfl, hx⟩
    have X : Ext w w1 := ((Ext.refl _).alloc _).trans hx
    have a0 : w1.cell? ⟨w.heap.size, 0, none⟩ = some (.int .i64 off) := hx.keep (by simp)
    have a1 : w1.cell? ⟨w.heap.size, 1, none⟩ = some (.int .i64 every) := hx.keep (by simp)
    clear hx
    go_wp2_with fail
    refine (show_no _ _ _ _ (.inr HT.out)).mono ?_
    rintro e w2 ⟨rfl, hx⟩
    replace X := X.trans hx
    replace a0 := hx.keep a0
    replace a1 := hx.keep a1
    clear hx
    have hu := HU.out
    go_wp2_with fail
    refine (show_yes _ _ _ _ HV.out hu.1 hu.2).mono ?_
    rintro e w3 ⟨rfl, hx⟩
    replace X := X.trans hx
    replace a0 := hx.keep a0
    replace a1 := hx.keep a1
    clear hx
    clear hu
    go_wp2_with fail
    refine (rvalid_any _ _ _ _l_every _u_every).mono ?_
    rintro e w4 ⟨rfl, hx⟩
    replace X := X.trans hx
    replace a0 := hx.keep a0
    replace a1 := hx.keep a1
    clear hx
    rw [HV.out]
    clear a0 a1
    have ht := HT.out
    go_wp2_with fail
    all_goals
      first
        | (exfalso; omega)
        | (go_ret; first | exact ⟨rfl, X⟩ | exact ⟨ret_bool (by simp; omega), X⟩)
  · have HU := Lib.hid hu
    clear hu
    go_enter Try.func4, Try.ntmps4
    go_wp2_with fail
    refine (head_any _).mono ?_
    rintro e w1 ⟨rfl, hx⟩
    have X : Ext w w1 := ((Ext.refl _).alloc _).trans hx
    have a0 : w1.cell? ⟨w.heap.size, 0, none⟩ = some (.int .i64 off) := hx.keep (by simp)
    have a1 : w1.cell? ⟨w.heap.size, 1, none⟩ = some (.int .i64 every) := hx.keep (by simp)
    clear hx
    go_wp2_with fail
    refine (show_no _ _ _ _ (.inr HT.out)).mono ?_
    rintro e w2 ⟨rfl, hx⟩
    replace X := X.trans hx
    replace a0 := hx.keep a0
    replace a1 := hx.keep a1
    clear hx
    have hu := HU.out
    go_wp2_with fail
    refine (show_no _ _ _ _ (.inr (by omega))).mono ?_
    rintro e w3 ⟨rfl, hx⟩
    replace X := X.trans hx
    replace a0 := hx.keep a0
    replace a1 := hx.keep a1
    clear hx
    clear hu
    go_wp2_with fail
    refine (rvalid_any _ _ _ _l_every _u_every).mono ?_
    rintro e w4 ⟨rfl, hx⟩
    replace X := X.trans hx
    replace a0 := hx.keep a0
    replace a1 := hx.keep a1
    clear hx
    rw [HV.out]
    clear a0 a1
    have ht := HT.out
    go_wp2_with fail
    all_goals
      first
        | (exfalso; omega)
        | (go_ret; first | exact ⟨rfl, X⟩ | exact ⟨ret_bool (by simp; omega), X⟩)

set_option maxRecDepth 100000 in
set_option maxHeartbeats 1000000 in
theorem forward_u (off every t u btw : Int) (w : World) (_l_every : -9223372036854775808 ≤ every) (_u_every : every ≤ 9223372036854775807)  (hv : Clk.vld off every = true) (t1 : 0 ≤ t) (t2 : t ≤ 20000000) (hu : u < 0 ∨ 20000000 < u) :
    Calls Try.prog 4 #[.agg #[.int .i64 off, .int .i64 every], .int .i64 t, .int .i64 u, .int .i64 btw] w fun e w' => e = .returned (.bool true) ∧ Ext w w' := by
  have HV := Lib.hid hv
  clear hv
  have HU := Lib.hid hu
  clear hu
  go_enter Try.func4, Try.ntmps4
  go_wp2_with fail
  refine (head_any _).mono ?_
  rintro e w1 ⟨rfl, hx⟩
  have X : Ext w w1 := ((Ext.refl _).alloc _).trans hx
  have a0 : w1.cell? ⟨w.heap.size, 0, none⟩ = some (.int .i64 off) := hx.keep (by simp)
  have a1 : w1.cell? ⟨w.heap.size, 1, none⟩ = some (.int .i64 every) := hx.keep (by simp)
  clear hx
  go_wp2_with fail
  refine (show_yes _ _ _ _ HV.out t1 t2).mono ?_
  rintro e w2 ⟨rfl, hx⟩
  replace X := X.trans hx
  replace a0 := hx.keep a0
  replace a1 := hx.keep a1
  clear hx
  go_wp2_with fail
  refine (show_no _ _ _ _ (.inr HU.out)).mono ?_
  rintro e w3 ⟨rfl, hx⟩
  replace X := X.trans hx
  replace a0 := hx.keep a0
  replace a1 := hx.keep a1
  clear hx
  go_wp2_with fail
  refine (rvalid_any _ _ _ _l_every _u_every).mono ?_
  rintro e w4 ⟨rfl, hx⟩
  replace X := X.trans hx
  replace a0 := hx.keep a0
  replace a1 := hx.keep a1
  clear hx
  rw [HV.out]
  clear a0 a1
  have hu := HU.out
  go_wp2_with fail
  all_goals
    first
      | (exfalso; omega)
      | (go_ret; first | exact ⟨rfl, X⟩ | exact ⟨ret_bool (by simp; omega), X⟩)

set_option maxRecDepth 100000 in
set_option maxHeartbeats 2000000 in
theorem forward_ok (off every t u btw : Int) (w : World) (_l_every : -9223372036854775808 ≤ every) (_u_every : every ≤ 9223372036854775807)  (hv : Clk.vld off every = true) (t1 : 0 ≤ t) (t2 : t ≤ 20000000) (u1 : 0 ≤ u) (u2 : u ≤ 20000000) :
    Calls Try.prog 4 #[.agg #[.int .i64 off, .int .i64 every], .int .i64 t, .int .i64 u, .int .i64 btw] w fun e w' => e = .returned (.bool true) ∧ Ext w w' := by
  have HV := Lib.hid hv
  clear hv
  by_cases htu : t ≤ u
  · have m1 := Clk.face_mono off every t u HV.out (by omega) (by omega)
    by_cases hb : t ≤ btw ∧ btw ≤ u
    · obtain ⟨hb1, hb2⟩ := hb
      have m2 := Clk.face_mono off every t btw HV.out (by omega) (by omega)
      have m3 := Clk.face_mono off every btw u HV.out (by omega) (by omega)
      go_enter Try.func4, Try.ntmps4
      go_wp2_with fail
      refine (head_any _).mono ?_
      rintro e w1 ⟨rfl, hx⟩
      have X : Ext w w1 := ((Ext.refl _).alloc _).trans hx
      have a0 : w1.cell? ⟨w.heap.size, 0, none⟩ = some (.int .i64 off) := hx.keep (by simp)
      have a1 : w1.cell? ⟨w.heap.size, 1, none⟩ = some (.int .i64 every) := hx.keep (by simp)
      clear hx
      go_wp2_with fail
      refine (show_yes _ _ _ _ HV.out t1 t2).mono ?_
      rintro e w2 ⟨rfl, hx⟩
      replace X := X.trans hx
      replace a0 := hx.keep a0
      replace a1 := hx.keep a1
      clear hx
      go_wp2_with fail
      refine (show_yes _ _ _ _ HV.out u1 u2).mono ?_
      rintro e w3 ⟨rfl, hx⟩
      replace X := X.trans hx
      replace a0 := hx.keep a0
      replace a1 := hx.keep a1
      clear hx
      go_wp2_with fail
      refine (show_yes _ _ _ _ HV.out (by omega) (by omega)).mono ?_
      rintro e w4 ⟨rfl, hx⟩
      replace X := X.trans hx
      replace a0 := hx.keep a0
      replace a1 := hx.keep a1
      clear hx
      clear a0 a1
      go_wp2_with fail
      all_goals
        first
          | (exfalso; omega)
          | (go_ret; first | exact ⟨rfl, X⟩ | exact ⟨ret_bool (by simp; omega), X⟩)
    · go_enter Try.func4, Try.ntmps4
      go_wp2_with fail
      refine (head_any _).mono ?_
      rintro e w1 ⟨rfl, hx⟩
      have X : Ext w w1 := ((Ext.refl _).alloc _).trans hx
      have a0 : w1.cell? ⟨w.heap.size, 0, none⟩ = some (.int .i64 off) := hx.keep (by simp)
      have a1 : w1.cell? ⟨w.heap.size, 1, none⟩ = some (.int .i64 every) := hx.keep (by simp)
      clear hx
      go_wp2_with fail
      refine (show_yes _ _ _ _ HV.out t1 t2).mono ?_
      rintro e w2 ⟨rfl, hx⟩
      replace X := X.trans hx
      replace a0 := hx.keep a0
      replace a1 := hx.keep a1
      clear hx
      go_wp2_with fail
      refine (show_yes _ _ _ _ HV.out u1 u2).mono ?_
      rintro e w3 ⟨rfl, hx⟩
      replace X := X.trans hx
      replace a0 := hx.keep a0
      replace a1 := hx.keep a1
      clear hx
      clear a0 a1
      go_wp2_with fail
      all_goals
        first
          | (exfalso; omega)
          | (go_ret; first | exact ⟨rfl, X⟩ | exact ⟨ret_bool (by simp; omega), X⟩)
  · have m1 := Clk.face_mono off every u t HV.out (by omega) (by omega)
    by_cases hb : u ≤ btw ∧ btw ≤ t
    · obtain ⟨hb1, hb2⟩ := hb
      have m2 := Clk.face_mono off every u btw HV.out (by omega) (by omega)
      have m3 := Clk.face_mono off every btw t HV.out (by omega) (by omega)
      go_enter Try.func4, Try.ntmps4
      go_wp2_with fail
      refine (head_any _).mono ?_
      rintro e w1 ⟨rfl, hx⟩
      have X : Ext w w1 := ((Ext.refl _).alloc _).trans hx
      have a0 : w1.cell? ⟨w.heap.size, 0, none⟩ = some (.int .i64 off) := hx.keep (by simp)
      have a1 : w1.cell? ⟨w.heap.size, 1, none⟩ = some (.int .i64 every) := hx.keep (by simp)
      clear hx
      go_wp2_with fail
      refine (show_yes _ _ _ _ HV.out t1 t2).mono ?_
      rintro e w2 ⟨rfl, hx⟩
      replace X := X.trans hx
      replace a0 := hx.keep a0
      replace a1 := hx.keep a1
      clear hx
      go_wp2_with fail
      refine (show_yes _ _ _ _ HV.out u1 u2).mono ?_
      rintro e w3 ⟨rfl, hx⟩
      replace X := X.trans hx
      replace a0 := hx.keep a0
      replace a1 := hx.keep a1
      clear hx
      go_wp2_with fail
      refine (show_yes _ _ _ _ HV.out (by omega) (by omega)).mono ?_
      rintro e w4 ⟨rfl, hx⟩
      replace X := X.trans hx
      replace a0 := hx.keep a0
      replace a1 := hx.keep a1
      clear hx
      clear a0 a1
      go_wp2_with fail
      all_goals
        first
          | (exfalso; omega)
          | (go_ret; first | exact ⟨rfl, X⟩ | exact ⟨ret_bool (by simp; omega), X⟩)
    · go_enter Try.func4, Try.ntmps4
      go_wp2_with fail
      refine (head_any _).mono ?_
      rintro e w1 ⟨rfl, hx⟩
      have X : Ext w w1 := ((Ext.refl _).alloc _).trans hx
      have a0 : w1.cell? ⟨w.heap.size, 0, none⟩ = some (.int .i64 off) := hx.keep (by simp)
      have a1 : w1.cell? ⟨w.heap.size, 1, none⟩ = some (.int .i64 every) := hx.keep (by simp)
      clear hx
      go_wp2_with fail
      refine (show_yes _ _ _ _ HV.out t1 t2).mono ?_
      rintro e w2 ⟨rfl, hx⟩
      replace X := X.trans hx
      replace a0 := hx.keep a0
      replace a1 := hx.keep a1
      clear hx
      go_wp2_with fail
      refine (show_yes _ _ _ _ HV.out u1 u2).mono ?_
      rintro e w3 ⟨rfl, hx⟩
      replace X := X.trans hx
      replace a0 := hx.keep a0
      replace a1 := hx.keep a1
      clear hx
      clear a0 a1
      go_wp2_with fail
      all_goals
        first
          | (exfalso; omega)
          | (go_ret; first | exact ⟨rfl, X⟩ | exact ⟨ret_bool (by simp; omega), X⟩)

theorem forward_any (off every t u btw : Int) (w : World) (_l_every : -9223372036854775808 ≤ every) (_u_every : every ≤ 9223372036854775807) (_l_t : -9223372036854775808 ≤ t) (_u_t : t ≤ 9223372036854775807) (_l_u : -9223372036854775808 ≤ u) (_u_u : u ≤ 9223372036854775807) (_l_btw : -9223372036854775808 ≤ btw) (_u_btw : btw ≤ 9223372036854775807) :
    Calls Try.prog 4 #[.agg #[.int .i64 off, .int .i64 every], .int .i64 t, .int .i64 u, .int .i64 btw] w fun e w' => e = .returned (.bool true) ∧ Ext w w' := by
  cases hv : Clk.vld off every
  · exact forward_bad off every t u btw w _l_every _u_every hv
  · by_cases ht : 0 ≤ t ∧ t ≤ 20000000
    · by_cases hu : 0 ≤ u ∧ u ≤ 20000000
      · exact forward_ok off every t u btw w _l_every _u_every hv ht.1 ht.2 hu.1 hu.2
      · exact forward_u off every t u btw w _l_every _u_every hv ht.1 ht.2 (by omega)
    · exact forward_t off every t u btw w _l_every _u_every hv (by omega)

open Go.ChangeShapes Go.WideShapes Go.ChangeAt Go.Joins in
set_option maxRecDepth 100000 in
theorem forward_lifted (os : Os) (started : os.Started) (H : Type) (enc : TypeId × Value → H) :
    ReturnsInHanded {} Try.checked os 4 .any (Rows.clockForwardSpec.pre6 enc Try.prog Try.f4 Rows.clockForwardRow.domain false) (Rows.clockForwardSpec.post enc Try.prog Try.f4 false true false false) := by
  refine returnsInHanded_of_change (C := Try.checked) Try.own started (by kernel_rfl) Try.func4
    (ChangeSpec.witness6 (enc := enc) (C := Try.checked) false ⟨#[], #[.agg #[.int .i64 0, .int .i64 0], .int .i64 0, .int .i64 0, .int .i64 0], []⟩ 8 (by kernel_rfl) (by kernel_rfl) (by kernel_rfl) (by kernel_rfl)) ?_
  intro W base args ds gs before hval0 hW _ _
  have hval : ∀ (j : Nat) t v, Try.f4.params[j]? = some t → args[j]? = some v → Value.okWide Try.prog W .any base t v := hval0
  have hW' := hW
  obtain ⟨p, q, hA0, hV, rfl, hfz, hnd⟩ := hW
  have hA : DataW.TrodAll enc Try.prog W 0 (fun _ => true) true Try.f4.params.toList args.toList ds p := hA0
  rw [Try.params4] at hA hval
  obtain ⟨v0, vs0, d0, ds0, p0, q0, hargs, rfl, rfl, h0, r0⟩ := trodAll_cons hA
  obtain ⟨v1, vs1, d1, ds1, p1, q1, rfl, rfl, rfl, h1, r1⟩ := trodAll_cons r0
  obtain ⟨v2, vs2, d2, ds2, p2, q2, rfl, rfl, rfl, h2, r2⟩ := trodAll_cons r1
  obtain ⟨v3, vs3, d3, ds3, p3, q3, rfl, rfl, rfl, h3, r3⟩ := trodAll_cons r2
  obtain ⟨rfl, rfl, rfl⟩ := trodAll_nil r3
  obtain rfl : args = #[v0, v1, v2, v3] := by cases args; simp_all
  obtain ⟨c0, c1, y0, y1, m, rfl, rfl, rfl, hy0, hy1⟩ := open_agg2 Try.underlying23 (by kernel_rfl) (by kernel_rfl) (hval 0 23 v0 rfl rfl) h0
  obtain ⟨off, e0, rfl, wa⟩ := DataW.trod_int Try.underlying3 hy0
  obtain ⟨every, e1, rfl, wb⟩ := DataW.trod_int Try.underlying3 hy1
  simp at e0 e1
  subst e0 e1
  have gb := bounds_i64 wb
  obtain ⟨n1, rfl, rfl, rfl, wt1⟩ := open_int Try.underlying3 (hval 1 3 v1 rfl rfl) h1
  have gb1 := bounds_i64 wt1
  obtain ⟨n2, rfl, rfl, rfl, wt2⟩ := open_int Try.underlying3 (hval 2 3 v2 rfl rfl) h2
  have gb2 := bounds_i64 wt2
  obtain ⟨n3, rfl, rfl, rfl, wt3⟩ := open_int Try.underlying3 (hval 3 3 v3 rfl rfl) h3
  have gb3 := bounds_i64 wt3
  refine (forward_any off every n1 n2 n3 W (by omega) (by omega) (by omega) (by omega) (by omega) (by omega) (by omega) (by omega)).mono fun e W' ⟨he, hx⟩ => ?_
  subst he
  exact ⟨_, rfl, law_post Try.laidOut (by rw [Try.params4]; intro t ht; simp at ht; rcases ht with rfl | rfl <;> exact ⟨by kernel_rfl, of_decide_eq_true (by kernel_rfl)⟩) rfl rfl Try.underlying4 rfl rfl rfl hW' hx⟩

theorem forward_holds : Rows.ClockForwardSaid :=
  OpenClaim.holds_of_wide 4 Try.f4 rfl rfl rfl rfl rfl rfl rfl ⟨rfl, rfl, rfl, rfl, rfl⟩ rfl rfl rfl rfl rfl (by kernel_rfl) Try.func4 (by kernel_rfl)
    (of_decide_eq_true (by kernel_rfl)) (by unfold Func.isWrapper; first | (rw [if_pos (by decide +kernel)]; kernel_rfl) | (rw [if_neg (by decide +kernel)]; exact ⟨rfl, rfl⟩))
    (fun os started H enc _ => forward_lifted os started H enc)

end Go.Proofs.Ytfgjeihchgfnnaa
