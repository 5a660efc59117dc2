/- ClockGain: for any clock and time the law returns true: as many ticks later as Every says, a clock shows as many more, and one more or one less. No conditions. -/
import Derived.Test.YtfgjeihchgfnnaaClk4
import Derived.Test.YtfgjeihchgfnnaaLaw
import Derived.Lib.SmallJoins
namespace Go.Proofs.Ytfgjeihchgfnnaa
open Go.RowKit

theorem Clk.gain_pos (off every t : Int) (h : 2 ≤ every) (ht : 0 ≤ t) : Clk.face off every (t + every) = Clk.face off every t + every + 1 := by
  rw [Clk.face_pos _ _ _ h ht, Clk.face_pos _ _ _ h (by omega)]
  have : (t + every) / every = t / every + 1 := by
    have := Int.add_mul_ediv_right t 1 (c := every) (by omega)
    rwa [Int.one_mul] at this
  omega
theorem Clk.gain_neg (off m t : Int) (h : 2 ≤ m) (ht : 0 ≤ t) : Clk.face off (-m) (t + m) = Clk.face off (-m) t + m - 1 := by
  rw [Clk.face_neg _ _ _ (by omega) ht, Clk.face_neg _ _ _ (by omega) (by omega), Int.neg_neg]
  have : (t + m) / m = t / m + 1 := by
    have := Int.add_mul_ediv_right t 1 (c := m) (by omega)
    rwa [Int.one_mul] at this
  omega

set_option maxRecDepth 100000 in
set_option maxHeartbeats 1000000 in
theorem gain_no (off every t : Int) (w : World) (g1 : -9223372036854775808 ≤ every) (g2 : every ≤ 9223372036854775807) (hv : Clk.vld off every = false) :
    Calls Try.prog 7 #[.agg #[.int .i64 off, .int .i64 every], .int .i64 t] w fun e w' => e = .returned (.bool true) ∧ Ext w w' := by
  go_enter Try.func7, Try.ntmps7
  go_wp2_with fail
  refine (head_any _).mono ?_
  rintro e w1 ⟨rfl, hx⟩
  have X : Ext w w1 := ((Ext.refl _).alloc _).trans hx
  have a0 : w1.cell? ⟨w.heap.size, 0, none⟩ = some (.int .i64 off) := hx.keep (by simp)
  have a1 : w1.cell? ⟨w.heap.size, 1, none⟩ = some (.int .i64 every) := hx.keep (by simp)
  clear hx
  go_wp2_with fail
  refine (abs_wide _ _).mono ?_
  rintro e w' ⟨r, rfl, rfl⟩
  go_wp2_with fail
  refine (rvalid_any _ _ _ g1 g2).mono ?_
  rintro e w2 ⟨rfl, hx⟩
  rw [hv]
  replace X := X.trans hx
  clear hx a0 a1
  go_wp2_with fail
  go_ret
  exact ⟨rfl, X⟩

set_option maxRecDepth 100000 in
set_option maxHeartbeats 1000000 in
theorem gain_yes (off every t amt : Int) (w : World) (hv : Clk.vld off every = true) (hby : Clk.abs every = amt) :
    Calls Try.prog 7 #[.agg #[.int .i64 off, .int .i64 every], .int .i64 t] w fun e w' => e = .returned (.bool true) ∧ Ext w w' := by
  obtain ⟨v1, v2, v3⟩ := (Clk.vld_iff _ _).1 hv
  have hb' : 0 ≤ amt ∧ amt ≤ 10000000 := by rw [← hby]; unfold Clk.abs; split <;> omega
  have HB := Lib.hid hby
  have HV := Lib.hid hv
  have V3 := Lib.hid v3
  clear hby hv v3
  have g1 : -10000000 ≤ every ∧ every ≤ 10000000 := by have := V3.out; omega
  by_cases ht : 0 ≤ t ∧ t ≤ 20000000 - amt
  · obtain ⟨t1, t2⟩ := ht
    have e1 : 0 ≤ t + amt := by omega
    have e2 : t + amt ≤ 20000000 := by omega
    have f1 := Clk.face_bd off every t HV.out t1 (by omega)
    have f2 := Clk.face_bd off every (t + amt) HV.out e1 e2
    go_enter Try.func7, Try.ntmps7
    go_wp2_with fail
    refine (head_any _).mono ?_
    rintro e w1 ⟨rfl, hx⟩
    have X : Ext w w1 := ((Ext.refl _).alloc _).trans hx
    have a0 : w1.cell? ⟨w.heap.size, 0, none⟩ = some (.int .i64 off) := hx.keep (by simp)
    have a1 : w1.cell? ⟨w.heap.size, 1, none⟩ = some (.int .i64 every) := hx.keep (by simp)
    clear hx
    go_wp2_with fail
    refine (abs_any _ _ (by omega) (by omega)).mono ?_
    rintro e w' ⟨rfl, rfl⟩
    rw [HB.out]
    go_wp2_with fail
    refine (rvalid_any _ _ _ (by omega) (by omega)).mono ?_
    rintro e w2 ⟨rfl, hx⟩
    rw [HV.out]
    replace X := X.trans hx
    replace a0 := hx.keep a0
    replace a1 := hx.keep a1
    clear hx
    go_wp2_with fail
    refine (show_yes _ _ _ _ HV.out t1 (by omega)).mono ?_
    rintro e w3 ⟨rfl, hx⟩
    replace X := X.trans hx
    replace a0 := hx.keep a0
    replace a1 := hx.keep a1
    clear hx
    go_wp2_with fail
    refine (show_yes _ _ _ _ HV.out e1 e2).mono ?_
    rintro e w4 ⟨rfl, hx⟩
    replace X := X.trans hx
    replace a0 := hx.keep a0
    replace a1 := hx.keep a1
    clear hx
    rcases V3.out with h0 | ⟨h1, _⟩ | ⟨h2, _⟩
    · subst h0
      have hz : (Clk.face off 0 t == t + off) = true := by rw [Clk.face_zero]; simp
      go_wp2_with fail
      all_goals
        first
          | (exfalso; omega)
          | (go_ret; exact ⟨rfl, X⟩)
    · have hbe : every = amt := by have := HB.out; unfold Clk.abs at this; rw [if_neg (by omega)] at this; exact this
      subst hbe
      have hg := Clk.gain_pos off every t h1 t1
      have hq : (Clk.face off every (t + every) == Clk.face off every t + every + 1) = true := by rw [hg]; simp
      clear hg
      go_wp2_with fail
      all_goals
        first
          | (exfalso; omega)
          | (go_ret; exact ⟨rfl, X⟩)
    · have hbe : every = -amt := by have := HB.out; unfold Clk.abs at this; rw [if_pos (by omega)] at this; omega
      subst hbe
      have hg := Clk.gain_neg off amt t (by omega) t1
      have hq : (Clk.face off (-amt) (t + amt) == Clk.face off (-amt) t + amt - 1) = true := by rw [hg]; simp
      clear hg
      go_wp2_with fail
      all_goals
        first
          | (exfalso; omega)
          | (go_ret; exact ⟨rfl, X⟩)
  · go_enter Try.func7, Try.ntmps7
    go_wp2_with fail
    refine (head_any _).mono ?_
    rintro e w1 ⟨rfl, hx⟩
    have X : Ext w w1 := ((Ext.refl _).alloc _).trans hx
    have a0 : w1.cell? ⟨w.heap.size, 0, none⟩ = some (.int .i64 off) := hx.keep (by simp)
    have a1 : w1.cell? ⟨w.heap.size, 1, none⟩ = some (.int .i64 every) := hx.keep (by simp)
    clear hx
    go_wp2_with fail
    refine (abs_any _ _ (by omega) (by omega)).mono ?_
    rintro e w' ⟨rfl, rfl⟩
    rw [HB.out]
    go_wp2_with fail
    refine (rvalid_any _ _ _ (by omega) (by omega)).mono ?_
    rintro e w2 ⟨rfl, hx⟩
    rw [HV.out]
    replace X := X.trans hx
    clear hx a0 a1
    go_wp2_with fail
    all_goals
      first
        | (exfalso; omega)
        | (go_ret; exact ⟨rfl, X⟩)

theorem gain_any (off every t : Int) (w : World) (g1 : -9223372036854775808 ≤ every) (g2 : every ≤ 9223372036854775807) :
    Calls Try.prog 7 #[.agg #[.int .i64 off, .int .i64 every], .int .i64 t] w fun e w' => e = .returned (.bool true) ∧ Ext w w' := by
  cases hv : Clk.vld off every
  · exact gain_no off every t w g1 g2 hv
  · exact gain_yes off every t _ w hv rfl

open Go.ChangeShapes Go.WideShapes Go.ChangeAt Go.Joins in
set_option maxRecDepth 100000 in
theorem gain_lifted (os : Os) (started : os.Started) (H : Type) (enc : TypeId × Value → H) :
    ReturnsInHanded {} Try.checked os 7 .any (Rows.clockGainSpec.pre6 enc Try.prog Try.f7 Rows.clockGainRow.domain false) (Rows.clockGainSpec.post enc Try.prog Try.f7 false true false false) := by
  refine returnsInHanded_of_change (C := Try.checked) Try.own started (by kernel_rfl) Try.func7
    (ChangeSpec.witness6 (enc := enc) (C := Try.checked) false ⟨#[], #[.agg #[.int .i64 0, .int .i64 0], .int .i64 0], []⟩ 8 (by kernel_rfl) (by kernel_rfl) (by kernel_rfl) (by kernel_rfl)) ?_
  intro W base args ds gs before hval0 hW _ _
  have hval : ∀ (j : Nat) t v, Try.f7.params[j]? = some t → args[j]? = some v → Value.okWide Try.prog W .any base t v := hval0
  have hW' := hW
  obtain ⟨p, q, hA0, hV, rfl, hfz, hnd⟩ := hW
  have hA : DataW.TrodAll enc Try.prog W 0 (fun _ => true) true Try.f7.params.toList args.toList ds p := hA0
  rw [Try.params7] at hA hval
  obtain ⟨v0, v1, d0, d1, p0, p1, rfl, rfl, rfl, h0, h1⟩ := trodAll_two hA
  obtain ⟨c0, c1, y0, y1, m, rfl, rfl, rfl, hy0, hy1⟩ := open_agg2 Try.underlying23 (by kernel_rfl) (by kernel_rfl) (hval 0 23 v0 rfl rfl) h0
  obtain ⟨off, e0, rfl, wa⟩ := DataW.trod_int Try.underlying3 hy0
  obtain ⟨every, e1, rfl, wb⟩ := DataW.trod_int Try.underlying3 hy1
  simp at e0 e1
  subst e0 e1
  obtain ⟨t, rfl, rfl, rfl, wt⟩ := open_int Try.underlying3 (hval 1 3 v1 rfl rfl) h1
  have gb := bounds_i64 wb
  refine (gain_any off every t W (by omega) (by omega)).mono fun e W' ⟨he, hx⟩ => ?_
  subst he
  exact ⟨_, rfl, law_post Try.laidOut (by rw [Try.params7]; intro t ht; simp at ht; rcases ht with rfl | rfl <;> exact ⟨by kernel_rfl, of_decide_eq_true (by kernel_rfl)⟩) rfl rfl Try.underlying4 rfl rfl rfl hW' hx⟩

theorem gain_holds : Rows.ClockGainSaid :=
  OpenClaim.holds_of_wide 7 Try.f7 rfl rfl rfl rfl rfl rfl rfl ⟨rfl, rfl, rfl, rfl, rfl⟩ rfl rfl rfl rfl rfl (by kernel_rfl) Try.func7 (by kernel_rfl)
    (of_decide_eq_true (by kernel_rfl)) (by unfold Func.isWrapper; first | (rw [if_pos (by decide +kernel)]; kernel_rfl) | (rw [if_neg (by decide +kernel)]; exact ⟨rfl, rfl⟩))
    (fun os started H enc _ => gain_lifted os started H enc)

end Go.Proofs.Ytfgjeihchgfnnaa
