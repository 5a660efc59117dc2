/- Contracts of the laws' own helpers: shows, head. -/
import Derived.Test.YtfgjeihchgfnnaaClk3
namespace Go.Proofs.Ytfgjeihchgfnnaa
open Go.RowKit

set_option maxHeartbeats 400000 in
theorem shows_any (off every t want : Int) (w : World) :
    Calls Try.prog 19 #[.agg #[.int .i64 off, .int .i64 every], .int .i64 t, .int .i64 want] w fun e w' =>
      e = .returned (.bool (Clk.okT off every t && decide (Clk.face off every t = want))) ∧ Ext w w' := by
  cases ho : Clk.okT off every t
  · have hn : Clk.vld off every = false ∨ t < 0 ∨ 20000000 < t := by
      cases hb : Clk.vld off every
      · exact .inl rfl
      · right; simp [Clk.okT, hb] at ho; omega
    go_enter Try.func19, Try.ntmps19
    go_wp2_with fail
    refine (show_no _ _ _ _ hn).mono ?_
    rintro e w1 ⟨rfl, hx⟩
    go_wp2_with fail
    go_ret
    exact ⟨rfl, ((Ext.refl _).alloc _).trans hx⟩
  · obtain ⟨hv, h1, h2⟩ := (Clk.okT_iff _ _ _).1 ho
    go_enter Try.func19, Try.ntmps19
    go_wp2_with fail
    refine (show_yes _ _ _ _ hv h1 h2).mono ?_
    rintro e w1 ⟨rfl, hx⟩
    go_wp2_with fail
    go_ret
    exact ⟨by simp [Bool.beq_eq_decide_eq], ((Ext.refl _).alloc _).trans hx⟩

theorem Clk.head1 : Bound (Clk.ge 2 (-10) 11) 100 9 := by
  refine ⟨by omega, fun i hi => ?_, fun i hi hi2 => ?_⟩ <;>
    simp only [Clk.ge, decide_eq_false_iff_not, decide_eq_true_eq] <;> rw [Clk.face_neg _ _ _ (by omega) (by omega)] <;> rw [show (-(-10) : Int) = 10 from rfl] <;> omega
theorem Clk.head2 : Bound (Clk.gt 2 (-10) 11) 100 11 := by
  refine ⟨by omega, fun i hi => ?_, fun i hi hi2 => ?_⟩ <;>
    simp only [Clk.gt, decide_eq_false_iff_not, decide_eq_true_eq] <;> rw [Clk.face_neg _ _ _ (by omega) (by omega)] <;> rw [show (-(-10) : Int) = 10 from rfl] <;> omega
theorem Clk.head3 : Bound (Clk.ge 0 10 10) 100 10 := by
  refine ⟨by omega, fun i hi => ?_, fun i hi hi2 => ?_⟩ <;>
    simp only [Clk.ge, decide_eq_false_iff_not, decide_eq_true_eq] <;> rw [Clk.face_pos _ _ _ (by omega) (by omega)] <;> omega
theorem Clk.head4 : Bound (Clk.gt 0 10 10) 100 10 := by
  refine ⟨by omega, fun i hi => ?_, fun i hi hi2 => ?_⟩ <;>
    simp only [Clk.gt, decide_eq_false_iff_not, decide_eq_true_eq] <;> rw [Clk.face_pos _ _ _ (by omega) (by omega)] <;> omega

theorem headT1 (w : World) : Calls Try.prog 13 #[.agg #[.int .i64 2, .int .i64 (-10)], .int .i64 11, .int .i64 100] w fun e w' =>
      e = .returned (.tuple #[.int .i64 9, .int .i64 11, .bool true, .int .i64 0]) ∧ Ext w w' :=
  times_yes 2 (-10) 11 100 9 11 w (by decide) (by decide) (by decide) Clk.head1 Clk.head2
theorem headT2 (w : World) : Calls Try.prog 13 #[.agg #[.int .i64 0, .int .i64 10], .int .i64 10, .int .i64 100] w fun e w' =>
      e = .returned (.tuple #[.int .i64 0, .int .i64 0, .bool false, .int .i64 0]) ∧ Ext w w' :=
  times_yes 0 10 10 100 10 10 w (by decide) (by decide) (by decide) Clk.head3 Clk.head4
theorem headW1 (w : World) : Calls Try.prog 15 #[.agg #[.int .i64 2, .int .i64 (-10)], .int .i64 2, .int .i64 50] w fun e w' =>
      e = .returned (.tuple #[.bool true, .int .i64 0]) ∧ Ext w w' :=
  within_yes 2 (-10) 2 50 w (by decide) (by decide) (by decide) (by decide) (by decide)
theorem headW2 (w : World) : Calls Try.prog 15 #[.agg #[.int .i64 2, .int .i64 (-10)], .int .i64 2, .int .i64 51] w fun e w' =>
      e = .returned (.tuple #[.bool false, .int .i64 0]) ∧ Ext w w' :=
  within_yes 2 (-10) 2 51 w (by decide) (by decide) (by decide) (by decide) (by decide)
theorem headS (w : World) : Calls Try.prog 11 #[.agg #[.int .i64 0, .int .i64 1], .int .i64 0] w fun e w' =>
      e = .returned (.tuple #[.int .i64 0, .int .i64 1]) ∧ Ext w w' :=
  show_no 0 1 0 w (.inl (by decide))
theorem headF (t want : Int) (w : World) (h : (Clk.okT 2 (-10) t && decide (Clk.face 2 (-10) t = want)) = true) : Calls Try.prog 19 #[.agg #[.int .i64 2, .int .i64 (-10)], .int .i64 t, .int .i64 want] w fun e w' =>
      e = .returned (.bool true) ∧ Ext w w' := by
  have := shows_any 2 (-10) t want w
  rwa [h] at this

set_option maxRecDepth 100000 in
set_option maxHeartbeats 1000000 in
theorem head_any (w : World) : Calls Try.prog 9 #[] w fun e w' => e = .returned (.bool true) ∧ Ext w w' := by
  go_enter Try.func9, Try.ntmps9
  go_wp2_with fail
  refine (headT1 _).mono ?_
  rintro e w1 ⟨rfl, hx1⟩
  have X : Ext w w1 := ((Ext.refl _).alloc _).trans hx1
  have a0 : w1.cell? ⟨w.heap.size, 0, none⟩ = some (.int .i64 2) := hx1.keep (by simp)
  have a1 : w1.cell? ⟨w.heap.size, 1, none⟩ = some (.int .i64 (-10)) := hx1.keep (by simp)
  clear hx1
  go_wp2_with fail
  refine (headT2 _).mono ?_
  rintro e w2 ⟨rfl, hx⟩
  replace X := X.trans hx
  replace a0 := hx.keep a0
  replace a1 := hx.keep a1
  clear hx
  go_wp2_with fail
  refine (headW1 _).mono ?_
  rintro e w3 ⟨rfl, hx⟩
  replace X := X.trans hx
  replace a0 := hx.keep a0
  replace a1 := hx.keep a1
  clear hx
  go_wp2_with fail
  refine (headW2 _).mono ?_
  rintro e w4 ⟨rfl, hx⟩
  replace X := X.trans hx
  replace a0 := hx.keep a0
  replace a1 := hx.keep a1
  clear hx
  go_wp2_with fail
  refine (headS _).mono ?_
  rintro e w5 ⟨rfl, hx⟩
  replace X := X.trans hx
  replace a0 := hx.keep a0
  replace a1 := hx.keep a1
  clear hx
  go_wp2_with fail
  refine (headF 0 2 _ (by decide)).mono ?_
  rintro e w6 ⟨rfl, hx⟩
  replace X := X.trans hx
  replace a0 := hx.keep a0
  replace a1 := hx.keep a1
  clear hx
  go_wp2_with fail
  refine (headF 9 11 _ (by decide)).mono ?_
  rintro e w7 ⟨rfl, hx⟩
  replace X := X.trans hx
  replace a0 := hx.keep a0
  replace a1 := hx.keep a1
  clear hx
  go_wp2_with fail
  refine (headF 10 11 _ (by decide)).mono ?_
  rintro e w8 ⟨rfl, hx⟩
  replace X := X.trans hx
  replace a0 := hx.keep a0
  replace a1 := hx.keep a1
  clear hx
  go_wp2_with fail
  refine (headF 49 47 _ (by decide)).mono ?_
  rintro e w9 ⟨rfl, hx⟩
  replace X := X.trans hx
  replace a0 := hx.keep a0
  replace a1 := hx.keep a1
  clear hx
  go_wp2_with fail
  refine (headF 50 47 _ (by decide)).mono ?_
  rintro e w10 ⟨rfl, hx⟩
  replace X := X.trans hx
  clear hx a0 a1
  go_wp2_with fail
  go_ret
  exact ⟨rfl, X⟩

end Go.Proofs.Ytfgjeihchgfnnaa
