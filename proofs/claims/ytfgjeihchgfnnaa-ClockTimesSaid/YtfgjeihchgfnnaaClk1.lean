/- Contracts of package clock and of the reference: Valid, Abs, isEnd, Few, at, Shows. -/
import Derived.Test.YtfgjeihchgfnnaaBase
namespace Go.Proofs.Ytfgjeihchgfnnaa
open Go.RowKit

/-- Which clocks are valid. -/
def Clk.vld (off every : Int) : Bool := decide (-1000 ≤ off ∧ off ≤ 1000 ∧ (every = 0 ∨ (2 ≤ every ∧ every ≤ 10000000) ∨ (every ≤ -2 ∧ -10000000 ≤ every)))
/-- Which numbers are ends. -/
def Clk.isEnd (n : Int) : Bool := decide (1 ≤ n ∧ n ≤ 20000000)
def Clk.few (n : Int) : Bool := decide (n ≤ 5000 ∨ 20000000 < n)
/-- What a clock shows. -/
def Clk.face (off every t : Int) : Int := if every = 0 then t + off else t + off + t.tdiv every
def Clk.abs (n : Int) : Int := if n < 0 then -n else n

set_option maxHeartbeats 400000 in
theorem valid_any (off every : Int) (w : World) :
    Calls Try.prog 17 #[.agg #[.int .i64 off, .int .i64 every]] w fun e w' => e = .returned (.bool (Clk.vld off every)) ∧ Ext w w' := by
  go_enter Try.func17, Try.ntmps17
  go_wp2
  all_goals
    go_ret
    exact ⟨ret_bool (by rw [Bool.eq_iff_iff]; simp [Clk.vld]; try omega), (Ext.refl _).alloc _⟩

set_option maxHeartbeats 400000 in
theorem abs_any (n : Int) (w : World) (h : -9223372036854775807 ≤ n) (h2 : n ≤ 9223372036854775807) :
    Calls Try.prog 21 #[.int .i64 n] w fun e w' => e = .returned (.int .i64 (Clk.abs n)) ∧ w = w' := by
  go_enter Try.func21, Try.ntmps21
  go_wp2
  all_goals
    go_ret
    exact ⟨ret_int (by unfold Clk.abs; split <;> omega), rfl⟩

/-- Abs returns some number, whatever it is called with. -/
def Clk.SomeInt (w : World) (e : Ending) (w' : World) : Prop := ∃ r : Int, e = .returned (.int .i64 r) ∧ w = w'
set_option maxHeartbeats 400000 in
theorem abs_wide (n : Int) (w : World) : Calls Try.prog 21 #[.int .i64 n] w (Clk.SomeInt w) := by
  go_enter Try.func21, Try.ntmps21
  go_wp2
  all_goals
    go_ret
    exact ⟨_, rfl, rfl⟩

set_option maxHeartbeats 400000 in
theorem isEnd_any (n : Int) (w : World) :
    Calls Try.prog 24 #[.int .i64 n] w fun e w' => e = .returned (.bool (Clk.isEnd n)) ∧ w = w' := by
  go_enter Try.func24, Try.ntmps24
  go_wp2
  all_goals
    go_ret
    exact ⟨ret_bool (by simp [Clk.isEnd]; try omega), rfl⟩

set_option maxHeartbeats 400000 in
theorem few_any (n : Int) (w : World) :
    Calls Try.prog 10 #[.int .i64 n] w fun e w' => e = .returned (.bool (Clk.few n)) ∧ w = w' := by
  go_enter Try.func10, Try.ntmps10
  go_wp2
  all_goals
    go_ret
    exact ⟨ret_bool (by simp [Clk.few]; try omega), rfl⟩

set_option maxHeartbeats 400000 in
theorem rvalid_any (off every : Int) (w : World) (h1 : -9223372036854775808 ≤ every) (h2 : every ≤ 9223372036854775807) :
    Calls Try.prog 18 #[.agg #[.int .i64 off, .int .i64 every]] w fun e w' => e = .returned (.bool (Clk.vld off every)) ∧ Ext w w' := by
  go_enter Try.func18, Try.ntmps18
  go_wp2_with (first | (go_at_call 21; refine (abs_any _ _ (by omega) (by omega)).mono ?_; rintro e w' ⟨rfl, rfl⟩))
  all_goals
    go_ret
    exact ⟨ret_bool (by rw [Bool.eq_iff_iff]; first | (simp only [Clk.vld, Bool.or_eq_true, beq_iff_eq, decide_eq_true_eq]; unfold Clk.abs; split <;> omega) | (simp [Clk.vld]; try omega)), (Ext.refl _).alloc _⟩

theorem Clk.tdiv_bd (t e : Int) (h : 0 ≤ t) : -t ≤ t.tdiv e ∧ t.tdiv e ≤ t := by
  have h1 : (t.tdiv e).natAbs ≤ t.natAbs := by rw [Int.natAbs_tdiv]; exact Nat.div_le_self _ _
  omega

set_option maxHeartbeats 400000 in
theorem at_any (off every t : Int) (w : World) (hv : Clk.vld off every = true) (h1 : 0 ≤ t) (h2 : t ≤ 20000000) :
    Calls Try.prog 22 #[.agg #[.int .i64 off, .int .i64 every], .int .i64 t] w fun e w' => e = .returned (.int .i64 (Clk.face off every t)) ∧ Ext w w' := by
  have hv' : (-1000 ≤ off ∧ off ≤ 1000 ∧ (every = 0 ∨ (2 ≤ every ∧ every ≤ 10000000) ∨ (every ≤ -2 ∧ -10000000 ≤ every))) := by simpa [Clk.vld] using hv
  obtain ⟨a1, a2, a3⟩ := hv'
  clear hv
  by_cases he : every = 0
  · subst he
    go_enter Try.func22, Try.ntmps22
    go_wp2
    go_ret
    exact ⟨rfl, (Ext.refl _).alloc _⟩
  · have hb : (every == 0) = false := by simp [he]
    go_enter Try.func22, Try.ntmps22
    go_wp2
    go_quiet (fail)
    go_wp2
    go_ret
    have hd := Clk.tdiv_bd t every h1
    exact ⟨ret_int (by unfold Clk.face; rw [if_neg he, IntWalk.wrap64_in (t.tdiv every) ⟨by omega, by omega⟩, IntWalk.wrap64_in _ ⟨by omega, by omega⟩]), ((Ext.refl _).alloc _).drewN _⟩

/-- What Show returns. -/
def Clk.okT (off every t : Int) : Bool := Clk.vld off every && decide (0 ≤ t ∧ t ≤ 20000000)
theorem Clk.okT_iff (off every t : Int) : Clk.okT off every t = true ↔ Clk.vld off every = true ∧ 0 ≤ t ∧ t ≤ 20000000 := by simp [Clk.okT]
def Clk.show1 (off every t : Int) : Int := if Clk.okT off every t then Clk.face off every t else 0
def Clk.show2 (off every t : Int) : Int := if Clk.okT off every t then 0 else 1

set_option maxHeartbeats 400000 in
theorem show_yes (off every t : Int) (w : World) (hv : Clk.vld off every = true) (h1 : 0 ≤ t) (h2 : t ≤ 20000000) :
    Calls Try.prog 11 #[.agg #[.int .i64 off, .int .i64 every], .int .i64 t] w fun e w' => e = .returned (.tuple #[.int .i64 (Clk.face off every t), .int .i64 0]) ∧ Ext w w' := by
  go_enter Try.func11, Try.ntmps11
  go_wp2_with fail
  refine (valid_any _ _ _).mono ?_
  rintro e w1 ⟨rfl, hx⟩
  obtain ⟨hc, hf⟩ := hx.cells
  go_wp2_with fail
  refine (at_any _ _ _ _ hv h1 h2).mono ?_
  rintro e w2 ⟨rfl, hx2⟩
  clear hc hf
  go_wp2
  go_ret2
  exact ⟨rfl, (((Ext.refl _).alloc _).trans hx).trans hx2⟩

set_option maxHeartbeats 400000 in
theorem show_no (off every t : Int) (w : World) (hv : Clk.vld off every = false ∨ t < 0 ∨ 20000000 < t) :
    Calls Try.prog 11 #[.agg #[.int .i64 off, .int .i64 every], .int .i64 t] w fun e w' => e = .returned (.tuple #[.int .i64 0, .int .i64 1]) ∧ Ext w w' := by
  cases hb : Clk.vld off every
  all_goals
    rw [hb] at hv
    go_enter Try.func11, Try.ntmps11
    go_wp2_with fail
    refine (valid_any _ _ _).mono ?_
    rintro e w1 ⟨rfl, hx⟩
    simp only [hb]
    go_wp2_with fail
    all_goals
      first
        | (exfalso; simp at hv; omega)
        | (go_ret2; exact ⟨rfl, ((Ext.refl _).alloc _).trans hx⟩)

theorem show_any (off every t : Int) (w : World) :
    Calls Try.prog 11 #[.agg #[.int .i64 off, .int .i64 every], .int .i64 t] w fun e w' => e = .returned (.tuple #[.int .i64 (Clk.show1 off every t), .int .i64 (Clk.show2 off every t)]) ∧ Ext w w' := by
  unfold Clk.show1 Clk.show2
  by_cases h : Clk.okT off every t = true
  · rw [h]; obtain ⟨h1, h2, h3⟩ := (Clk.okT_iff _ _ _).1 h; exact show_yes off every t w h1 h2 h3
  · rw [if_neg h, if_neg h]
    refine show_no off every t w ?_
    rw [Clk.okT_iff] at h
    cases hb : Clk.vld off every
    · exact .inl rfl
    · right; rw [hb] at h; simp at h; omega

end Go.Proofs.Ytfgjeihchgfnnaa
