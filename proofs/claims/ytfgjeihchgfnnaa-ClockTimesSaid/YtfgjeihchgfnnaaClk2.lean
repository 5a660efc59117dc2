/- Contracts of package clock: Times, Within, and their closures. -/
import Derived.Test.YtfgjeihchgfnnaaClk1
import Derived.Test.YtfgjeihchgfnnaaSearch
namespace Go.Proofs.Ytfgjeihchgfnnaa
open Go.RowKit

set_option maxHeartbeats 400000 in
theorem times1_any (off every shown t : Int) (b1 b2 : Nat) (w : World) (hv : Clk.vld off every = true) (h1 : 0 ≤ t) (h2 : t ≤ 20000000)
    (c1 : w.cell? ⟨b1, 0, none⟩ = some (.func (.func 22) #[.agg #[.int .i64 off, .int .i64 every]] #[])) (c2 : w.cell? ⟨b2, 0, none⟩ = some (.int .i64 shown)) :
    Calls Try.prog 26 #[.int .i64 t, .pointer (some ⟨b1, 0, none⟩), .pointer (some ⟨b2, 0, none⟩)] w fun e w' => e = .returned (.bool (decide (shown ≤ Clk.face off every t))) ∧ Ext w w' := by
  go_enter Try.func26, Try.ntmps26
  go_wp2
  go_region_held3 (fun w' => w'.cell? ⟨b1, 0, none⟩ = some (.func (.func 22) #[.agg #[.int .i64 off, .int .i64 every]] #[]) ∧ w'.cell? ⟨b2, 0, none⟩ = some (.int .i64 shown)) (first | go_keep | (go_split_ands; exact ⟨hx.keep (by assumption), hx.keep (by assumption)⟩))
    (first | (go_at_call 22; refine (at_any _ _ _ _ hv h1 h2).mono ?_; rintro e w1 ⟨rfl, hx⟩))
  go_wp2
  go_ret
  exact ⟨rfl, ((Ext.refl _).drew).trans hx⟩

set_option maxHeartbeats 400000 in
theorem times2_any (off every shown t : Int) (b1 b2 : Nat) (w : World) (hv : Clk.vld off every = true) (h1 : 0 ≤ t) (h2 : t ≤ 20000000)
    (c1 : w.cell? ⟨b1, 0, none⟩ = some (.func (.func 22) #[.agg #[.int .i64 off, .int .i64 every]] #[])) (c2 : w.cell? ⟨b2, 0, none⟩ = some (.int .i64 shown)) :
    Calls Try.prog 27 #[.int .i64 t, .pointer (some ⟨b1, 0, none⟩), .pointer (some ⟨b2, 0, none⟩)] w fun e w' => e = .returned (.bool (decide (shown < Clk.face off every t))) ∧ Ext w w' := by
  go_enter Try.func27, Try.ntmps27
  go_wp2
  go_region_held3 (fun w' => w'.cell? ⟨b1, 0, none⟩ = some (.func (.func 22) #[.agg #[.int .i64 off, .int .i64 every]] #[]) ∧ w'.cell? ⟨b2, 0, none⟩ = some (.int .i64 shown)) (first | go_keep | (go_split_ands; exact ⟨hx.keep (by assumption), hx.keep (by assumption)⟩))
    (first | (go_at_call 22; refine (at_any _ _ _ _ hv h1 h2).mono ?_; rintro e w1 ⟨rfl, hx⟩))
  go_wp2
  go_ret
  exact ⟨rfl, ((Ext.refl _).drew).trans hx⟩

theorem Clk.enter1 : ∀ args w, (callFunc 26 args).run Try.prog w = .ok (.enter 26 args) w := enters_of Try.func26 (by kernel_rfl) rfl
theorem Clk.enter2 : ∀ args w, (callFunc 27 args).run Try.prog w = .ok (.enter 27 args) w := enters_of Try.func27 (by kernel_rfl) rfl

def Clk.ge (off every shown : Int) (i : Nat) : Bool := decide (shown ≤ Clk.face off every i)
def Clk.gt (off every shown : Int) (i : Nat) : Bool := decide (shown < Clk.face off every i)

theorem Clk.search1 (off every shown : Int) (b1 b2 n k : Nat) (w : World) (hv : Clk.vld off every = true) (hn : (n : Int) ≤ 20000000) (hk : Bound (Clk.ge off every shown) n k)
    (c1 : w.cell? ⟨b1, 0, none⟩ = some (.func (.func 22) #[.agg #[.int .i64 off, .int .i64 every]] #[])) (c2 : w.cell? ⟨b2, 0, none⟩ = some (.int .i64 shown)) :
    Calls Try.prog 25 #[.int .i64 n, .func (.func 26) #[] #[.pointer (some ⟨b1, 0, none⟩), .pointer (some ⟨b2, 0, none⟩)]] w fun e w' => e = .returned (.int .i64 k) ∧ Ext w w' :=
  search_at _ _ n k (Clk.ge off every shown) w Clk.enter1 (by omega) (fun W i hx hi => times1_any off every shown i b1 b2 W hv (by omega) (by omega) (hx.keep c1) (hx.keep c2)) hk
theorem Clk.search2 (off every shown : Int) (b1 b2 n k : Nat) (w : World) (hv : Clk.vld off every = true) (hn : (n : Int) ≤ 20000000) (hk : Bound (Clk.gt off every shown) n k)
    (c1 : w.cell? ⟨b1, 0, none⟩ = some (.func (.func 22) #[.agg #[.int .i64 off, .int .i64 every]] #[])) (c2 : w.cell? ⟨b2, 0, none⟩ = some (.int .i64 shown)) :
    Calls Try.prog 25 #[.int .i64 n, .func (.func 27) #[] #[.pointer (some ⟨b1, 0, none⟩), .pointer (some ⟨b2, 0, none⟩)]] w fun e w' => e = .returned (.int .i64 k) ∧ Ext w w' :=
  search_at _ _ n k (Clk.gt off every shown) w Clk.enter2 (by omega) (fun W i hx hi => times2_any off every shown i b1 b2 W hv (by omega) (by omega) (hx.keep c1) (hx.keep c2)) hk

set_option maxHeartbeats 800000 in
theorem times_yes (off every shown : Int) (n k1 k2 : Nat) (w : World) (hv : Clk.vld off every = true) (hn0 : 1 ≤ n) (hn : (n : Int) ≤ 20000000)
    (hk1 : Bound (Clk.ge off every shown) n k1) (hk2 : Bound (Clk.gt off every shown) n k2) :
    Calls Try.prog 13 #[.agg #[.int .i64 off, .int .i64 every], .int .i64 shown, .int .i64 n] w fun e w' =>
      e = .returned (.tuple #[.int .i64 (if k1 = k2 then 0 else k1), .int .i64 (if k1 = k2 then 0 else k2), .bool (!decide (k1 = k2)), .int .i64 0]) ∧ Ext w w' := by
  have K1 := Lib.hid hk1
  have K2 := Lib.hid hk2
  have hE : Clk.isEnd n = true := by simp [Clk.isEnd]; omega
  clear hk1 hk2
  go_enter Try.func13, Try.ntmps13
  go_wp2_with fail
  refine (valid_any _ _ _).mono ?_
  rintro e w1 ⟨rfl, hx⟩
  go_wp2_with fail
  refine (isEnd_any _ _).mono ?_
  rintro e w' ⟨rfl, rfl⟩
  obtain ⟨hc, hf⟩ := hx.cells
  have hz := hx.size
  simp at hz
  go_wp2_with fail
  have c2 : w1.cell? ⟨w.heap.size + 1, 0, none⟩ = some (.int .i64 shown) := by
    refine hx.keep ?_
    have := cell_box (w.alloc (.cells #[.int .i64 off, .int .i64 every] 23)) (.int .i64 shown) 3
    rwa [World.size_alloc] at this
  clear hc hf
  refine (Clk.search1 off every shown _ _ n k1 _ hv hn K1.out (cell_box _ _ _) (cell_kept _ c2)).mono ?_
  rintro e w2 ⟨rfl, hx2⟩
  go_wp2_with fail
  refine (Clk.search2 off every shown _ _ n k2 _ hv hn K2.out (hx2.keep (cell_box _ _ _)) (hx2.keep (cell_kept _ c2))).mono ?_
  rintro e w3 ⟨rfl, hx3⟩
  have hX : Ext w w3 := (((((Ext.refl _).alloc _).alloc _).trans hx).alloc _).trans (hx2.trans hx3)
  clear hx2 hx3 c2 hx hz hE hv hn hn0 K1 K2
  by_cases hk : k1 = k2
  · subst hk
    go_wp2
    exact bodyPost_ret (by simp [results, Try.results13, go_sem]; rfl) rfl ⟨by simp, hX⟩
  · have hkb : ((k1 : Int) == (k2 : Int)) = false := by simp; omega
    go_wp2
    exact bodyPost_ret (by simp [results, Try.results13, go_sem]; rfl) rfl ⟨by simp, hX⟩

set_option maxHeartbeats 800000 in
theorem times_no (off every shown n : Int) (w : World) (hv : Clk.vld off every = false ∨ Clk.isEnd n = false) :
    Calls Try.prog 13 #[.agg #[.int .i64 off, .int .i64 every], .int .i64 shown, .int .i64 n] w fun e w' =>
      e = .returned (.tuple #[.int .i64 0, .int .i64 0, .bool false, .int .i64 1]) ∧ Ext w w' := by
  cases hb : Clk.vld off every
  · clear hv
    go_enter Try.func13, Try.ntmps13
    go_wp2_with fail
    refine (valid_any _ _ _).mono ?_
    rintro e w1 ⟨rfl, hx⟩
    go_wp2_with fail
    exact bodyPost_ret (by simp [results, Try.results13, go_sem]) rfl ⟨rfl, (((Ext.refl _).alloc _).alloc _).trans hx⟩
  · have he : Clk.isEnd n = false := by rw [hb] at hv; simpa using hv
    clear hv
    go_enter Try.func13, Try.ntmps13
    go_wp2_with fail
    refine (valid_any _ _ _).mono ?_
    rintro e w1 ⟨rfl, hx⟩
    go_wp2_with fail
    refine (isEnd_any _ _).mono ?_
    rintro e w' ⟨rfl, rfl⟩
    go_wp2_with fail
    exact bodyPost_ret (by simp [results, Try.results13, go_sem]) rfl ⟨rfl, (((Ext.refl _).alloc _).alloc _).trans hx⟩

/-- What Within's closure says. -/
def Clk.wrong (off every drift t : Int) : Bool := decide (drift < Clk.face off every t - t ∨ Clk.face off every t - t < -drift)

theorem Clk.face_bd (off every t : Int) (hv : Clk.vld off every = true) (h1 : 0 ≤ t) (h2 : t ≤ 20000000) : -20001000 ≤ Clk.face off every t ∧ Clk.face off every t ≤ 40001000 := by
  have hv' : (-1000 ≤ off ∧ off ≤ 1000 ∧ (every = 0 ∨ (2 ≤ every ∧ every ≤ 10000000) ∨ (every ≤ -2 ∧ -10000000 ≤ every))) := by simpa [Clk.vld] using hv
  have := Clk.tdiv_bd t every h1
  unfold Clk.face
  split <;> omega

set_option maxHeartbeats 400000 in
theorem within1_any (off every drift t : Int) (b1 b2 : Nat) (w : World) (hv : Clk.vld off every = true) (h1 : 0 ≤ t) (h2 : t ≤ 20000000) (d1 : 0 ≤ drift) (d2 : drift ≤ 1000)
    (c1 : w.cell? ⟨b1, 0, none⟩ = some (.int .i64 off)) (c1' : w.cell? ⟨b1, 1, none⟩ = some (.int .i64 every)) (c2 : w.cell? ⟨b2, 0, none⟩ = some (.int .i64 drift)) :
    Calls Try.prog 28 #[.int .i64 t, .pointer (some ⟨b1, 0, none⟩), .pointer (some ⟨b2, 0, none⟩)] w fun e w' => e = .returned (.bool (Clk.wrong off every drift t)) ∧ Ext w w' := by
  have hb := Clk.face_bd off every t hv h1 h2
  go_enter Try.func28, Try.ntmps28
  go_wp2_with fail
  refine (at_any _ _ _ _ hv h1 h2).mono ?_
  rintro e w1 ⟨rfl, hx⟩
  have c3 := hx.keep c2
  go_wp2
  all_goals
    go_ret
    exact ⟨ret_bool (by rw [Bool.eq_iff_iff]; simp [Clk.wrong]; try omega), hx⟩

/-- What Within checks of its arguments. -/
def Clk.okW (off every drift n : Int) : Bool := Clk.vld off every && decide (0 ≤ drift ∧ drift ≤ 1000) && Clk.isEnd n

set_option maxHeartbeats 800000 in
theorem within_yes (off every drift n : Int) (w : World) (hv : Clk.vld off every = true) (d1 : 0 ≤ drift) (d2 : drift ≤ 1000) (n1 : 1 ≤ n) (n2 : n ≤ 20000000) :
    Calls Try.prog 15 #[.agg #[.int .i64 off, .int .i64 every], .int .i64 drift, .int .i64 n] w fun e w' =>
      e = .returned (.tuple #[.bool (!Clk.wrong off every drift 0 && !Clk.wrong off every drift (n - 1)), .int .i64 0]) ∧ Ext w w' := by
  have hE : Clk.isEnd n = true := by simp [Clk.isEnd]; omega
  go_enter Try.func15, Try.ntmps15
  go_wp2_with fail
  refine (valid_any _ _ _).mono ?_
  rintro e w1 ⟨rfl, hx⟩
  have k1 : w1.cell? ⟨w.heap.size, 0, none⟩ = some (.int .i64 off) := by
    refine hx.keep ?_
    simp
  have k2 : w1.cell? ⟨w.heap.size, 1, none⟩ = some (.int .i64 every) := by
    refine hx.keep ?_
    simp
  have k3 : w1.cell? ⟨w.heap.size + 1, 0, none⟩ = some (.int .i64 drift) := by
    refine hx.keep ?_
    have := cell_box (w.alloc (.cells #[.int .i64 off, .int .i64 every] 23)) (.int .i64 drift) 3
    rwa [World.size_alloc] at this
  go_wp2_with fail
  refine (isEnd_any _ _).mono ?_
  rintro e w' ⟨rfl, rfl⟩
  go_wp2_with fail
  refine (within1_any off every drift _ _ _ _ hv (by omega) (by omega) d1 d2 k1 k2 k3).mono ?_
  rintro e w2 ⟨rfl, hx2⟩
  have k4 := hx2.keep k1
  have k5 := hx2.keep k2
  have k6 := hx2.keep k3
  have hX : Ext w w2 := ((((Ext.refl _).alloc _).alloc _).trans hx).trans hx2
  clear hx hx2 k1 k2 k3
  cases hw : Clk.wrong off every drift 0
  · go_wp2_with fail
    refine (within1_any off every drift _ _ _ _ hv (by omega) (by omega) d1 d2 k4 k5 k6).mono ?_
    rintro e w3 ⟨rfl, hx3⟩
    clear k4 k5 k6
    go_wp2_with fail
    go_ret2
    exact ⟨by simp [hw], hX.trans hx3⟩
  · go_wp2_with fail
    go_ret2
    exact ⟨by simp [hw], hX⟩

set_option maxHeartbeats 800000 in
theorem within_no (off every drift n : Int) (w : World) (hv : Clk.okW off every drift n = false) :
    Calls Try.prog 15 #[.agg #[.int .i64 off, .int .i64 every], .int .i64 drift, .int .i64 n] w fun e w' =>
      e = .returned (.tuple #[.bool false, .int .i64 1]) ∧ Ext w w' := by
  cases hb : Clk.vld off every
  · clear hv
    go_enter Try.func15, Try.ntmps15
    go_wp2_with fail
    refine (valid_any _ _ _).mono ?_
    rintro e w1 ⟨rfl, hx⟩
    go_wp2_with fail
    go_ret2
    exact ⟨rfl, (((Ext.refl _).alloc _).alloc _).trans hx⟩
  · by_cases hd : 0 ≤ drift ∧ drift ≤ 1000
    · have he : Clk.isEnd n = false := by simpa [Clk.okW, hb, hd] using hv
      obtain ⟨d1, d2⟩ := hd
      clear hv
      go_enter Try.func15, Try.ntmps15
      go_wp2_with fail
      refine (valid_any _ _ _).mono ?_
      rintro e w1 ⟨rfl, hx⟩
      have k3 : w1.cell? ⟨w.heap.size + 1, 0, none⟩ = some (.int .i64 drift) := by
        refine hx.keep ?_
        have := cell_box (w.alloc (.cells #[.int .i64 off, .int .i64 every] 23)) (.int .i64 drift) 3
        rwa [World.size_alloc] at this
      go_wp2_with fail
      refine (isEnd_any _ _).mono ?_
      rintro e w' ⟨rfl, rfl⟩
      go_wp2_with fail
      go_ret2
      exact ⟨rfl, (((Ext.refl _).alloc _).alloc _).trans hx⟩
    · clear hv
      go_enter Try.func15, Try.ntmps15
      go_wp2_with fail
      refine (valid_any _ _ _).mono ?_
      rintro e w1 ⟨rfl, hx⟩
      have k3 : w1.cell? ⟨w.heap.size + 1, 0, none⟩ = some (.int .i64 drift) := by
        refine hx.keep ?_
        have := cell_box (w.alloc (.cells #[.int .i64 off, .int .i64 every] 23)) (.int .i64 drift) 3
        rwa [World.size_alloc] at this
      go_wp2_with fail
      all_goals
        first
          | (exfalso; omega)
          | (go_ret2; exact ⟨rfl, (((Ext.refl _).alloc _).alloc _).trans hx⟩)

end Go.Proofs.Ytfgjeihchgfnnaa
