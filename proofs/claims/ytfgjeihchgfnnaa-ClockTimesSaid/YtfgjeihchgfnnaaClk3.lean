/- Contracts of the clock's reference: Shows, Show, Times, Within. -/
import Derived.Test.YtfgjeihchgfnnaaClkMath
namespace Go.Proofs.Ytfgjeihchgfnnaa
open Go.RowKit

set_option maxHeartbeats 400000 in
theorem rshows_any (off every t : Int) (w : World) (hv : Clk.vld off every = true) (h1 : 0 ≤ t) (h2 : t ≤ 20000000) :
    Calls Try.prog 23 #[.agg #[.int .i64 off, .int .i64 every], .int .i64 t] w fun e w' => e = .returned (.int .i64 (Clk.face off every t)) ∧ Ext w w' := by
  obtain ⟨a1, a2, a3⟩ := (Clk.vld_iff _ _).1 hv
  clear hv
  rcases a3 with he | ⟨e1, e2⟩ | ⟨e1, e2⟩
  · subst he
    go_enter Try.func23, Try.ntmps23
    go_wp2
    go_ret
    exact ⟨rfl, (Ext.refl _).alloc _⟩
  · have hb : (every == 0) = false := by simp; omega
    have hf := Clk.face_pos off every t e1 h1
    have hd : Clk.abs every = every := by unfold Clk.abs; rw [if_neg (by omega)]
    have HF := Lib.hid hf
    have HD := Lib.hid hd
    have q1 : 0 ≤ t / every := Int.ediv_nonneg h1 (by omega)
    have q2 : t / every ≤ t := Int.ediv_le_self _ h1
    clear hf hd
    go_enter Try.func23, Try.ntmps23
    go_wp2_with fail
    refine (abs_any _ _ (by omega) (by omega)).mono ?_
    rintro e w' ⟨rfl, rfl⟩
    rw [HD.out]
    go_wp2_with fail
    go_ret
    exact ⟨ret_int (by rw [HF.out]), (Ext.refl _).alloc _⟩
  · obtain ⟨m, rfl⟩ : ∃ m, every = -m := ⟨-every, by omega⟩
    have hb : (-m == 0) = false := by simp; omega
    have hf := Clk.face_neg off (-m) t e1 h1
    rw [Int.neg_neg] at hf
    have hd : Clk.abs (-m) = m := by unfold Clk.abs; rw [if_pos (by omega)]; omega
    have HF := Lib.hid hf
    have HD := Lib.hid hd
    have q1 : 0 ≤ t / m := Int.ediv_nonneg h1 (by omega)
    have q2 : t / m ≤ t := Int.ediv_le_self _ h1
    clear hf hd
    go_enter Try.func23, Try.ntmps23
    go_wp2_with fail
    refine (abs_any _ _ (by omega) (by omega)).mono ?_
    rintro e w' ⟨rfl, rfl⟩
    rw [HD.out]
    go_wp2_with fail
    go_ret
    exact ⟨ret_int (by rw [HF.out]; omega), (Ext.refl _).alloc _⟩

set_option maxHeartbeats 400000 in
theorem rshow_yes (off every t : Int) (w : World) (hv : Clk.vld off every = true) (g1 : -9223372036854775808 ≤ every) (g2 : every ≤ 9223372036854775807) (h1 : 0 ≤ t) (h2 : t ≤ 20000000) :
    Calls Try.prog 12 #[.agg #[.int .i64 off, .int .i64 every], .int .i64 t] w fun e w' => e = .returned (.tuple #[.int .i64 (Clk.face off every t), .int .i64 0]) ∧ Ext w w' := by
  go_enter Try.func12, Try.ntmps12
  go_wp2_with fail
  refine (rvalid_any _ _ _ g1 g2).mono ?_
  rintro e w1 ⟨rfl, hx⟩
  obtain ⟨hc, hf⟩ := hx.cells
  go_wp2_with fail
  refine (rshows_any _ _ _ _ hv h1 h2).mono ?_
  rintro e w2 ⟨rfl, hx2⟩
  clear hc hf
  go_wp2
  go_ret2
  exact ⟨rfl, (((Ext.refl _).alloc _).trans hx).trans hx2⟩

set_option maxHeartbeats 400000 in
theorem rshow_no (off every t : Int) (w : World) (g1 : -9223372036854775808 ≤ every) (g2 : every ≤ 9223372036854775807) (hv : Clk.vld off every = false ∨ t < 0 ∨ 20000000 < t) :
    Calls Try.prog 12 #[.agg #[.int .i64 off, .int .i64 every], .int .i64 t] w fun e w' => e = .returned (.tuple #[.int .i64 0, .int .i64 1]) ∧ Ext w w' := by
  cases hb : Clk.vld off every
  all_goals
    rw [hb] at hv
    go_enter Try.func12, Try.ntmps12
    go_wp2_with fail
    refine (rvalid_any _ _ _ g1 g2).mono ?_
    rintro e w1 ⟨rfl, hx⟩
    simp only [hb]
    go_wp2_with fail
    all_goals
      first
        | (exfalso; simp at hv; omega)
        | (go_ret2; exact ⟨rfl, ((Ext.refl _).alloc _).trans hx⟩)

theorem rshow_any (off every t : Int) (w : World) (g1 : -9223372036854775808 ≤ every) (g2 : every ≤ 9223372036854775807) :
    Calls Try.prog 12 #[.agg #[.int .i64 off, .int .i64 every], .int .i64 t] w fun e w' => e = .returned (.tuple #[.int .i64 (Clk.show1 off every t), .int .i64 (Clk.show2 off every t)]) ∧ Ext w w' := by
  unfold Clk.show1 Clk.show2
  by_cases h : Clk.okT off every t = true
  · rw [h]; obtain ⟨h1, h2, h3⟩ := (Clk.okT_iff _ _ _).1 h; exact rshow_yes off every t w h1 g1 g2 h2 h3
  · rw [if_neg h, if_neg h]
    refine rshow_no off every t w g1 g2 ?_
    rw [Clk.okT_iff] at h
    cases hb : Clk.vld off every
    · exact .inl rfl
    · right; rw [hb] at h; simp at h; omega

theorem Clk.okW_iff (off every drift n : Int) : Clk.okW off every drift n = true ↔ Clk.vld off every = true ∧ 0 ≤ drift ∧ drift ≤ 1000 ∧ 1 ≤ n ∧ n ≤ 20000000 := by
  simp [Clk.okW, Clk.isEnd, and_assoc]
theorem Clk.okW_not (off every drift n : Int) : Clk.okW off every drift n = false ↔ ¬ (Clk.vld off every = true ∧ 0 ≤ drift ∧ drift ≤ 1000 ∧ 1 ≤ n ∧ n ≤ 20000000) := by
  rw [← Clk.okW_iff]; simp

set_option maxHeartbeats 400000 in
theorem rwithin_no (off every drift n : Int) (w : World) (g1 : -9223372036854775808 ≤ every) (g2 : every ≤ 9223372036854775807) (hv : Clk.okW off every drift n = false) :
    Calls Try.prog 16 #[.agg #[.int .i64 off, .int .i64 every], .int .i64 drift, .int .i64 n] w fun e w' =>
      e = .returned (.tuple #[.bool false, .int .i64 1]) ∧ Ext w w' := by
  have hv' := (Clk.okW_not _ _ _ _).1 hv
  clear hv
  cases hb : Clk.vld off every
  · clear hv'
    go_enter Try.func16, Try.ntmps16
    go_wp2_with fail
    refine (rvalid_any _ _ _ g1 g2).mono ?_
    rintro e w1 ⟨rfl, hx⟩
    go_wp2_with fail
    go_ret2
    exact ⟨rfl, ((Ext.refl _).alloc _).trans hx⟩
  · have hr : drift < 0 ∨ 1000 < drift ∨ n < 1 ∨ 20000000 < n := by rw [hb] at hv'; simp at hv'; omega
    clear hv'
    go_enter Try.func16, Try.ntmps16
    go_wp2_with fail
    refine (rvalid_any _ _ _ g1 g2).mono ?_
    rintro e w1 ⟨rfl, hx⟩
    go_wp2_with fail
    all_goals
      first
        | (exfalso; omega)
        | (go_ret2; exact ⟨rfl, ((Ext.refl _).alloc _).trans hx⟩)

/-- What the reference's Within says of all times. -/
def Clk.all (off every drift : Int) (n : Nat) : Bool := decide (∀ i, i < n → Clk.wrong off every drift i = false)

theorem Clk.all_ends (off every drift : Int) (n : Nat) (hv : Clk.vld off every = true) (hn : 1 ≤ n) : Clk.all off every drift n = (!Clk.wrong off every drift 0 && !Clk.wrong off every drift ((n : Int) - 1)) := by
  rw [Bool.eq_iff_iff]
  simp only [Clk.all, decide_eq_true_eq, Bool.and_eq_true, Bool.not_eq_true']
  constructor
  · intro h
    refine ⟨h 0 (by omega), ?_⟩
    have := h (n - 1) (by omega)
    rwa [show ((n - 1 : Nat) : Int) = (n : Int) - 1 by omega] at this
  · rintro ⟨h0, h1⟩ i hi
    exact Clk.ends off every drift n i hv h0 h1 (by omega) (by omega)

set_option maxHeartbeats 800000 in
theorem rwithin_yes (off every drift : Int) (n : Nat) (w : World) (hv : Clk.vld off every = true) (g1 : -9223372036854775808 ≤ every) (g2 : every ≤ 9223372036854775807) (d1 : 0 ≤ drift) (d2 : drift ≤ 1000) (n1 : 1 ≤ n) (n2 : (n : Int) ≤ 20000000) :
    Calls Try.prog 16 #[.agg #[.int .i64 off, .int .i64 every], .int .i64 drift, .int .i64 n] w fun e w' =>
      e = .returned (.tuple #[.bool (Clk.all off every drift n), .int .i64 0]) ∧ Ext w w' := by
  have b1 : decide (drift < 0) = false := by simp; omega
  have b2 : decide (1000 < drift) = false := by simp; omega
  have b3 : decide ((n : Int) < 1) = false := by simp; omega
  have b4 : decide (20000000 < (n : Int)) = false := by simp; omega
  go_enter Try.func16, Try.ntmps16
  go_wp2_with fail
  refine (rvalid_any _ _ _ g1 g2).mono ?_
  rintro e w1 ⟨rfl, hx⟩
  have k1 : w1.cell? ⟨w.heap.size, 0, none⟩ = some (.int .i64 off) := by
    refine hx.keep ?_
    simp
  have k2 : w1.cell? ⟨w.heap.size, 1, none⟩ = some (.int .i64 every) := by
    refine hx.keep ?_
    simp
  go_wp2_with fail
  clear b1 b2 b3 b4
  have hX : Ext w w1 := ((Ext.refl _).alloc _).trans hx
  clear hx
  go_loopw [8] (fun i wr => ∃ k : Nat, k ≤ n ∧ i = .int .i64 k ∧ Ext w1 wr ∧ Hid (∀ j, j < k → Clk.wrong off every drift j = false)) (fun i _ => n - (intOf i).toNat)
  case atStart => exact ⟨0, Nat.zero_le _, rfl, Ext.refl _, (fun j hj => by omega : ∀ j : Nat, j < 0 → Clk.wrong off every drift j = false)⟩
  case round =>
    obtain ⟨k, hk, rfl, hx, I⟩ := hrel
    have c1 := hx.keep k1
    have c2 := hx.keep k2
    by_cases hlt : k < n
    · have fb := Clk.face_bd off every k hv (by omega) (by omega)
      cases hw : Clk.wrong off every drift k
      · have H := Lib.hid hw
        have hw' := (Clk.wrong_not _ _ _ _).1 hw
        have ha : ¬ drift < Clk.abs (Clk.face off every k - k) := by rw [Clk.abs_gt]; omega
        clear hw hw'
        go_wp2_with fail
        refine (rshows_any _ _ _ _ hv (by omega) (by omega)).mono ?_
        rintro e w2 ⟨rfl, hx2⟩
        go_wp2_with fail
        refine (abs_any _ _ (by omega) (by omega)).mono ?_
        rintro e w' ⟨rfl, rfl⟩
        go_wp2_with fail
        go_roundw
        case rel => exact ⟨k + 1, by omega, by go_num, hx.trans hx2, (fun j hj => by
          by_cases e : j = k
          · subst e; exact H.out
          · exact I.out j (by omega) : ∀ j : Nat, j < k + 1 → Clk.wrong off every drift j = false)⟩
        case measure => simp [intOf]; omega
      · have H := Lib.hid hw
        have hw' := (Clk.wrong_iff _ _ _ _).1 hw
        have ha : drift < Clk.abs (Clk.face off every k - k) := by rw [Clk.abs_gt]; omega
        clear hw hw'
        go_wp2_with fail
        refine (rshows_any _ _ _ _ hv (by omega) (by omega)).mono ?_
        rintro e w2 ⟨rfl, hx2⟩
        go_wp2_with fail
        refine (abs_any _ _ (by omega) (by omega)).mono ?_
        rintro e w' ⟨rfl, rfl⟩
        go_wp2_with fail
        go_ret2
        have hall : Clk.all off every drift n = false := by
          simp only [Clk.all, decide_eq_false_iff_not]
          intro hh
          have := hh k hlt
          rw [H.out] at this; cases this
        exact ⟨by rw [hall]; rfl, hX.trans (hx.trans hx2)⟩
    · go_wp2_with fail
      go_ret2
      have hall : Clk.all off every drift n = true := by
        simp only [Clk.all, decide_eq_true_eq]
        intro j hj
        exact I.out j (by omega)
      exact ⟨by rw [hall]; rfl, hX.trans hx⟩

set_option maxHeartbeats 400000 in
theorem rtimes_no (off every shown n : Int) (w : World) (g1 : -9223372036854775808 ≤ every) (g2 : every ≤ 9223372036854775807) (hv : Clk.vld off every = false ∨ Clk.isEnd n = false) :
    Calls Try.prog 14 #[.agg #[.int .i64 off, .int .i64 every], .int .i64 shown, .int .i64 n] w fun e w' =>
      e = .returned (.tuple #[.int .i64 0, .int .i64 0, .bool false, .int .i64 1]) ∧ Ext w w' := by
  cases hb : Clk.vld off every
  · clear hv
    go_enter Try.func14, Try.ntmps14
    go_wp2_with fail
    refine (rvalid_any _ _ _ g1 g2).mono ?_
    rintro e w1 ⟨rfl, hx⟩
    go_wp2_with fail
    exact bodyPost_ret (by simp [results, Try.results14, go_sem]) rfl ⟨rfl, ((Ext.refl _).alloc _).trans hx⟩
  · have he : n < 1 ∨ 20000000 < n := by rw [hb] at hv; simp [Clk.isEnd] at hv; omega
    clear hv
    go_enter Try.func14, Try.ntmps14
    go_wp2_with fail
    refine (rvalid_any _ _ _ g1 g2).mono ?_
    rintro e w1 ⟨rfl, hx⟩
    go_wp2_with fail
    all_goals
      first
        | (exfalso; omega)
        | exact bodyPost_ret (by simp [results, Try.results14, go_sem]) rfl ⟨rfl, ((Ext.refl _).alloc _).trans hx⟩

set_option maxHeartbeats 800000 in
theorem rtimes_yes (off every shown : Int) (n k1 k2 : Nat) (w : World) (hv : Clk.vld off every = true) (g1 : -9223372036854775808 ≤ every) (g2 : every ≤ 9223372036854775807) (n1 : 1 ≤ n) (n2 : (n : Int) ≤ 20000000)
    (hk1 : Bound (Clk.ge off every shown) n k1) (hk2 : Bound (Clk.gt off every shown) n k2) :
    Calls Try.prog 14 #[.agg #[.int .i64 off, .int .i64 every], .int .i64 shown, .int .i64 n] w fun e w' =>
      e = .returned (.tuple #[.int .i64 (if k1 = k2 then 0 else k1), .int .i64 (if k1 = k2 then 0 else k2), .bool (!decide (k1 = k2)), .int .i64 0]) ∧ Ext w w' := by
  obtain ⟨q1, q2, q3, q4, q5⟩ := Clk.bounds_facts hk1 hk2
  have Q3 := Lib.hid q3
  have Q4 := Lib.hid q4
  have Q5 := Lib.hid q5
  clear q3 q4 q5 hk1 hk2
  have b3 : decide ((n : Int) < 1) = false := by simp; omega
  have b4 : decide (20000000 < (n : Int)) = false := by simp; omega
  go_enter Try.func14, Try.ntmps14
  go_wp2_with fail
  refine (rvalid_any _ _ _ g1 g2).mono ?_
  rintro e w1 ⟨rfl, hx⟩
  have c1 : w1.cell? ⟨w.heap.size, 0, none⟩ = some (.int .i64 off) := by
    refine hx.keep ?_
    simp
  have c2 : w1.cell? ⟨w.heap.size, 1, none⟩ = some (.int .i64 every) := by
    refine hx.keep ?_
    simp
  go_wp2_with fail
  clear b3 b4
  have hX : Ext w w1 := ((Ext.refl _).alloc _).trans hx
  clear hx
  go_loopw [10] (fun i wr => ∃ k : Nat, k ≤ n ∧ i = .int .i64 k ∧ Ext w1 wr ∧ (k ≤ k1 ∨ k1 = k2)) (fun i _ => n - (intOf i).toNat)
  case atStart => exact ⟨0, Nat.zero_le _, rfl, Ext.refl _, .inl (Nat.zero_le _)⟩
  case round =>
    obtain ⟨k, hk, rfl, hx, I⟩ := hrel
    have d1 := hx.keep c1
    have d2 := hx.keep c2
    by_cases hlt : k < n
    · have fb := Clk.face_bd off every k hv (by omega) (by omega)
      by_cases hw : k1 = k ∧ k < k2
      · obtain ⟨rfl, hw2⟩ := hw
        have he := Lib.hid (Q4.out k1 (Nat.le_refl _) hw2)
        have hb : (Clk.face off every k1 == shown) = true := by rw [he.out]; simp
        go_wp2_with fail
        refine (rshows_any _ _ _ _ hv (by omega) (by omega)).mono ?_
        rintro e w2 ⟨rfl, hx2⟩
        have f1 := hx2.keep d1
        have f2 := hx2.keep d2
        have hX2 := (hX.trans hx).trans hx2
        clear d1 d2 c1 c2 hx hX hx2
        go_wp2_with fail
        clear hb he
        go_loopw [11] (fun i wr => ∃ u : Nat, k1 ≤ u ∧ u ≤ k2 ∧ i = .int .i64 u ∧ Ext w2 wr) (fun i _ => n - (intOf i).toNat)
        case atStart => exact ⟨k1, Nat.le_refl _, q1, rfl, Ext.refl _⟩
        case round =>
          obtain ⟨u, hu1, hu2, rfl, hx⟩ := hrel
          have d1 := hx.keep f1
          have d2 := hx.keep f2
          by_cases hu : u < k2
          · have he := Lib.hid (Q4.out u hu1 hu)
            have hb : (Clk.face off every u == shown) = true := by rw [he.out]; simp
            go_wp2_with fail
            refine (rshows_any _ _ _ _ hv (by omega) (by omega)).mono ?_
            rintro e w3 ⟨rfl, hx3⟩
            go_wp2_with fail
            go_roundw
            case rel => exact ⟨u + 1, by omega, by omega, by go_num, hx.trans hx3⟩
            case measure => simp [intOf]; omega
          · obtain rfl : u = k2 := by omega
            have hne : ¬ k1 = u := by omega
            by_cases hun : u < n
            · have he := Q5.out u (Nat.le_refl _) hun
              have hb : (Clk.face off every u == shown) = false := by simp; omega
              go_wp2_with fail
              refine (rshows_any _ _ _ _ hv (by omega) (by omega)).mono ?_
              rintro e w3 ⟨rfl, hx3⟩
              go_wp2_with fail
              exact bodyPost_ret (by simp [results, Try.results14, go_sem]; rfl) rfl ⟨by simp, hX2.trans (hx.trans hx3)⟩
            · go_wp2_with fail
              exact bodyPost_ret (by simp [results, Try.results14, go_sem]; rfl) rfl ⟨by simp, hX2.trans hx⟩
      · have hb : (Clk.face off every k == shown) = false := by
          rw [beq_eq_false_iff_ne]
          by_cases h1 : k < k1
          · have := Q3.out k h1; omega
          · by_cases h2 : k2 ≤ k
            · have := Q5.out k h2 hlt; omega
            · exfalso; omega
        go_wp2_with fail
        refine (rshows_any _ _ _ _ hv (by omega) (by omega)).mono ?_
        rintro e w2 ⟨rfl, hx2⟩
        go_wp2_with fail
        go_roundw
        case rel => exact ⟨k + 1, by omega, by go_num, hx.trans hx2, by omega⟩
        case measure => simp [intOf]; omega
    · have hkk : k1 = k2 := by omega
      have hK := Lib.hid hkk
      clear hkk
      go_wp2_with fail
      have hkk := hK.out
      subst hkk
      exact bodyPost_ret (by simp [results, Try.results14, go_sem]; rfl) rfl ⟨by simp, hX.trans hx⟩

end Go.Proofs.Ytfgjeihchgfnnaa
