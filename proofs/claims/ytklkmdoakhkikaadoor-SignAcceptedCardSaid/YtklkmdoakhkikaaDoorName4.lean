/- The contract of name's Under. -/
import Derived.Test.YtklkmdoakhkikaaDoorName3
namespace Go.Proofs.YtklkmdoakhkikaaDoor
open Go.RowKit

theorem Nm.valid_pos (l : List UInt8) (h : Nm.valid l = true) : 1 ≤ l.length := by
  cases l with
  | nil => exfalso; revert h; decide
  | cons c r => simp

theorem Nm.suffix_split (a z : List UInt8) : Nm.split z <:+ Nm.split (a ++ 46 :: z) := ⟨Nm.split a, (Nm.split_dot a z).symm⟩

theorem Nm.glue_append (p q : List (List UInt8)) (hp : p ≠ []) (hq : q ≠ []) : Nm.glue (p ++ q) = Nm.glue p ++ 46 :: Nm.glue q := by
  induction p with
  | nil => exact absurd rfl hp
  | cons x t ih =>
    cases t with
    | nil =>
      cases q with
      | nil => exact absurd rfl hq
      | cons y u => rfl
    | cons y u =>
      have := ih (by simp)
      simp only [List.cons_append, Nm.glue] at this ⊢
      rw [this]; simp

theorem Nm.under_iff (s z : List UInt8) (hs : s ≠ [46]) (hz : z ≠ [46]) : Nm.under s z = true ↔ s = z ∨ ∃ a, s = a ++ 46 :: z := by
  simp only [Nm.under, decide_eq_true_eq, Nm.labels, hs, hz, if_false]
  constructor
  · rintro ⟨p, hp⟩
    cases p with
    | nil => left; exact (Nm.split_inj _ _ hp).symm
    | cons x t =>
      right
      refine ⟨Nm.glue (x :: t), ?_⟩
      rw [← Nm.glue_split s, ← hp, Nm.glue_append _ _ (by simp) (Nm.split_ne z), Nm.glue_split]
  · rintro (rfl | ⟨a, rfl⟩)
    · exact List.suffix_refl _
    · exact Nm.suffix_split a z

/-- As the program asks. -/
theorem Nm.under_bytes (s z : List UInt8) (hs : Nm.valid s = true) (hz : Nm.valid z = true) (h1 : s ≠ z) (h2 : z ≠ [46]) :
    Nm.under s z = true ↔ z.length < s.length ∧ z <:+ s ∧ s[s.length - z.length - 1]? = some 46 := by
  by_cases hr : s = [46]
  · subst hr
    have hz1 := Nm.valid_pos z hz
    constructor
    · intro h
      simp only [Nm.under, decide_eq_true_eq, Nm.labels, h2, if_false, if_true] at h
      exact absurd (List.eq_nil_of_suffix_nil h) (Nm.split_ne z)
    · rintro ⟨h, _⟩; exfalso; simp only [List.length_singleton] at h; omega
  · rw [Nm.under_iff s z hr h2]
    constructor
    · rintro (h | ⟨a, rfl⟩)
      · exact absurd h h1
      · refine ⟨by simp; omega, ⟨a ++ [46], by simp⟩, ?_⟩
        rw [show (a ++ 46 :: z).length - z.length - 1 = a.length by simp; omega]
        simp
    · rintro ⟨h, ⟨p, rfl⟩, h3⟩
      right
      have hp : p ≠ [] := by rintro rfl; simp at h
      rw [show (p ++ z).length - z.length - 1 = p.length - 1 by simp, List.getElem?_append_left (by have := List.length_pos_iff.2 hp; omega)] at h3
      refine ⟨p.dropLast, ?_⟩
      have e : p.getLast hp = 46 := by
        rw [List.getLast_eq_getElem]
        exact (List.getElem?_eq_some_iff.1 h3).2
      conv => lhs; rw [← List.dropLast_concat_getLast hp, e]
      simp

theorem Nm.under_true (s z : List UInt8) (h : s = z ∨ z = [46]) : Nm.under s z = true := by
  simp only [Nm.under, decide_eq_true_eq]
  rcases h with rfl | rfl
  · exact List.suffix_refl _
  · simp [Nm.labels]

set_option maxHeartbeats 800000 in
theorem nunder_any (s z : ByteArray) (w : World) (hs : s.size ≤ maxLen) (hz : z.size ≤ maxLen) :
    Calls Tryd.prog 24 #[.string s, .string z] w fun e w' => e = .returned (.tuple #[.bool (Nm.vunder (toL s) (toL z)), .int .i64 (if Nm.valid (toL s) && Nm.valid (toL z) then 0 else 11)]) ∧ Ext w w' := by
  cases h1 : Nm.valid (toL s)
  · have H1 := Lib.hid h1
    clear h1
    go_enter Tryd.func24, Tryd.ntmps24
    go_wp2_with fail
    refine (tvalid_any s _ hs).mono ?_
    rintro e w1 ⟨rfl, hx1⟩
    rw [H1.out]
    go_wp2_with fail
    go_ret2
    exact ⟨by simp [Nm.vunder, H1.out], hx1⟩
  · cases h2 : Nm.valid (toL z)
    · have H1 := Lib.hid h1
      have H2 := Lib.hid h2
      clear h1 h2
      go_enter Tryd.func24, Tryd.ntmps24
      go_wp2_with fail
      refine (tvalid_any s _ hs).mono ?_
      rintro e w1 ⟨rfl, hx1⟩
      rw [H1.out]
      go_wp2_with fail
      refine (tvalid_any z _ hz).mono ?_
      rintro e w2 ⟨rfl, hx2⟩
      rw [H2.out]
      go_wp2_with fail
      go_ret2
      exact ⟨by simp [Nm.vunder, H1.out, H2.out], hx1.trans hx2⟩
    · have H1 := Lib.hid h1
      have H2 := Lib.hid h2
      have zs := Nm.valid_bsize s h1
      have zz := Nm.valid_bsize z h2
      clear h1 h2
      by_cases hb : toL s = toL z ∨ toL z = [46]
      · have HU := Lib.hid (Nm.under_true _ _ hb)
        have e1 : (s.toList == z.toList) = decide (toL s = toL z) := strEq s z
        have e2 : (z.toList == [46]) = decide (toL z = [46]) := by rw [ByteArray.toList_eq, Bool.eq_iff_iff]; simp only [beq_iff_eq, decide_eq_true_eq]
        by_cases hsz : toL s = toL z
        · rw [decide_eq_true hsz] at e1
          clear e2 hb hsz
          go_enter Tryd.func24, Tryd.ntmps24
          go_wp2_with fail
          refine (tvalid_any s _ hs).mono ?_
          rintro e w1 ⟨rfl, hx1⟩
          rw [H1.out]
          go_wp2_with fail
          refine (tvalid_any z _ hz).mono ?_
          rintro e w2 ⟨rfl, hx2⟩
          rw [H2.out]
          go_wp2_with fail
          go_ret2
          exact ⟨by simp [Nm.vunder, H1.out, H2.out, HU.out], hx1.trans hx2⟩
        · have hz46 : toL z = [46] := by rcases hb with h | h; exact absurd h hsz; exact h
          rw [decide_eq_false hsz] at e1
          rw [decide_eq_true hz46] at e2
          clear hb hsz hz46
          go_enter Tryd.func24, Tryd.ntmps24
          go_wp2_with fail
          refine (tvalid_any s _ hs).mono ?_
          rintro e w1 ⟨rfl, hx1⟩
          rw [H1.out]
          go_wp2_with fail
          refine (tvalid_any z _ hz).mono ?_
          rintro e w2 ⟨rfl, hx2⟩
          rw [H2.out]
          go_wp2_with fail
          go_ret2
          exact ⟨by simp [Nm.vunder, H1.out, H2.out, HU.out], hx1.trans hx2⟩
      · rw [not_or] at hb
        have HU := Lib.hid (Nm.under_bytes _ _ H1.out H2.out hb.1 hb.2)
        have ls : (toL s).length = s.size := Nm.len s
        have lz : (toL z).length = z.size := Nm.len z
        rw [ls, lz] at HU
        have e1 : (s.toList == z.toList) = false := by rw [strEq]; exact decide_eq_false hb.1
        have e2 : (z.toList == [46]) = false := by rw [ByteArray.toList_eq, beq_eq_false_iff_ne]; exact hb.2
        clear hb ls lz
        by_cases hl : z.size < s.size
        · cases hsuf : decide (toL z <:+ toL s)
          · have HF : Hid (Nm.under (toL s) (toL z) = false) := by
              rw [← Bool.not_eq_true, HU.out]; rintro ⟨_, h, _⟩; exact of_decide_eq_false hsuf h
            have HS := Lib.hid hsuf
            clear hsuf
            go_enter Tryd.func24, Tryd.ntmps24
            go_wp2_with fail
            refine (tvalid_any s _ hs).mono ?_
            rintro e w1 ⟨rfl, hx1⟩
            rw [H1.out]
            go_wp2_with fail
            refine (tvalid_any z _ hz).mono ?_
            rintro e w2 ⟨rfl, hx2⟩
            rw [H2.out]
            go_wp2_with fail
            refine (hasSuffix_any s z _ hs hz).mono ?_
            rintro e w' ⟨rfl, rfl⟩
            rw [HS.out]
            go_wp2_with fail
            go_ret2
            exact ⟨by simp [Nm.vunder, H1.out, H2.out, HF.out], hx1.trans hx2⟩
          · have hk : s.size - z.size - 1 < s.size := by omega
            have HT : Hid (Nm.under (toL s) (toL z) = decide (((s[s.size - z.size - 1]'hk).toNat : Int) = 46)) := by
              show Nm.under (toL s) (toL z) = decide _
              rw [Bool.eq_iff_iff, HU.out]
              have e : (toL s)[s.size - z.size - 1]? = some (s[s.size - z.size - 1]'hk) := by rw [List.getElem?_eq_getElem (by simpa [toL] using hk)]; rfl
              rw [e]
              simp only [Option.some.injEq, decide_eq_true_eq]
              constructor
              · rintro ⟨_, _, h⟩; rw [h]; rfl
              · intro h; exact ⟨hl, of_decide_eq_true hsuf, (Nm.toNat_eq _ 46).1 h⟩
            have HS := Lib.hid hsuf
            clear hsuf
            have j1 : ((s.size : Int) - (z.size : Int) - 1).toNat = s.size - z.size - 1 := by omega
            have j2 : (0 : Int) ≤ (s.size : Int) - (z.size : Int) - 1 := by omega
            have j3 : (s.size : Int) - (z.size : Int) - 1 < (s.size : Int) := by omega
            go_enter Tryd.func24, Tryd.ntmps24
            go_wp2_with fail
            refine (tvalid_any s _ hs).mono ?_
            rintro e w1 ⟨rfl, hx1⟩
            rw [H1.out]
            go_wp2_with fail
            refine (tvalid_any z _ hz).mono ?_
            rintro e w2 ⟨rfl, hx2⟩
            rw [H2.out]
            go_wp2_with fail
            refine (hasSuffix_any s z _ hs hz).mono ?_
            rintro e w' ⟨rfl, rfl⟩
            rw [HS.out]
            go_wp2_with fail
            go_ret2
            refine ⟨?_, hx1.trans hx2⟩
            simp only [Nm.vunder, H1.out, H2.out, HT.out, Bool.true_and]
            congr 4
            try simp
        · have HF : Hid (Nm.under (toL s) (toL z) = false) := by
            rw [← Bool.not_eq_true, HU.out]; rintro ⟨h, _, _⟩; omega
          go_enter Tryd.func24, Tryd.ntmps24
          go_wp2_with fail
          refine (tvalid_any s _ hs).mono ?_
          rintro e w1 ⟨rfl, hx1⟩
          rw [H1.out]
          go_wp2_with fail
          refine (tvalid_any z _ hz).mono ?_
          rintro e w2 ⟨rfl, hx2⟩
          rw [H2.out]
          go_wp2_with fail
          go_ret2
          exact ⟨by simp [Nm.vunder, H1.out, H2.out, HF.out], hx1.trans hx2⟩

end Go.Proofs.YtklkmdoakhkikaaDoor
