/- Contracts by the engine: comparisons, and record's small functions. Conditions: as each says. -/
import Derived.Test.YtklkmdoakhkikaaDoorApi
import Derived.Test.YtklkmdoakhkikaaDoorName4
import Derived.Test.YtklkmdoakhkikaaDoorR01c
namespace Go.Proofs.YtklkmdoakhkikaaDoor.P
open Go Go.Eng
set_option maxRecDepth 100000

/-- A contract of the elder kind, of one text. -/
theorem ofText {f : FuncId} {g : List UInt8 → DV} (t : List UInt8) (hb : HasBody E.P f) (h : ∀ (w : World), Calls Tryd.prog f #[.string ⟨t.toArray⟩] w fun e w' => ∃ v, e = .returned v ∧ (∀ bad w, VD bad w (g t) v) ∧ Ext w w') : PCalls E f [.str t] (· = g t) := by
  unfold PCalls
  refine ⟨hb, fun bar w vs _ _ hv => ?_⟩
  obtain ⟨hl, hv⟩ := hv
  obtain ⟨v, rfl⟩ : ∃ v, vs = [v] := by
    cases vs with
    | nil => simp at hl
    | cons v r => cases r with
      | nil => exact ⟨v, rfl⟩
      | cons u r => simp at hl
  have := hv 0 (.str t) v rfl rfl
  cases this
  exact (h w).mono fun e w' ⟨v, h1, h2, h3⟩ => ⟨v, _, h1, rfl, h2 _ _, h3⟩
theorem ofTexts {f : FuncId} {g : List UInt8 → List UInt8 → DV} (t u : List UInt8) (hb : HasBody E.P f) (h : ∀ (w : World), Calls Tryd.prog f #[.string ⟨t.toArray⟩, .string ⟨u.toArray⟩] w fun e w' => ∃ v, e = .returned v ∧ (∀ bad w, VD bad w (g t u) v) ∧ Ext w w') : PCalls E f [.str t, .str u] (· = g t u) := by
  unfold PCalls
  refine ⟨hb, fun bar w vs _ _ hv => ?_⟩
  obtain ⟨hl, hv⟩ := hv
  obtain ⟨v1, v2, rfl⟩ : ∃ v1 v2, vs = [v1, v2] := by
    match vs, hl with
    | [v1, v2], _ => exact ⟨v1, v2, rfl⟩
  have h1 := hv 0 (.str t) v1 rfl rfl
  have h2 := hv 1 (.str u) v2 rfl rfl
  cases h1
  cases h2
  exact (h w).mono fun e w' ⟨v, h1, h2, h3⟩ => ⟨v, _, h1, rfl, h2 _ _, h3⟩

theorem toL_mk (t : List UInt8) : toL ⟨t.toArray⟩ = t := by simp [toL]
theorem size_mk {t : List UInt8} (h : t.length ≤ maxLen) : (ByteArray.mk t.toArray).size ≤ maxLen := by simpa [ByteArray.size] using h

theorem nvalid_p (t : List UInt8) (ht : t.length ≤ maxLen) : PCalls E 21 [.str t] (· = .bool (Nm.valid t)) :=
  ofText (g := fun t => .bool (Nm.valid t)) t ⟨_, Tryd.func21, rfl, by decide⟩ fun w => (nvalid_any ⟨t.toArray⟩ w (size_mk ht)).mono fun e w' ⟨h1, h2⟩ => ⟨_, h1, fun _ _ => by rw [toL_mk]; exact .bool _, h2⟩
theorem rvalid_p (t : List UInt8) (ht : t.length ≤ maxLen) : PCalls E 16 [.str t] (· = .bool (Nm.valid t)) :=
  ofText (g := fun t => .bool (Nm.valid t)) t ⟨_, Tryd.func16, rfl, by decide⟩ fun w => (rvalid1_any ⟨t.toArray⟩ w (size_mk ht)).mono fun e w' ⟨h1, h2⟩ => ⟨_, h1, fun _ _ => by rw [toL_mk]; exact .bool _, h2⟩
theorem rwild_p (t : List UInt8) (ht : t.length ≤ maxLen) : PCalls E 17 [.str t] (· = .bool (Nm.wild t)) :=
  ofText (g := fun t => .bool (Nm.wild t)) t ⟨_, Tryd.func17, rfl, by decide⟩ fun w => (rwild_any ⟨t.toArray⟩ w (size_mk ht)).mono fun e w' ⟨h1, h2⟩ => ⟨_, h1, fun _ _ => by rw [toL_mk]; exact .bool _, by subst h2; exact Ext.refl _⟩

theorem within_p (x a b : Int) : PCalls E 62 [.int .i64 x, .int .i64 a, .int .i64 b] (· = .bool (decide (a ≤ x) && decide (x ≤ b))) := by
  refine PCalls.run E_ok (fn := Tryd.f62) Tryd.func62 (body := Tryd.f62.body.getD .skip) rfl (by decide) 2000 ?_
  conv => whnf
  refine caseB_split (fun h => ?_) (fun h => ?_)
  · conv => whnf
    refine AWL.run E_ok Tryd.func62 2000 ?_
    conv => whnf
    rw [h]; rfl
  · conv => whnf
    refine AWL.run E_ok Tryd.func62 2000 ?_
    conv => whnf
    rw [h]; rfl

theorem withinb_p (x a b : Int) : PCalls E 94 [.int .u8 x, .int .u8 a, .int .u8 b] (· = .bool (decide (a ≤ x) && decide (x ≤ b))) := by
  refine PCalls.run E_ok (fn := Tryd.f94) Tryd.func94 (body := Tryd.f94.body.getD .skip) rfl (by decide) 2000 ?_
  conv => whnf
  refine caseB_split (fun h => ?_) (fun h => ?_)
  · conv => whnf
    refine AWL.run E_ok Tryd.func94 2000 ?_
    conv => whnf
    rw [h]; rfl
  · conv => whnf
    refine AWL.run E_ok Tryd.func94 2000 ?_
    conv => whnf
    rw [h]; rfl

theorem isNaNi_p (x : Int) : PCalls E 57 [.int .i64 x] (· = .bool false) := by
  refine PCalls.run E_ok (fn := Tryd.f57) Tryd.func57 (body := Tryd.f57.body.getD .skip) rfl (by decide) 2000 ?_
  conv => whnf
  simp
theorem isNaNs_p (x : List UInt8) : PCalls E 95 [.str x] (· = .bool false) := by
  refine PCalls.run E_ok (fn := Tryd.f95) Tryd.func95 (body := Tryd.f95.body.getD .skip) rfl (by decide) 2000 ?_
  conv => whnf
  simp

def cmpI (a b : Int) : Int := if a < b then -1 else if b < a then 1 else 0
theorem cmpI_p (a b : Int) : PCalls E 29 [.int .i64 a, .int .i64 b] (· = .int .i64 (cmpI a b)) := by
  refine PCalls.run E_ok (fn := Tryd.f29) Tryd.func29 (body := Tryd.f29.body.getD .skip) rfl (by decide) 2000 ?_
  conv => whnf
  repeat' (first | with_reducible refine callP_eq (isNaNi_p _) ?_ | with_reducible refine callP1_eq (isNaNi_p _) ?_ | with_reducible refine caseB_true ?_ | with_reducible refine caseB_false ?_ | with_reducible refine caseB_yes (by decide) ?_ | with_reducible refine caseB_no (by decide) ?_ | with_reducible refine caseB_split (fun _ => ?_) (fun _ => ?_) | ((conv => whnf); (with_reducible refine AWL.run E_ok Tryd.func29 2000 ?_); (conv => whnf); fail_if_success (with_reducible refine AWL.of ?_)) | ((conv => whnf); (with_reducible refine DWL.run E_ok 2000 ?_); (conv => whnf); fail_if_success (with_reducible refine DWL.is ?_)) | ((conv => whnf); (with_reducible refine SWL.run E_ok 2000 ?_); (conv => whnf); fail_if_success (with_reducible refine SWL.is ?_)))
  all_goals (simp_all [cmpI])
  all_goals omega

def cmpS (a b : List UInt8) : Int := if Op.bytesLess a b then -1 else if a = b then 0 else 1
theorem cmpS_p (a b : List UInt8) : PCalls E 84 [.str a, .str b] (· = .int .i64 (cmpS a b)) := by
  refine PCalls.run E_ok (fn := Tryd.f84) Tryd.func84 (body := Tryd.f84.body.getD .skip) rfl (by decide) 2000 ?_
  conv => whnf
  repeat' (first | with_reducible refine callP_eq (isNaNs_p _) ?_ | with_reducible refine callP1_eq (isNaNs_p _) ?_ | with_reducible refine caseB_true ?_ | with_reducible refine caseB_false ?_ | with_reducible refine caseB_yes (by decide) ?_ | with_reducible refine caseB_no (by decide) ?_ | with_reducible refine caseB_split (fun _ => ?_) (fun _ => ?_) | ((conv => whnf); (with_reducible refine AWL.run E_ok Tryd.func84 2000 ?_); (conv => whnf); fail_if_success (with_reducible refine AWL.of ?_)) | ((conv => whnf); (with_reducible refine DWL.run E_ok 2000 ?_); (conv => whnf); fail_if_success (with_reducible refine DWL.is ?_)) | ((conv => whnf); (with_reducible refine SWL.run E_ok 2000 ?_); (conv => whnf); fail_if_success (with_reducible refine SWL.is ?_)))
  all_goals (simp_all [cmpS])

end Go.Proofs.YtklkmdoakhkikaaDoor.P
