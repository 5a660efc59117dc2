/- Contracts by the engine: the reference implementation's comparisons of sets and zones. Conditions: lengths that Go allows. -/
import Derived.Test.YtebielkakdhelaaGreatDoorZP9
set_option linter.unusedVariables false
set_option linter.unusedSimpArgs false
namespace Go.Proofs.YtebielkakdhelaaGreatDoor.P
open Go Go.Eng
set_option maxRecDepth 100000
set_option maxHeartbeats 4000000

theorem takeEq_next {α : Type} {a b : List α} {k : Nat} {x y : α} (h : a.take k = b.take k) (ha : a[k]? = some x) (hb : b[k]? = some y) (e : x = y) : a.take (k + 1) = b.take (k + 1) := by
  subst e
  rw [take_next ha, take_next hb, h]
theorem takeEq_all {α : Type} {a b : List α} {k : Nat} (h : a.take k = b.take k) (ha : a.length ≤ k) (hb : b.length ≤ k) : a = b := by
  rwa [List.take_of_length_le ha, List.take_of_length_le hb] at h
theorem ne_of_at {α : Type} {a b : List α} {k : Nat} {x y : α} (ha : a[k]? = some x) (hb : b[k]? = some y) (e : x ≠ y) : a ≠ b := by
  rintro rfl
  rw [ha] at hb
  cases hb
  exact e rfl

def datEq (a b : Datum) : Bool := (a.text == b.text && (a.n == b.n && (a.m == b.m && true)))
theorem datEq_iff {a b : Datum} : datEq a b = true ↔ a = b := by
  obtain ⟨a1, a2, a3⟩ := a
  obtain ⟨b1, b2, b3⟩ := b
  simp [datEq]

theorem rsame_p (a b : RSet) (ha : a.data.length ≤ 2147483648) : PCalls E 17 [a.enc, b.enc] (· = .bool (decide (a = b))) := by
  obtain ⟨an, at', al, ad⟩ := a
  obtain ⟨bn, bt, bl, bd⟩ := b
  simp only at ha
  refine PCalls.run E_ok (fn := Tryz.f17) Tryz.func17 (body := Tryz.f17.body.getD .skip) rfl (by decide) 2000 ?_
  conv => whnf
  repeat' (first | with_reducible refine caseB_true ?_ | with_reducible refine caseB_false ?_ | with_reducible refine caseB_yes (by decide) ?_ | with_reducible refine caseB_no (by decide) ?_ | with_reducible refine caseB_yes (by assumption) ?_ | with_reducible refine caseB_no (by assumption) ?_ | with_reducible refine caseB_split (fun _ => ?_) (fun _ => ?_) | ((conv => whnf); (with_reducible refine AWL.run E_ok Tryz.func17 2000 ?_); (conv => whnf); fail_if_success (with_reducible refine AWL.of ?_)) | ((conv => whnf); (with_reducible refine DWL.run E_ok 2000 ?_); (conv => whnf); fail_if_success (with_reducible refine DWL.is ?_)) | ((conv => whnf); (with_reducible refine SWL.run E_ok 2000 ?_); (conv => whnf); fail_if_success (with_reducible refine SWL.is ?_)))
  all_goals try (simp_all; done)
  case' refine_2.refine_2.refine_2.refine_1 =>
    rename_i h4
    rw [decide_eq_false]
    intro h
    have := congrArg (fun s : RSet => s.data.length) h
    simp only at this
    simp [this] at h4
  all_goals
    rename_i h1 h2 h3 h4
    simp only [bne_eq_false_iff_eq, Bool.not_eq_false', beq_iff_eq, List.length_map] at h1 h2 h3 h4
    subst h1
    subst h2
    subst h3
    have hl : ad.length = bd.length := by omega
    rw [show decide (RSet.mk an at' al ad = RSet.mk an at' al bd) = decide (ad = bd) by simp]
    conv => whnf
    refine AWL.run E_ok Tryz.func17 2000 ?_
    conv => whnf
    refine AWL.loop (κ := Nat) [4, 5, 34, 35, 36, 37, 38, 39, 40, 41, 42, 43, 44, 45, 46, 47, 48, 49, 50, 51] (fun k => [(5, .d (.int .i64 k))]) (fun _ => []) (fun k => k ≤ ad.length ∧ ad.take k = bd.take k) (fun k => ad.length - k) 0 ⟨Nat.zero_le _, rfl⟩ ?_ ?_
    · conv => whnf
      repeat (first | exact trivial | (refine And.intro (by first | with_reducible rfl | exact congrArg (DV.int .i64) (by omega) | exact congrArg (DV.int .i64) (wrap64 (by omega) (by omega)) | exact congrArg (DV.int .i64) ((wrap64 (by omega) (by omega)).trans (by omega))) ?_; conv => whnf))
    · intro k hk IH
      refine AWL.head E_ok Tryz.func17 2000 ?_
      conv => whnf
      refine caseB_split (fun h5 => ?_) (fun h5 => ?_)
      · have hlt : k < ad.length := by simpa using h5
        obtain ⟨x, hx⟩ := some_of_lt hlt
        obtain ⟨y, hy⟩ := some_of_lt (l := bd) (k := k) (by omega)
        conv => whnf
        refine AWL.run E_ok Tryz.func17 2000 ?_
        conv => whnf
        refine AWL.draw E_ok E_mixed 11 2000 (by kernel_rfl) ?_
        conv => whnf
        refine elemP_intro x.enc (by omega) (elem_map hx) rfl ?_
        conv => whnf
        refine DWL.run E_ok 2000 ?_
        conv => whnf
        refine elemP_intro y.enc (by omega) (elem_map hy) rfl ?_
        conv => whnf
        refine DWL.run E_ok 2000 ?_
        conv => whnf
        conv => whnf
        refine SWL.run E_ok 2000 ?_
        conv => whnf
        conv => whnf
        refine AWL.run E_ok Tryz.func17 2000 ?_
        conv => whnf
        refine caseB_split (fun h6 => ?_) (fun h6 => ?_)
        · have hne : x ≠ y := fun e => by
            have := datEq_iff.2 e
            simp [datEq] at this
            simp [this] at h6
          conv => whnf
          refine AWL.run E_ok Tryz.func17 2000 ?_
          conv => whnf
          rw [decide_eq_false (ne_of_at hx hy hne)]
        · have he : x = y := datEq_iff.1 (by simpa [datEq] using h6)
          conv => whnf
          refine AWL.run E_ok Tryz.func17 2000 ?_
          conv => whnf
          refine AWL.back (IH (k + 1) ⟨by omega, takeEq_next hk.2 hx hy he⟩ (by omega)) ?_
          conv => whnf
          repeat (first | exact trivial | (refine And.intro (by first | with_reducible rfl | exact congrArg (DV.int .i64) (by omega) | exact congrArg (DV.int .i64) (wrap64 (by omega) (by omega)) | exact congrArg (DV.int .i64) ((wrap64 (by omega) (by omega)).trans (by omega))) ?_; conv => whnf))
      · have hge : k = ad.length := by simp at h5; omega
        conv => whnf
        refine AWL.run E_ok Tryz.func17 2000 ?_
        conv => whnf
        rw [decide_eq_true (takeEq_all hk.2 (by omega) (by omega))]

theorem rsameSigned_p (a b : Signed) (ha : a.set.data.length ≤ 2147483648) (hs : a.sigs.length ≤ 2147483648) : PCalls E 124 [a.enc, b.enc] (· = .bool (decide (a = b))) := by
  obtain ⟨aset, ad⟩ := a
  obtain ⟨bset, bd⟩ := b
  simp only at ha hs
  rw [show decide (Signed.mk aset ad = Signed.mk bset bd) = (decide (aset = bset) && decide (ad = bd)) by simp]
  have hsame := rsame_p aset bset ha
  generalize decide (aset = bset) = q at hsame ⊢
  refine PCalls.run E_ok (fn := Tryz.f124) Tryz.func124 (body := Tryz.f124.body.getD .skip) rfl (by decide) 2000 ?_
  conv => whnf
  with_reducible refine callP_eq (hsame) ?_
  conv => whnf
  refine AWL.run E_ok Tryz.func124 2000 ?_
  conv => whnf
  cases q
  · refine caseB_yes rfl ?_
    conv => whnf
    refine AWL.run E_ok Tryz.func124 2000 ?_
    conv => whnf
    refine caseB_true ?_
    conv => whnf
    refine AWL.run E_ok Tryz.func124 2000 ?_
    conv => whnf
    rfl
  · refine caseB_no rfl ?_
    conv => whnf
    refine AWL.run E_ok Tryz.func124 2000 ?_
    conv => whnf
    refine caseB_split (fun h4 => ?_) (fun h4 => ?_)
    · conv => whnf
      refine AWL.run E_ok Tryz.func124 2000 ?_
      conv => whnf
      rw [decide_eq_false]
      · rfl
      · rintro rfl
        simp at h4
    · simp only [bne_eq_false_iff_eq, List.length_map] at h4
      have hl : ad.length = bd.length := by omega
      rw [Bool.true_and]
      conv => whnf
      refine AWL.run E_ok Tryz.func124 2000 ?_
      conv => whnf
      refine AWL.loop (κ := Nat) [4, 5, 21, 22, 23, 24, 25, 26, 27, 28, 29, 30, 31, 32, 33, 34, 35, 36, 37, 38] (fun k => [(5, .d (.int .i64 k))]) (fun _ => []) (fun k => k ≤ ad.length ∧ ad.take k = bd.take k) (fun k => ad.length - k) 0 ⟨Nat.zero_le _, rfl⟩ ?_ ?_
      · conv => whnf
        repeat (first | exact trivial | (refine And.intro (by first | with_reducible rfl | exact congrArg (DV.int .i64) (by omega) | exact congrArg (DV.int .i64) (wrap64 (by omega) (by omega)) | exact congrArg (DV.int .i64) ((wrap64 (by omega) (by omega)).trans (by omega))) ?_; conv => whnf))
      · intro k hk IH
        refine AWL.head E_ok Tryz.func124 2000 ?_
        conv => whnf
        refine caseB_split (fun h5 => ?_) (fun h5 => ?_)
        · have hlt : k < ad.length := by simpa using h5
          obtain ⟨x, hx⟩ := some_of_lt hlt
          obtain ⟨y, hy⟩ := some_of_lt (l := bd) (k := k) (by omega)
          conv => whnf
          refine AWL.run E_ok Tryz.func124 2000 ?_
          conv => whnf
          refine AWL.draw E_ok E_mixed 11 2000 (by kernel_rfl) ?_
          conv => whnf
          refine elemP_intro x.enc (by omega) (elem_map hx) rfl ?_
          conv => whnf
          refine DWL.run E_ok 2000 ?_
          conv => whnf
          refine elemP_intro y.enc (by omega) (elem_map hy) rfl ?_
          conv => whnf
          refine DWL.run E_ok 2000 ?_
          conv => whnf
          conv => whnf
          refine SWL.run E_ok 2000 ?_
          conv => whnf
          conv => whnf
          refine AWL.run E_ok Tryz.func124 2000 ?_
          conv => whnf
          refine caseB_split (fun h6 => ?_) (fun h6 => ?_)
          · have hne : x ≠ y := fun e => by
              have := sigEq_iff.2 e
              simp [sigEq] at this
              simp [this] at h6
            conv => whnf
            refine AWL.run E_ok Tryz.func124 2000 ?_
            conv => whnf
            rw [decide_eq_false (ne_of_at hx hy hne)]
          · have he : x = y := sigEq_iff.1 (by simpa [sigEq] using h6)
            conv => whnf
            refine AWL.run E_ok Tryz.func124 2000 ?_
            conv => whnf
            refine AWL.back (IH (k + 1) ⟨by omega, takeEq_next hk.2 hx hy he⟩ (by omega)) ?_
            conv => whnf
            repeat (first | exact trivial | (refine And.intro (by first | with_reducible rfl | exact congrArg (DV.int .i64) (by omega) | exact congrArg (DV.int .i64) (wrap64 (by omega) (by omega)) | exact congrArg (DV.int .i64) ((wrap64 (by omega) (by omega)).trans (by omega))) ?_; conv => whnf))
        · have hge : k = ad.length := by simp at h5; omega
          conv => whnf
          refine AWL.run E_ok Tryz.func124 2000 ?_
          conv => whnf
          rw [decide_eq_true (takeEq_all hk.2 (by omega) (by omega))]

/-- All lists of a set with signatures are such as Go allows. -/
structure Signed.Lens (s : Signed) : Prop where
  data : s.set.data.length ≤ 2147483648
  sigs : s.sigs.length ≤ 2147483648

theorem rsameList_p (a b : List Signed) (hl : a.length ≤ 2147483648) (ha : ∀ s ∈ a, s.Lens) : PCalls E 67 [encSets a, encSets b] (· = .bool (decide (a = b))) := by
  refine PCalls.run E_ok (fn := Tryz.f67) Tryz.func67 (body := Tryz.f67.body.getD .skip) rfl (by decide) 2000 ?_
  conv => whnf
  refine caseB_split (fun h4 => ?_) (fun h4 => ?_)
  · conv => whnf
    refine AWL.run E_ok Tryz.func67 2000 ?_
    conv => whnf
    rw [decide_eq_false]
    rintro rfl
    simp at h4
  · simp only [bne_eq_false_iff_eq, List.length_map] at h4
    have hlab : a.length = b.length := by omega
    conv => whnf
    refine AWL.run E_ok Tryz.func67 2000 ?_
    conv => whnf
    refine AWL.loop (κ := Nat) [4, 5, 11, 12, 13, 14, 15, 16, 17, 18, 19, 20, 21, 22, 23, 24, 25, 26] (fun k => [(5, .d (.int .i64 k))]) (fun _ => []) (fun k => k ≤ a.length ∧ a.take k = b.take k) (fun k => a.length - k) 0 ⟨Nat.zero_le _, rfl⟩ ?_ ?_
    · conv => whnf
      repeat (first | exact trivial | (refine And.intro (by first | with_reducible rfl | exact congrArg (DV.int .i64) (by omega) | exact congrArg (DV.int .i64) (wrap64 (by omega) (by omega)) | exact congrArg (DV.int .i64) ((wrap64 (by omega) (by omega)).trans (by omega))) ?_; conv => whnf))
    · intro k hk IH
      refine AWL.head E_ok Tryz.func67 2000 ?_
      conv => whnf
      refine caseB_split (fun h5 => ?_) (fun h5 => ?_)
      · have hlt : k < a.length := by simpa using h5
        obtain ⟨x, hx⟩ := some_of_lt hlt
        obtain ⟨y, hy⟩ := some_of_lt (l := b) (k := k) (by omega)
        have hxl := ha x (List.mem_of_getElem? hx)
        conv => whnf
        refine AWL.run E_ok Tryz.func67 2000 ?_
        conv => whnf
        refine AWL.draw E_ok E_mixed 10 2000 (by kernel_rfl) ?_
        conv => whnf
        refine elemP_intro x.enc (by omega) (elem_map hx) rfl ?_
        conv => whnf
        refine DWL.run E_ok 2000 ?_
        conv => whnf
        refine elemP_intro y.enc (by omega) (elem_map hy) rfl ?_
        conv => whnf
        refine DWL.run E_ok 2000 ?_
        conv => whnf
        with_reducible refine callP1_eq (rsameSigned_p x y hxl.data hxl.sigs) ?_
        conv => whnf
        refine DWL.run E_ok 2000 ?_
        conv => whnf
        conv => whnf
        refine SWL.run E_ok 2000 ?_
        conv => whnf
        conv => whnf
        refine AWL.run E_ok Tryz.func67 2000 ?_
        conv => whnf
        refine caseB_split (fun h6 => ?_) (fun h6 => ?_)
        · have hne : x ≠ y := by simpa using h6
          conv => whnf
          refine AWL.run E_ok Tryz.func67 2000 ?_
          conv => whnf
          rw [decide_eq_false (ne_of_at hx hy hne)]
        · have he : x = y := by simpa using h6
          conv => whnf
          refine AWL.run E_ok Tryz.func67 2000 ?_
          conv => whnf
          refine AWL.back (IH (k + 1) ⟨by omega, takeEq_next hk.2 hx hy he⟩ (by omega)) ?_
          conv => whnf
          repeat (first | exact trivial | (refine And.intro (by first | with_reducible rfl | exact congrArg (DV.int .i64) (by omega) | exact congrArg (DV.int .i64) (wrap64 (by omega) (by omega)) | exact congrArg (DV.int .i64) ((wrap64 (by omega) (by omega)).trans (by omega))) ?_; conv => whnf))
      · have hge : k = a.length := by simp at h5; omega
        conv => whnf
        refine AWL.run E_ok Tryz.func67 2000 ?_
        conv => whnf
        rw [decide_eq_true (takeEq_all hk.2 (by omega) (by omega))]

/-- All lists of a zone are such as Go allows. -/
structure Zone.Lens (z : Zone) : Prop where
  sets : z.sets.length ≤ 2147483648
  each : ∀ s ∈ z.sets, s.Lens
theorem rsameZone_p (a b : Zone) (ha : a.Lens) : PCalls E 19 [a.enc, b.enc] (· = .bool (decide (a = b))) := by
  obtain ⟨aa, sa⟩ := a
  obtain ⟨ba, sb⟩ := b
  rw [show decide (Zone.mk aa sa = Zone.mk ba sb) = (decide (aa = ba) && decide (sa = sb)) by simp]
  have hs := rsameList_p sa sb ha.sets ha.each
  refine PCalls.run E_ok (fn := Tryz.f19) Tryz.func19 (body := Tryz.f19.body.getD .skip) rfl (by decide) 2000 ?_
  conv => whnf
  repeat' (first | with_reducible refine callP_eq (hs) ?_ | with_reducible refine callP1_eq (hs) ?_ | with_reducible refine caseB_true ?_ | with_reducible refine caseB_false ?_ | with_reducible refine caseB_yes (by decide) ?_ | with_reducible refine caseB_no (by decide) ?_ | with_reducible refine caseB_yes (by assumption) ?_ | with_reducible refine caseB_no (by assumption) ?_ | with_reducible refine caseB_split (fun _ => ?_) (fun _ => ?_) | ((conv => whnf); (with_reducible refine AWL.run E_ok Tryz.func19 2000 ?_); (conv => whnf); fail_if_success (with_reducible refine AWL.of ?_)) | ((conv => whnf); (with_reducible refine DWL.run E_ok 2000 ?_); (conv => whnf); fail_if_success (with_reducible refine DWL.is ?_)) | ((conv => whnf); (with_reducible refine SWL.run E_ok 2000 ?_); (conv => whnf); fail_if_success (with_reducible refine SWL.is ?_)))
  all_goals simp_all

end Go.Proofs.YtebielkakdhelaaGreatDoor.P
