/- Contracts by the engine: package zone, second part: sets looked for, and in order. Conditions: lengths that Go allows. -/
import Derived.Test.YtebielkakdhelaaGreatDoorZP17
set_option linter.unusedVariables false
set_option linter.unusedSimpArgs false
namespace Go.Proofs.YtebielkakdhelaaGreatDoor.P
open Go Go.Eng
set_option maxRecDepth 100000
set_option maxHeartbeats 4000000

/-- A set, compared with a question. -/
def cmpQ (s : Signed) (q : Quest) : Int := cmpP s.set.name s.set.type q.name q.type
theorem cmpI_zero {a b : Int} : cmpI a b = 0 ↔ a = b := by
  unfold cmpI
  split
  · omega
  · split <;> omega
theorem cmpQ_zero {s : Signed} {q : Quest} : (cmpQ s q == 0) = atQ q s := by
  rw [Bool.eq_iff_iff, beq_iff_eq]
  unfold cmpQ cmpP atQ
  by_cases h : s.set.name = q.name
  · simp [h, cmpI_zero]
  · have : ordN s.set.name q.name ≠ 0 := fun e => h (ordN_zero e)
    simp [h, this]
/-- Sets in order. -/
def Sorted (l : List Signed) : Prop := ∀ (i j : Nat) (x y : Signed), i < j → l[i]? = some x → l[j]? = some y → ordS x.set y.set < 0
theorem cmpI_trans {a b c : Int} (h : cmpI a b < 0) (k : cmpI b c < 0) : cmpI a c < 0 := by
  unfold cmpI at *
  repeat' split at h
  all_goals first | omega | skip
  repeat' split at k
  all_goals first | omega | skip
  repeat' split
  all_goals omega
theorem cmpP_trans {a b c : Text} {s t u : Int} (h : cmpP a s b t < 0) (k : cmpP b t c u < 0) : cmpP a s c u < 0 := by
  unfold cmpP at *
  by_cases e1 : a = b
  · subst e1
    simp only [ne_eq, not_true_eq_false, if_false] at h
    by_cases e2 : a = c
    · subst e2
      simp only [ne_eq, not_true_eq_false, if_false] at k ⊢
      exact cmpI_trans h k
    · simp only [ne_eq, e2, not_false_eq_true, if_true] at k ⊢
      exact k
  · simp only [ne_eq, e1, not_false_eq_true, if_true] at h
    by_cases e2 : b = c
    · subst e2
      simp only [ne_eq, e1, not_false_eq_true, if_true]
      exact h
    · simp only [ne_eq, e2, not_false_eq_true, if_true] at k
      have := ordN_trans h k
      have e3 : a ≠ c := by
        rintro rfl
        rw [ordN_self] at this
        omega
      simp only [ne_eq, e3, not_false_eq_true, if_true]
      exact this

theorem find1_p (s : Signed) (q : Quest) (hs : Nm.valid s.set.name = true) (hq : Nm.valid q.name = true) : PCalls E 172 [s.enc, q.enc] (· = .int .i64 (cmpQ s q)) := by
  refine PCalls.run E_ok (fn := Tryz.f172) Tryz.func172 (body := Tryz.f172.body.getD .skip) rfl (by decide) 2000 ?_
  conv => whnf
  with_reducible refine callP_eq (cmpP_p _ _ _ _ hs hq) ?_
  conv => whnf
  refine AWL.run E_ok Tryz.func172 2000 ?_
  conv => whnf
  rfl

theorem mid_eq {i j : Nat} (h : i + j ≤ 4294967296) : IntKind.i64.wrap (shI .shr .u64 (IntKind.u64.wrap (IntKind.i64.wrap ((i : Int) + j))) (Int.toNat 1)) = (((i + j) / 2 : Nat) : Int) := by
  rw [wrap64 (n := (i : Int) + j) (by omega) (by omega)]
  have e1 : IntKind.u64.wrap ((i : Int) + j) = (i : Int) + j := by
    simp [IntKind.wrap, IntKind.signed, IntKind.bits]
    omega
  rw [e1]
  have e2 : shI .shr .u64 ((i : Int) + j) (Int.toNat 1) = (((i + j) / 2 : Nat) : Int) := by
    show ((i : Int) + j).fdiv (2 ^ 1) = _
    rw [Int.fdiv_eq_ediv_of_nonneg _ (by decide)]
    omega
  rw [e2, wrap64 (by omega) (by omega)]

theorem search_a (l : List Signed) (q : Quest) (hl : l.length ≤ 1000000) (hv : ∀ s ∈ l, Nm.valid s.set.name = true) (hq : Nm.valid q.name = true) (hs : Sorted l) :
    ACalls E 171 [] [.d (encSets l), .d q.enc, .fn (.func 172) [] []] (fun a b => (∃ i : Nat, i ≤ l.length ∧ a = .tup [.d (.int .i64 i), .d (.bool (l.any (atQ q)))] ∧ ∀ j x, l[j]? = some x → atQ q x = true → j = i) ∧ b = [.cells [.d (.str q.name), .d (.int .i64 q.type)]]) := by
  refine ACalls.run E_ok (fn := Tryz.f171) Tryz.func171 (body := Tryz.f171.body.getD .skip) rfl (by decide) 2000 rfl ?_
  conv => whnf
  refine AWL.loop (κ := Nat × Nat) [9, 10, 11, 15, 16, 17, 18, 19, 20, 21, 22, 23, 24, 25, 26, 27, 28, 29, 30, 31, 32, 33, 34] (fun k => [(9, .d (.int .i64 k.1)), (10, .d (.int .i64 k.2))]) (fun _ => []) (fun k => k.1 ≤ k.2 ∧ k.2 ≤ l.length ∧ (∀ m x, m < k.1 → l[m]? = some x → cmpQ x q < 0) ∧ (∀ m x, k.2 ≤ m → l[m]? = some x → ¬ cmpQ x q < 0)) (fun k => k.2 - k.1) (0, l.length) ⟨Nat.zero_le _, Nat.le_refl _, fun m x h => by omega, fun m x h hx => by have := lt_of_getElem? hx; omega⟩ ?_ ?_
  · conv => whnf
    repeat (first | exact trivial | (refine And.intro (by first | with_reducible rfl | exact congrArg (DV.int .i64) (by omega) | exact congrArg (DV.int .i64) (by simp) | exact congrArg (DV.int .i64) (wrap64 (by omega) (by omega)) | exact congrArg (DV.int .i64) ((wrap64 (by omega) (by omega)).trans (by omega))) ?_; conv => whnf))
  · rintro ⟨i, j⟩ hk IH
    obtain ⟨k1, k2, k3, k4⟩ := hk
    simp only at k1 k2 k3 k4
    refine AWL.head E_ok Tryz.func171 2000 ?_
    conv => whnf
    refine caseB_split (fun h5 => ?_) (fun h5 => ?_)
    · have hlt : i < j := by simpa using h5
      obtain ⟨x, hx⟩ := some_of_lt (l := l) (k := (i + j) / 2) (by omega)
      have hxv := hv x (List.mem_of_getElem? hx)
      have hmid := mid_eq (i := i) (j := j) (by omega)
      conv => whnf
      refine AWL.run E_ok Tryz.func171 2000 ?_
      conv => whnf
      refine need_intro (by decide) ?_
      conv => whnf
      refine AWL.run E_ok Tryz.func171 2000 ?_
      conv => whnf
      refine AWL.draw E_ok E_mixed 8 2000 (by kernel_rfl) ?_
      conv => whnf
      rw [show IntKind.i64.wrap (shI .shr .u64 (IntKind.u64.wrap (IntKind.i64.wrap (((i, j).fst : Int) + ((i, j).snd : Int)))) (Int.toNat 1)) = (((i + j) / 2 : Nat) : Int) from hmid]
      refine elemP_at (at_map hx) rfl ?_
      conv => whnf
      refine DWL.run E_ok 2000 ?_
      conv => whnf
      with_reducible refine callP1_eq (find1_p x q hxv hq) ?_
      conv => whnf
      refine DWL.run E_ok 2000 ?_
      conv => whnf
      conv => whnf
      refine SWL.run E_ok 2000 ?_
      conv => whnf
      conv => whnf
      refine AWL.run E_ok Tryz.func171 2000 ?_
      conv => whnf
      refine caseB_split (fun h6 => ?_) (fun h6 => ?_)
      · have hc : cmpQ x q < 0 := by simpa using h6
        conv => whnf
        refine AWL.run E_ok Tryz.func171 2000 ?_
        conv => whnf
        refine AWL.back (IH ((i + j) / 2 + 1, j) ⟨by simp only; omega, k2, fun m y hm hy => ?_, k4⟩ (by simp only; omega)) ?_
        · simp only at hm
          rcases Nat.lt_or_ge m ((i + j) / 2) with h | h
          · have h1 := hs m ((i + j) / 2) y x h hy hx
            rw [← cmpP_ordS] at h1
            exact cmpP_trans h1 hc
          · obtain rfl : m = (i + j) / 2 := by omega
            rw [hx] at hy
            cases hy
            exact hc
        · conv => whnf
          repeat (first | exact trivial | (refine And.intro (by first | with_reducible rfl | exact congrArg (DV.int .i64) (by omega) | exact congrArg (DV.int .i64) (wrap64 (by omega) (by omega)) | exact congrArg (DV.int .i64) ((wrap64 (by omega) (by omega)).trans (by omega))) ?_; conv => whnf))
      · have hc : ¬ cmpQ x q < 0 := by simpa using h6
        conv => whnf
        refine AWL.run E_ok Tryz.func171 2000 ?_
        conv => whnf
        refine AWL.back (IH (i, (i + j) / 2) ⟨by simp only; omega, by simp only; omega, k3, fun m y hm hy => ?_⟩ (by simp only; omega)) ?_
        · simp only at hm
          rcases Nat.lt_or_ge ((i + j) / 2) m with h | h
          · intro hy0
            have h1 := hs ((i + j) / 2) m x y h hx hy
            rw [← cmpP_ordS] at h1
            exact hc (cmpP_trans h1 hy0)
          · obtain rfl : m = (i + j) / 2 := by omega
            rw [hx] at hy
            cases hy
            exact hc
        · conv => whnf
          repeat (first | exact trivial | (refine And.intro (by first | with_reducible rfl | exact congrArg (DV.int .i64) (by omega) | exact congrArg (DV.int .i64) (wrap64 (by omega) (by omega)) | exact congrArg (DV.int .i64) ((wrap64 (by omega) (by omega)).trans (by omega))) ?_; conv => whnf))
    · have hge : i = j := by simp at h5; omega
      subst hge
      have only : ∀ m y, l[m]? = some y → atQ q y = true → m = i := fun m y hy ha => by
        rw [← cmpQ_zero, beq_iff_eq] at ha
        rcases Nat.lt_trichotomy m i with h | h | h
        · have := k3 m y h hy; omega
        · exact h
        · obtain ⟨x, hx⟩ := some_of_lt (l := l) (k := i) (by have := lt_of_getElem? hy; omega)
          have h1 := hs i m x y h hx hy
          rw [← cmpP_ordS] at h1
          have h2 := k4 i x (Nat.le_refl _) hx
          have h3 : cmpP x.set.name x.set.type q.name q.type < 0 := by
            have e : y.set.name = q.name ∧ y.set.type = q.type := by
              have : atQ q y = true := by rw [← cmpQ_zero, beq_iff_eq]; exact ha
              simpa [atQ] using this
            rw [e.1, e.2] at h1
            exact h1
          exact absurd h3 h2
      rcases Nat.lt_or_ge i l.length with hi | hi
      · obtain ⟨x, hx⟩ := some_of_lt hi
        have hxv := hv x (List.mem_of_getElem? hx)
        have hany : l.any (atQ q) = atQ q x := by
          cases ha : atQ q x
          · rw [← Bool.not_eq_true, List.any_eq_true]
            rintro ⟨y, hy, hay⟩
            obtain ⟨m, hm⟩ := List.getElem?_of_mem hy
            obtain rfl := only m y hm hay
            rw [hx] at hm
            cases hm
            rw [ha] at hay
            cases hay
          · rw [List.any_eq_true]
            exact ⟨x, List.mem_of_getElem? hx, ha⟩
        conv => whnf
        refine AWL.run E_ok Tryz.func171 2000 ?_
        conv => whnf
        refine AWL.draw E_ok E_mixed 16 2000 (by kernel_rfl) ?_
        conv => whnf
        refine caseB_yes (by simp; omega) ?_
        conv => whnf
        refine DWL.run E_ok 2000 ?_
        conv => whnf
        refine elemP_at (at_map hx) rfl ?_
        conv => whnf
        refine DWL.run E_ok 2000 ?_
        conv => whnf
        with_reducible refine callP1_eq (find1_p x q hxv hq) ?_
        conv => whnf
        refine DWL.run E_ok 2000 ?_
        conv => whnf
        conv => whnf
        refine SWL.run E_ok 2000 ?_
        conv => whnf
        conv => whnf
        refine AWL.run E_ok Tryz.func171 2000 ?_
        conv => whnf
        exact ⟨⟨i, by omega, by rw [hany, ← cmpQ_zero], only⟩, rfl⟩
      · have hany : l.any (atQ q) = false := by
          rw [← Bool.not_eq_true, List.any_eq_true]
          rintro ⟨y, hy, hay⟩
          obtain ⟨m, hm⟩ := List.getElem?_of_mem hy
          obtain rfl := only m y hm hay
          have := lt_of_getElem? hm
          omega
        conv => whnf
        refine AWL.run E_ok Tryz.func171 2000 ?_
        conv => whnf
        refine AWL.draw E_ok E_mixed 16 2000 (by kernel_rfl) ?_
        conv => whnf
        refine caseB_no (by simp; omega) ?_
        conv => whnf
        refine DWL.run E_ok 2000 ?_
        conv => whnf
        conv => whnf
        refine SWL.run E_ok 2000 ?_
        conv => whnf
        conv => whnf
        refine AWL.run E_ok Tryz.func171 2000 ?_
        conv => whnf
        exact ⟨⟨i, by omega, by rw [hany], only⟩, rfl⟩

theorem find_p (z : Zone) (q : Quest) (hl : z.sets.length ≤ 1000000) (hv : ∀ s ∈ z.sets, Nm.valid s.set.name = true) (hq : Nm.valid q.name = true) (hs : Sorted z.sets) :
    PCalls E 121 [z.enc, q.enc] (fun r => ∃ i : Nat, i ≤ z.sets.length ∧ r = .tup [.int .i64 i, .bool (z.sets.any (atQ q))] ∧ ∀ j x, z.sets[j]? = some x → atQ q x = true → j = i) := by
  refine PCalls.run E_ok (fn := Tryz.f121) Tryz.func121 (body := Tryz.f121.body.getD .skip) rfl (by decide) 2000 ?_
  conv => whnf
  refine callS_any (search_a z.sets q hl hv hq hs) ?_
  rintro r h1 ⟨⟨i, hi, rfl, ho⟩, rfl⟩
  conv => whnf
  refine AWL.run E_ok Tryz.func121 2000 ?_
  conv => whnf
  exact ⟨i, hi, rfl, ho⟩

theorem wild_eq {t : Text} (h : Nm.valid t = true) : wildL t = Nm.wild t := by
  unfold wildL Nm.labels
  by_cases hr : t = [46]
  · subst hr; rfl
  · rw [if_neg hr]
    have hp : Nm.parts (Nm.split t) = true := by
      simp only [Nm.valid, Bool.or_eq_true, decide_eq_true_eq, Bool.and_eq_true] at h
      rcases h with h | h
      · exact absurd h hr
      · exact h.2
    cases t with
    | nil => rfl
    | cons c r =>
      by_cases hc : c = 46
      · subst hc
        simp [Nm.split, Nm.parts, Nm.label] at hp
      · obtain ⟨x, u, h1, h2⟩ := Nm.split_cons c r hc
        rw [h2] at hp ⊢
        simp only [Nm.parts, Bool.and_eq_true, Bool.or_eq_true] at hp
        show (c :: x == [42]) = (c == 42)
        rcases hp.2.1 with hl | hl
        · have h0 : Nm.labelAt (c :: x) 0 = true := by
            simp only [Nm.label, decide_eq_true_eq] at hl
            exact hl.2.2 0 (by simp)
          have hne : (c == 42) = false := by
            rw [← Bool.not_eq_true]
            intro e
            have : c = 42 := by simpa using e
            subst this
            simp [Nm.labelAt, Nm.alnum] at h0
          have hne' : c ≠ 42 := by simpa using hne
          rw [hne]
          simp [hne']
        · have : c :: x = [42] := by simpa using hl
          injection this with e1 e2
          subst e1
          subst e2
          rfl
theorem under_v {s z : Text} (hs : Nm.valid s = true) (hz : Nm.valid z = true) : Nm.vunder s z = Nm.under s z := by simp [Nm.vunder, hs, hz]

theorem ordered_p (z : Zone) (hf : z.Fits) : PCalls E 60 [z.enc] (· = .bool (oneB z)) := by
  obtain ⟨apex, l⟩ := z
  have hfa : apex.length ≤ maxLen := hf.apex
  have hfs : ∀ s ∈ l, s.set.Fits := hf.sets
  unfold oneB
  simp only
  cases hv : Nm.valid apex
  · refine PCalls.run E_ok (fn := Tryz.f60) Tryz.func60 (body := Tryz.f60.body.getD .skip) rfl (by decide) 2000 ?_
    conv => whnf
    with_reducible refine callP_eq (nvalid_p _ hfa) ?_
    conv => whnf
    refine AWL.run E_ok Tryz.func60 2000 ?_
    conv => whnf
    rw [hv]
    refine caseB_yes rfl ?_
    conv => whnf
    refine AWL.run E_ok Tryz.func60 2000 ?_
    conv => whnf
    refine caseB_true ?_
    conv => whnf
    refine AWL.run E_ok Tryz.func60 2000 ?_
    conv => whnf
    refine caseB_true ?_
    conv => whnf
    refine AWL.run E_ok Tryz.func60 2000 ?_
    conv => whnf
    simp
  · have hal := valid_len hv
    rw [wild_eq hv]
    refine PCalls.run E_ok (fn := Tryz.f60) Tryz.func60 (body := Tryz.f60.body.getD .skip) rfl (by decide) 2000 ?_
    conv => whnf
    with_reducible refine callP_eq (nvalid_p _ hfa) ?_
    conv => whnf
    refine AWL.run E_ok Tryz.func60 2000 ?_
    conv => whnf
    rw [hv]
    refine caseB_no rfl ?_
    conv => whnf
    refine AWL.run E_ok Tryz.func60 2000 ?_
    conv => whnf
    with_reducible refine callP_eq (hasPrefix_p _ _) ?_
    conv => whnf
    refine AWL.run E_ok Tryz.func60 2000 ?_
    conv => whnf
    rw [show preB apex _ = Nm.wild apex from pre_star apex]
    cases hw : Nm.wild apex
    case true =>
      refine caseB_true ?_
      conv => whnf
      refine AWL.run E_ok Tryz.func60 2000 ?_
      conv => whnf
      refine caseB_true ?_
      conv => whnf
      refine AWL.run E_ok Tryz.func60 2000 ?_
      conv => whnf
      simp
    refine caseB_false ?_
    conv => whnf
    refine AWL.run E_ok Tryz.func60 2000 ?_
    conv => whnf
    refine caseB_split (fun h3 => ?_) (fun h3 => ?_)
    · conv => whnf
      refine AWL.run E_ok Tryz.func60 2000 ?_
      conv => whnf
      simp only [List.length_map] at h3
      rw [h3]
      simp
    · simp only [List.length_map] at h3
      rw [h3]
      simp only [Bool.not_false, Bool.true_and]
      have h20 : l.length ≤ 20000 := by simp at h3; omega
      conv => whnf
      refine AWL.run E_ok Tryz.func60 2000 ?_
      conv => whnf
      refine AWL.loop (κ := Nat) [2, 3, 4, 5, 6, 7, 30, 31, 32, 33, 34, 35, 36, 37, 38, 39, 40, 41, 42, 43, 44, 45, 46, 47, 48, 49, 50, 51, 52, 53, 54, 55, 56, 57, 58, 59, 60, 61, 62, 63, 64, 65, 66, 67, 68, 69, 70, 71, 72, 73] (fun k => [(30, .d (.int .i64 k))]) (fun _ => []) (fun k => k ≤ l.length ∧ chain (ok1 apex) before1 none l = chain (ok1 apex) before1 (prevA l k) (l.drop k) ∧ ∀ q, prevA l k = some q → setOK q.set = true) (fun k => l.length - k) 0 ⟨Nat.zero_le _, rfl, fun q h => by simp [prevA] at h⟩ ?_ ?_
      · conv => whnf
        repeat (first | exact trivial | (refine And.intro (by first | with_reducible rfl | exact congrArg (DV.int .i64) (by omega) | exact congrArg (DV.int .i64) (wrap64 (by omega) (by omega)) | exact congrArg (DV.int .i64) ((wrap64 (by omega) (by omega)).trans (by omega))) ?_; conv => whnf))
      · intro k hk IH
        refine AWL.head E_ok Tryz.func60 2000 ?_
        conv => whnf
        refine caseB_split (fun h5 => ?_) (fun h5 => ?_)
        · have hlt : k < l.length := by simpa using h5
          obtain ⟨x, hx⟩ := some_of_lt hlt
          have hnext := chain_next (ok := ok1 apex) (rel := before1) hx
          rw [← hk.2.1] at hnext
          have hxf := hfs x (List.mem_of_getElem? hx)
          have hp1 : prevA l (k + 1) = some x := by simp [prevA, hx]
          cases hs : setOK x.set
          · conv => whnf
            refine AWL.run E_ok Tryz.func60 2000 ?_
            conv => whnf
            refine elemP_at (at_map hx) rfl ?_
            conv => whnf
            refine AWL.run E_ok Tryz.func60 2000 ?_
            conv => whnf
            with_reducible refine callP_eq (setOK_p x.set hxf) ?_
            conv => whnf
            refine AWL.run E_ok Tryz.func60 2000 ?_
            conv => whnf
            rw [hs]
            refine caseB_yes rfl ?_
            conv => whnf
            refine AWL.run E_ok Tryz.func60 2000 ?_
            conv => whnf
            rw [hnext, ok1, hs]
            simp
          · have hxv := setOK_name hs
            have hxl := valid_len hxv
            have hun := nunder_p x.set.name apex (by unfold maxLen; omega) hfa
            rw [under_v hxv hv] at hun
            conv => whnf
            refine AWL.run E_ok Tryz.func60 2000 ?_
            conv => whnf
            refine elemP_at (at_map hx) rfl ?_
            conv => whnf
            refine AWL.run E_ok Tryz.func60 2000 ?_
            conv => whnf
            with_reducible refine callP_eq (setOK_p x.set hxf) ?_
            conv => whnf
            refine AWL.run E_ok Tryz.func60 2000 ?_
            conv => whnf
            rw [hs]
            refine caseB_no rfl ?_
            conv => whnf
            refine AWL.run E_ok Tryz.func60 2000 ?_
            conv => whnf
            with_reducible refine callP_eq (hun) ?_
            conv => whnf
            refine AWL.run E_ok Tryz.func60 2000 ?_
            conv => whnf
            cases hu : Nm.under x.set.name apex
            · refine caseB_yes rfl ?_
              conv => whnf
              refine AWL.run E_ok Tryz.func60 2000 ?_
              conv => whnf
              rw [hnext, ok1, hu]
              simp
            · have hok : ok1 apex x = true := by simp [ok1, hs, hu]
              refine caseB_no rfl ?_
              conv => whnf
              refine AWL.run E_ok Tryz.func60 2000 ?_
              conv => whnf
              rcases Nat.eq_zero_or_pos k with hk0 | hk0
              · have hpq : prevA l k = none := by simp [prevA, hk0]
                rw [hpq] at hnext
                dsimp only at hnext
                rw [Bool.and_true, hok, Bool.true_and] at hnext
                refine caseB_yes (by simp [hk0]) ?_
                conv => whnf
                refine AWL.run E_ok Tryz.func60 2000 ?_
                conv => whnf
                refine AWL.back (IH (k + 1) ⟨by omega, hnext, fun q hq => by rw [hp1] at hq; cases hq; exact hs⟩ (by omega)) ?_
                conv => whnf
                repeat (first | exact trivial | (refine And.intro (by first | with_reducible rfl | exact congrArg (DV.int .i64) (by omega) | exact congrArg (DV.int .i64) (wrap64 (by omega) (by omega)) | exact congrArg (DV.int .i64) ((wrap64 (by omega) (by omega)).trans (by omega))) ?_; conv => whnf))
              · obtain ⟨q, hq, hpq⟩ := prevA_some hk0 hk.1
                have hqv := setOK_name (hk.2.2 q hpq)
                rw [hpq] at hnext
                dsimp only at hnext
                rw [hok, Bool.true_and] at hnext
                have hc := cmpP_p q.set.name q.set.type x.set.name x.set.type hqv hxv
                rw [cmpP_ordS] at hc
                refine caseB_no (by simp; omega) ?_
                conv => whnf
                refine AWL.run E_ok Tryz.func60 2000 ?_
                conv => whnf
                refine elemP_at (at_prev hq hk0 (by omega)) rfl ?_
                conv => whnf
                refine AWL.run E_ok Tryz.func60 2000 ?_
                conv => whnf
                with_reducible refine callP_eq (hc) ?_
                conv => whnf
                refine AWL.run E_ok Tryz.func60 2000 ?_
                conv => whnf
                refine caseB_split (fun h8 => ?_) (fun h8 => ?_)
                · have hb : before1 q x = false := by simp at h8; simp [before1]; omega
                  conv => whnf
                  refine AWL.run E_ok Tryz.func60 2000 ?_
                  conv => whnf
                  rw [hnext, hb, Bool.false_and]
                · have hb : before1 q x = true := by simp at h8; simp [before1]; omega
                  conv => whnf
                  refine AWL.run E_ok Tryz.func60 2000 ?_
                  conv => whnf
                  refine AWL.back (IH (k + 1) ⟨by omega, by rw [hnext, hb, Bool.true_and], fun q hq => by rw [hp1] at hq; cases hq; exact hs⟩ (by omega)) ?_
                  conv => whnf
                  repeat (first | exact trivial | (refine And.intro (by first | with_reducible rfl | exact congrArg (DV.int .i64) (by omega) | exact congrArg (DV.int .i64) (wrap64 (by omega) (by omega)) | exact congrArg (DV.int .i64) ((wrap64 (by omega) (by omega)).trans (by omega))) ?_; conv => whnf))
        · have hge : l.length ≤ k := by simpa using h5
          conv => whnf
          refine AWL.run E_ok Tryz.func60 2000 ?_
          conv => whnf
          rw [hk.2.1, List.drop_of_length_le hge]
          rfl

theorem any_at {l : List Signed} {q : Quest} : l.any (atQ q) = !(decide (atI l q < 0)) := by
  unfold atI
  cases h : l.findIdx? (atQ q) with
  | none =>
    have h1 := List.findIdx?_eq_none_iff.1 h
    have : l.any (atQ q) = false := by
      rw [← Bool.not_eq_true, List.any_eq_true]
      rintro ⟨x, hx, ha⟩
      rw [h1 x hx] at ha
      cases ha
    rw [this]
    rfl
  | some i =>
    obtain ⟨hi, ha, -⟩ := List.findIdx?_eq_some_iff_getElem.1 h
    have : l.any (atQ q) = true := List.any_eq_true.2 ⟨_, List.getElem_mem hi, ha⟩
    rw [this]
    simp
theorem apexHolds_p (z : Zone) (hl : z.sets.length ≤ 1000000) (hv : ∀ s ∈ z.sets, Nm.valid s.set.name = true) (hq : Nm.valid z.apex = true) (hs : Sorted z.sets) : PCalls E 61 [z.enc] (· = .bool (twoB z)) := by
  have f1 := find_p z ⟨z.apex, 4⟩ hl hv hq hs
  have f2 := find_p z ⟨z.apex, 2⟩ hl hv hq hs
  obtain ⟨apex, l⟩ := z
  simp only at *
  unfold twoB
  simp only [← any_at]
  refine PCalls.run E_ok (fn := Tryz.f61) Tryz.func61 (body := Tryz.f61.body.getD .skip) rfl (by decide) 2000 ?_
  conv => whnf
  refine AWL.unroll ?_
  refine AWL.run E_ok Tryz.func61 2000 ?_
  conv => whnf
  refine caseB_yes (by decide) ?_
  conv => whnf
  refine AWL.run E_ok Tryz.func61 2000 ?_
  conv => whnf
  refine elemP_intro (.int .i64 4) (by decide) rfl rfl ?_
  conv => whnf
  refine AWL.run E_ok Tryz.func61 2000 ?_
  conv => whnf
  with_reducible refine callP_any (f1) ?_
  rintro r ⟨i, -, rfl, -⟩
  conv => whnf
  refine AWL.run E_ok Tryz.func61 2000 ?_
  conv => whnf
  cases h1 : l.any (atQ ⟨apex, 4⟩)
  · refine caseB_yes rfl ?_
    conv => whnf
    refine AWL.run E_ok Tryz.func61 2000 ?_
    conv => whnf
    rfl
  refine caseB_no rfl ?_
  conv => whnf
  refine AWL.run E_ok Tryz.func61 2000 ?_
  conv => whnf
  refine AWL.again ?_
  refine AWL.run E_ok Tryz.func61 2000 ?_
  conv => whnf
  refine caseB_yes (by decide) ?_
  conv => whnf
  refine AWL.run E_ok Tryz.func61 2000 ?_
  conv => whnf
  refine elemP_intro (.int .i64 2) (by decide) rfl rfl ?_
  conv => whnf
  refine AWL.run E_ok Tryz.func61 2000 ?_
  conv => whnf
  with_reducible refine callP_any (f2) ?_
  rintro r ⟨j, -, rfl, -⟩
  conv => whnf
  refine AWL.run E_ok Tryz.func61 2000 ?_
  conv => whnf
  cases h2 : l.any (atQ ⟨apex, 2⟩)
  · refine caseB_yes rfl ?_
    conv => whnf
    refine AWL.run E_ok Tryz.func61 2000 ?_
    conv => whnf
    rfl
  refine caseB_no rfl ?_
  conv => whnf
  refine AWL.run E_ok Tryz.func61 2000 ?_
  conv => whnf
  refine AWL.again ?_
  refine AWL.run E_ok Tryz.func61 2000 ?_
  conv => whnf
  refine caseB_no (by decide) ?_
  conv => whnf
  refine AWL.run E_ok Tryz.func61 2000 ?_
  conv => whnf
  simp only [Bool.true_and]
  refine AWL.loop (κ := Nat) [2, 8, 32, 33, 34, 35, 36, 37, 38, 39, 40, 41, 42, 43, 44, 45, 46, 47, 48] (fun k => [(32, .d (.int .i64 k))]) (fun _ => []) (fun k => k ≤ l.length ∧ (l.take k).all (fun s => placedB s.set.type (s.set.name == apex)) = true) (fun k => l.length - k) 0 ⟨Nat.zero_le _, rfl⟩ ?_ ?_
  · conv => whnf
    repeat (first | exact trivial | (refine And.intro (by first | with_reducible rfl | exact congrArg (DV.int .i64) (by omega) | exact congrArg (DV.int .i64) (wrap64 (by omega) (by omega)) | exact congrArg (DV.int .i64) ((wrap64 (by omega) (by omega)).trans (by omega))) ?_; conv => whnf))
  · intro k hk IH
    refine AWL.head E_ok Tryz.func61 2000 ?_
    conv => whnf
    refine caseB_split (fun h5 => ?_) (fun h5 => ?_)
    · have hlt : k < l.length := by simpa using h5
      obtain ⟨x, hx⟩ := some_of_lt hlt
      conv => whnf
      refine AWL.run E_ok Tryz.func61 2000 ?_
      conv => whnf
      repeat' (first | with_reducible refine elemP_at (at_map hx) rfl ?_ | with_reducible refine callP_eq (fitsApex_p _ _) ?_ | with_reducible refine callP1_eq (fitsApex_p _ _) ?_ | with_reducible refine caseB_true ?_ | with_reducible refine caseB_false ?_ | with_reducible refine caseB_yes (by decide) ?_ | with_reducible refine caseB_no (by decide) ?_ | with_reducible refine caseB_yes (by assumption) ?_ | with_reducible refine caseB_no (by assumption) ?_ | with_reducible refine caseB_split (fun _ => ?_) (fun _ => ?_) | ((conv => whnf); (with_reducible refine AWL.run E_ok Tryz.func61 2000 ?_); (conv => whnf); fail_if_success (with_reducible refine AWL.of ?_)) | ((conv => whnf); (with_reducible refine DWL.run E_ok 2000 ?_); (conv => whnf); fail_if_success (with_reducible refine DWL.is ?_)) | ((conv => whnf); (with_reducible refine SWL.run E_ok 2000 ?_); (conv => whnf); fail_if_success (with_reducible refine SWL.is ?_)))
      all_goals first
        | (rw [all_no hx (by simp_all)]; done)
        | skip
      all_goals
        conv => whnf
        refine AWL.run E_ok Tryz.func61 2000 ?_
        conv => whnf
        refine AWL.back (IH (k + 1) ⟨by omega, all_next hk.2 hx (by simp_all)⟩ (by omega)) ?_
        conv => whnf
        repeat (first | exact trivial | (refine And.intro (by first | with_reducible rfl | exact congrArg (DV.int .i64) (by omega) | exact congrArg (DV.int .i64) (wrap64 (by omega) (by omega)) | exact congrArg (DV.int .i64) ((wrap64 (by omega) (by omega)).trans (by omega))) ?_; conv => whnf))
    · have hge : l.length ≤ k := by simpa using h5
      conv => whnf
      refine AWL.run E_ok Tryz.func61 2000 ?_
      conv => whnf
      rw [all_end hk.2 hge]

end Go.Proofs.YtebielkakdhelaaGreatDoor.P
