/- Contracts by the engine: the reference implementation's zones, third part: cuts, and what is behind them. Conditions: lengths that Go allows. -/
import Derived.Test.YtebielkakdhelaaGreatDoorZP12
set_option linter.unusedVariables false
set_option linter.unusedSimpArgs false
namespace Go.Proofs.YtebielkakdhelaaGreatDoor.P
open Go Go.Eng
set_option maxRecDepth 100000
set_option maxHeartbeats 4000000

/-- A cut. -/
def isCut (apex : Text) (s : Signed) : Bool := s.set.type == 2 && s.set.name != apex
/-- The cuts. -/
def cutsL (apex : Text) (l : List Signed) : List Text := (l.filter (isCut apex)).map (·.set.name)
theorem cutsL_next {apex : Text} {l : List Signed} {k : Nat} {x : Signed} (h : l[k]? = some x) : cutsL apex (l.take (k + 1)) = cutsL apex (l.take k) ++ (if isCut apex x then [x.set.name] else []) := by
  rw [take_next h]
  simp only [cutsL, List.filter_append, List.map_append]
  congr 1
  cases hc : isCut apex x <;> simp [hc]
theorem cutsL_len (apex : Text) (l : List Signed) : (cutsL apex l).length ≤ l.length := by
  simp only [cutsL, List.length_map]
  exact List.length_filter_le _ _
theorem cutsL_mem {apex : Text} {l : List Signed} {c : Text} (h : c ∈ cutsL apex l) : ∃ s ∈ l, s.set.name = c ∧ isCut apex s = true := by
  simp only [cutsL, List.mem_map, List.mem_filter] at h
  obtain ⟨s, ⟨h1, h2⟩, h3⟩ := h
  exact ⟨s, h1, h3, h2⟩

theorem rcuts_p (z : Zone) (hl : z.sets.length ≤ 1000000000) : PCalls E 165 [z.enc] (· = .sl ((cutsL z.apex z.sets).map .str)) := by
  obtain ⟨apex, l⟩ := z
  simp only at hl ⊢
  refine PCalls.run E_ok (fn := Tryz.f165) Tryz.func165 (body := Tryz.f165.body.getD .skip) rfl (by decide) 2000 ?_
  conv => whnf
  refine AWL.adopt 3 (9, 1) (by decide) rfl ?_
  conv => whnf
  refine AWL.loop (κ := Nat) [3, 4, 5, 6, 7, 8, 9, 10, 11, 12, 13, 14, 15, 16, 17, 18, 19, 20, 21, 22, 23, 24, 25, 26, 27, 28, 29, 30, 31, 32, 33] (fun k => [(4, .d (.int .i64 k)), (3, .own 1 1)]) (fun k => [(1, .arr 1 (9, 1) ((cutsL apex (l.take k)).map .str))]) (fun k => k ≤ l.length) (fun k => l.length - k) 0 (Nat.zero_le _) ?_ ?_
  · conv => whnf
    repeat (first | exact trivial | (refine And.intro (by first | with_reducible rfl | exact congrArg (DV.int .i64) (by omega) | exact rfl | exact congrArg (DV.int .i64) (wrap64 (by omega) (by omega)) | exact congrArg (DV.int .i64) ((wrap64 (by omega) (by omega)).trans (by omega))) ?_; conv => whnf))
  · intro k hk IH
    have hcl := cutsL_len apex (l.take k)
    rw [List.length_take] at hcl
    refine AWL.head E_ok Tryz.func165 2000 ?_
    conv => whnf
    refine caseB_split (fun h5 => ?_) (fun h5 => ?_)
    · have hlt : k < l.length := by simpa using h5
      obtain ⟨x, hx⟩ := some_of_lt hlt
      have hnext := cutsL_next (apex := apex) hx
      conv => whnf
      refine AWL.run E_ok Tryz.func165 2000 ?_
      conv => whnf
      repeat' (first | with_reducible refine elemP_at (at_map hx) rfl ?_ | with_reducible refine caseB_true ?_ | with_reducible refine caseB_false ?_ | with_reducible refine caseB_yes (by decide) ?_ | with_reducible refine caseB_no (by decide) ?_ | with_reducible refine caseB_yes (by assumption) ?_ | with_reducible refine caseB_no (by assumption) ?_ | with_reducible refine caseB_split (fun _ => ?_) (fun _ => ?_) | ((conv => whnf); (with_reducible refine AWL.run E_ok Tryz.func165 2000 ?_); (conv => whnf); fail_if_success (with_reducible refine AWL.of ?_)) | ((conv => whnf); (with_reducible refine DWL.run E_ok 2000 ?_); (conv => whnf); fail_if_success (with_reducible refine DWL.is ?_)) | ((conv => whnf); (with_reducible refine SWL.run E_ok 2000 ?_); (conv => whnf); fail_if_success (with_reducible refine SWL.is ?_)))
      all_goals first
        | (refine need_intro ⟨by simp; omega, by simp [DV.cells]⟩ ?_
           have hc : isCut apex x = true := by simp_all [isCut])
        | (have hc : isCut apex x = false := by simp_all [isCut])
      all_goals
        rw [hc] at hnext
        conv => whnf
        refine AWL.run E_ok Tryz.func165 2000 ?_
        conv => whnf
        refine AWL.back (IH (k + 1) (by omega) (by omega)) ?_
        conv => whnf
        repeat (first | exact trivial | (refine And.intro (by first | with_reducible rfl | exact congrArg (DV.int .i64) (by omega) | exact congrArg (DV.int .i64) (wrap64 (by omega) (by omega)) | exact congrArg (DV.int .i64) ((wrap64 (by omega) (by omega)).trans (by omega))) ?_; conv => whnf))
        refine And.intro (by rw [hnext]; simp) ?_
        conv => whnf
        repeat (first | exact trivial | (refine And.intro (by first | with_reducible rfl | exact congrArg (DV.int .i64) (by omega) | exact congrArg (DV.int .i64) (wrap64 (by omega) (by omega)) | exact congrArg (DV.int .i64) ((wrap64 (by omega) (by omega)).trans (by omega))) ?_; conv => whnf))
    · have hge : l.length ≤ k := by simpa using h5
      conv => whnf
      refine AWL.run E_ok Tryz.func165 2000 ?_
      conv => whnf
      rw [List.take_of_length_le hge]

/-- One more cut. -/
def highStep (out : List Text) (c : Text) : List Text := match out.getLast? with
  | none => out ++ [c]
  | some d => if Nm.under c d then out else out ++ [c]
/-- The cuts that are behind no other one. -/
def highL (l : List Text) : List Text := l.foldl highStep []
theorem highL_next {l : List Text} {k : Nat} {x : Text} (h : l[k]? = some x) : highL (l.take (k + 1)) = highStep (highL (l.take k)) x := by
  rw [take_next h, highL, List.foldl_append]
  rfl
theorem highStep_len (o : List Text) (c : Text) : (highStep o c).length ≤ o.length + 1 := by
  unfold highStep
  split
  · simp
  · split <;> simp
theorem highL_len (l : List Text) : (highL l).length ≤ l.length := by
  have : ∀ (l o : List Text), (l.foldl highStep o).length ≤ o.length + l.length := by
    intro l
    induction l with
    | nil => simp
    | cons x l ih => intro o; have := ih (highStep o x); have := highStep_len o x; simp; omega
  have := this l []
  simpa [highL] using this
theorem highL_mem {l : List Text} : ∀ c ∈ highL l, c ∈ l := by
  have : ∀ (l o : List Text), ∀ c ∈ l.foldl highStep o, c ∈ o ∨ c ∈ l := by
    intro l
    induction l with
    | nil => intro o c h; exact .inl h
    | cons x l ih =>
      intro o c h
      rcases ih (highStep o x) c h with h | h
      · have : c ∈ o ∨ c = x := by
          unfold highStep at h
          split at h
          · simpa using h
          · split at h
            · exact .inl h
            · simpa using h
        rcases this with h | h
        · exact .inl h
        · exact .inr (by simp [h])
      · exact .inr (List.mem_cons_of_mem _ h)
  intro c h
  rcases this l [] c h with h | h
  · simp at h
  · exact h

theorem rhighest_p (z : Zone) (hl : z.sets.length ≤ 1000000000) (hn : ∀ s ∈ z.sets, s.set.name.length ≤ 1000) : PCalls E 117 [z.enc] (· = .sl ((highL (cutsL z.apex z.sets)).map .str)) := by
  have hcn : ∀ c ∈ cutsL z.apex z.sets, c.length ≤ 1000 := fun c hc => by
    obtain ⟨s, h1, rfl, -⟩ := cutsL_mem hc
    exact hn s h1
  have hcl := cutsL_len z.apex z.sets
  refine PCalls.run E_ok (fn := Tryz.f117) Tryz.func117 (body := Tryz.f117.body.getD .skip) rfl (by decide) 2000 ?_
  conv => whnf
  with_reducible refine callP_eq (rcuts_p z hl) ?_
  conv => whnf
  refine AWL.run E_ok Tryz.func117 2000 ?_
  conv => whnf
  generalize cutsL z.apex z.sets = l at *
  refine AWL.adopt 4 (9, 1) (by decide) rfl ?_
  conv => whnf
  refine AWL.loop (κ := Nat) [4, 5, 8, 9, 10, 11, 12, 13, 14, 15, 16, 17, 18, 19, 20, 21, 22, 23, 24, 25, 26, 27, 28, 29, 30, 31, 32, 33, 34, 35, 36, 37] (fun k => [(5, .d (.int .i64 k)), (4, .own 1 1)]) (fun k => [(1, .arr 1 (9, 1) ((highL (l.take k)).map .str))]) (fun k => k ≤ l.length) (fun k => l.length - k) 0 (Nat.zero_le _) ?_ ?_
  · conv => whnf
    repeat (first | exact trivial | (refine And.intro (by first | with_reducible rfl | exact congrArg (DV.int .i64) (by omega) | exact rfl | exact congrArg (DV.int .i64) (wrap64 (by omega) (by omega)) | exact congrArg (DV.int .i64) ((wrap64 (by omega) (by omega)).trans (by omega))) ?_; conv => whnf))
  · intro k hk IH
    have hhl := highL_len (l.take k)
    rw [List.length_take] at hhl
    have hhm : ∀ c ∈ highL (l.take k), c.length ≤ 1000 := fun c hc => hcn c (List.mem_of_mem_take (highL_mem c hc))
    refine AWL.head E_ok Tryz.func117 2000 ?_
    conv => whnf
    refine caseB_split (fun h5 => ?_) (fun h5 => ?_)
    · have hlt : k < l.length := by simpa using h5
      obtain ⟨x, hx⟩ := some_of_lt hlt
      have hxl := hcn x (List.mem_of_getElem? hx)
      have hnext := highL_next hx
      generalize highL (l.take k) = o at *
      rcases List.eq_nil_or_concat o with rfl | ⟨i, d, rfl⟩
      · conv => whnf
        refine AWL.run E_ok Tryz.func117 2000 ?_
        conv => whnf
        refine AWL.draw E_ok E_mixed 17 2000 (by kernel_rfl) ?_
        conv => whnf
        refine caseB_yes (by simp) ?_
        conv => whnf
        refine DWL.run E_ok 2000 ?_
        conv => whnf
        conv => whnf
        refine SWL.run E_ok 2000 ?_
        conv => whnf
        conv => whnf
        refine AWL.run E_ok Tryz.func117 2000 ?_
        conv => whnf
        refine caseB_true ?_
        conv => whnf
        refine AWL.run E_ok Tryz.func117 2000 ?_
        conv => whnf
        refine elemP_at (at_map hx) rfl ?_
        conv => whnf
        refine AWL.run E_ok Tryz.func117 2000 ?_
        conv => whnf
        refine need_intro ⟨by simp, by simp [DV.cells]⟩ ?_
        conv => whnf
        refine AWL.run E_ok Tryz.func117 2000 ?_
        conv => whnf
        refine AWL.back (IH (k + 1) (by omega) (by omega)) ?_
        conv => whnf
        repeat (first | exact trivial | (refine And.intro (by first | with_reducible rfl | exact congrArg (DV.int .i64) (by omega) | exact congrArg (DV.int .i64) (wrap64 (by omega) (by omega)) | exact congrArg (DV.int .i64) ((wrap64 (by omega) (by omega)).trans (by omega))) ?_; conv => whnf))
        refine And.intro (by rw [hnext]; simp [highStep]) ?_
        conv => whnf
        repeat (first | exact trivial | (refine And.intro (by first | with_reducible rfl | exact congrArg (DV.int .i64) (by omega) | exact congrArg (DV.int .i64) (wrap64 (by omega) (by omega)) | exact congrArg (DV.int .i64) ((wrap64 (by omega) (by omega)).trans (by omega))) ?_; conv => whnf))
      · simp only [List.concat_eq_append] at *
        have hw : IntKind.i64.wrap ((((i ++ [d]).map DV.str).length : Int) - 1) = (i.length : Int) := by
          rw [wrap64 (by simp) (by simp; simp at hhl; omega)]; simp
        have hel : ((i ++ [d]).map DV.str)[((i.length : Nat) : Int).toNat]? = some (.str d) := by simp
        have hdl := hhm d (by simp)
        have hst : highStep (i ++ [d]) x = if Nm.under x d then i ++ [d] else i ++ [d] ++ [x] := by simp [highStep]
        rw [hst] at hnext
        conv => whnf
        refine AWL.run E_ok Tryz.func117 2000 ?_
        conv => whnf
        refine AWL.draw E_ok E_mixed 17 2000 (by kernel_rfl) ?_
        conv => whnf
        refine caseB_no (by simp; omega) ?_
        conv => whnf
        refine DWL.run E_ok 2000 ?_
        conv => whnf
        refine elemP_at (at_map hx) rfl ?_
        conv => whnf
        refine DWL.run E_ok 2000 ?_
        conv => whnf
        rw [hw]
        refine need_intro ⟨by omega, by simp; omega⟩ ?_
        conv => whnf
        refine DWL.run E_ok 2000 ?_
        conv => whnf
        refine elemP_intro (.str d) (by omega) (by simp) rfl ?_
        conv => whnf
        refine DWL.run E_ok 2000 ?_
        conv => whnf
        with_reducible refine callP1_eq (rin_p _ _ hxl hdl) ?_
        conv => whnf
        refine DWL.run E_ok 2000 ?_
        conv => whnf
        cases hu : Nm.under x d
        · rw [hu] at hnext
          conv => whnf
          refine SWL.run E_ok 2000 ?_
          conv => whnf
          conv => whnf
          refine AWL.run E_ok Tryz.func117 2000 ?_
          conv => whnf
          refine caseB_yes (by decide) ?_
          conv => whnf
          refine AWL.run E_ok Tryz.func117 2000 ?_
          conv => whnf
          refine elemP_at (at_map hx) rfl ?_
          conv => whnf
          refine AWL.run E_ok Tryz.func117 2000 ?_
          conv => whnf
          refine need_intro ⟨by simp; simp at hhl; omega, by simp [DV.cells]⟩ ?_
          conv => whnf
          refine AWL.run E_ok Tryz.func117 2000 ?_
          conv => whnf
          refine AWL.back (IH (k + 1) (by omega) (by omega)) ?_
          conv => whnf
          repeat (first | exact trivial | (refine And.intro (by first | with_reducible rfl | exact congrArg (DV.int .i64) (by omega) | exact congrArg (DV.int .i64) (wrap64 (by omega) (by omega)) | exact congrArg (DV.int .i64) ((wrap64 (by omega) (by omega)).trans (by omega))) ?_; conv => whnf))
          refine And.intro (by rw [hnext]; simp) ?_
          conv => whnf
          repeat (first | exact trivial | (refine And.intro (by first | with_reducible rfl | exact congrArg (DV.int .i64) (by omega) | exact congrArg (DV.int .i64) (wrap64 (by omega) (by omega)) | exact congrArg (DV.int .i64) ((wrap64 (by omega) (by omega)).trans (by omega))) ?_; conv => whnf))
        · rw [hu] at hnext
          conv => whnf
          refine SWL.run E_ok 2000 ?_
          conv => whnf
          conv => whnf
          refine AWL.run E_ok Tryz.func117 2000 ?_
          conv => whnf
          refine caseB_no (by decide) ?_
          conv => whnf
          refine AWL.run E_ok Tryz.func117 2000 ?_
          conv => whnf
          refine AWL.back (IH (k + 1) (by omega) (by omega)) ?_
          conv => whnf
          repeat (first | exact trivial | (refine And.intro (by first | with_reducible rfl | exact congrArg (DV.int .i64) (by omega) | exact congrArg (DV.int .i64) (wrap64 (by omega) (by omega)) | exact congrArg (DV.int .i64) ((wrap64 (by omega) (by omega)).trans (by omega))) ?_; conv => whnf))
          refine And.intro (by rw [hnext]; simp) ?_
          conv => whnf
          repeat (first | exact trivial | (refine And.intro (by first | with_reducible rfl | exact congrArg (DV.int .i64) (by omega) | exact congrArg (DV.int .i64) (wrap64 (by omega) (by omega)) | exact congrArg (DV.int .i64) ((wrap64 (by omega) (by omega)).trans (by omega))) ?_; conv => whnf))
    · have hge : l.length ≤ k := by simpa using h5
      conv => whnf
      refine AWL.run E_ok Tryz.func117 2000 ?_
      conv => whnf
      rw [List.take_of_length_le hge]

end Go.Proofs.YtebielkakdhelaaGreatDoor.P
