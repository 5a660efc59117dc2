/- Contracts by the engine: package sign, which sets are own ones. Conditions: lengths that Go allows. -/
import Derived.Test.YtebielkakdhelaaGreatDoorZP28a
set_option linter.unusedVariables false
set_option linter.unusedSimpArgs false
namespace Go.Proofs.YtebielkakdhelaaGreatDoor.P
open Go Go.Eng
set_option maxRecDepth 100000
set_option maxHeartbeats 4000000

theorem ownS_ok {C : List Text} {cut n : Text} (hn : Nm.valid n = true) (hc : cut = [] ∨ Nm.valid cut = true) : ownS C cut n = [] ∨ Nm.valid (ownS C cut n) = true := by
  unfold ownS
  split
  · exact .inr hn
  · split
    · exact .inl rfl
    · exact hc
theorem ownP_at {z : Zone} {i : Nat} {s : Signed} {c : Text} (hs : z.sets[i]? = some s) (hc : (ownCuts z)[i]? = some c) : (ownP z)[i]? = some (own1 s c) := by
  simp only [ownP, List.getElem?_map, zip_at hs hc, Option.map_some]
theorem ownP_len (z : Zone) : (ownP z).length = z.sets.length := by simp [ownP, ownCuts_len]

theorem ownSets_p (z : Zone) (hl : z.sets.length ≤ 1000000) (hv : ∀ s ∈ z.sets, Nm.valid s.set.name = true) : PCalls E 57 [z.enc] (· = .sl ((ownP z).map .bool)) := by
  refine PCalls.run E_ok (fn := Tryz.f57) Tryz.func57 (body := Tryz.f57.body.getD .skip) rfl (by decide) 2000 ?_
  conv => whnf
  conv => whnf
  refine AWL.run E_ok Tryz.func57 2000 ?_
  conv => whnf
  refine AWL.loop (κ := Nat) [5, 16, 17, 18, 19, 20, 21, 22, 23, 24, 25, 26, 27, 28, 29, 30, 31, 32, 33, 34, 35, 36] (fun k => [(16, .d (.int .i64 k)), (3, .map 1)]) (fun k => [(1, .map (cutMap z.apex (z.sets.take k)))]) (fun k => k ≤ z.sets.length) (fun k => z.sets.length - k) 0 (Nat.zero_le _) ?_ ?_
  · conv => whnf
    repeat (first | exact trivial | (refine And.intro (by first | with_reducible rfl | exact congrArg (DV.int .i64) (by omega) | exact rfl | exact congrArg (DV.int .i64) (wrap64 (by omega) (by omega)) | exact congrArg (DV.int .i64) ((wrap64 (by omega) (by omega)).trans (by omega))) ?_; conv => whnf))
  · intro k hk IH
    refine AWL.head E_ok Tryz.func57 2000 ?_
    conv => whnf
    refine caseB_split (fun h5 => ?_) (fun h5 => ?_)
    · have hlt : k < z.sets.length := by simpa using h5
      obtain ⟨x, hx⟩ := some_of_lt hlt
      have hnext := cutMap_next (apex := z.apex) hx
      have hkeys := (cutMap_ok z.apex (z.sets.take k)).1
      conv => whnf
      refine AWL.run E_ok Tryz.func57 2000 ?_
      conv => whnf
      repeat' (first | with_reducible refine elemP_at (at_map hx) rfl ?_ | with_reducible refine caseB_true ?_ | with_reducible refine caseB_false ?_ | with_reducible refine caseB_yes (by decide) ?_ | with_reducible refine caseB_no (by decide) ?_ | with_reducible refine caseB_yes (by assumption) ?_ | with_reducible refine caseB_no (by assumption) ?_ | with_reducible refine caseB_split (fun _ => ?_) (fun _ => ?_) | ((conv => whnf); (with_reducible refine AWL.run E_ok Tryz.func57 2000 ?_); (conv => whnf); fail_if_success (with_reducible refine AWL.of ?_)) | ((conv => whnf); (with_reducible refine DWL.run E_ok 2000 ?_); (conv => whnf); fail_if_success (with_reducible refine DWL.is ?_)) | ((conv => whnf); (with_reducible refine SWL.run E_ok 2000 ?_); (conv => whnf); fail_if_success (with_reducible refine SWL.is ?_)))
      all_goals first
        | (refine need_intro ⟨⟨_, rfl⟩, hkeys⟩ ?_
           have hc : isCut z.apex x = true := by simp_all [isCut])
        | (have hc : isCut z.apex x = false := by simp_all [isCut])
      all_goals
        rw [hc] at hnext
        conv => whnf
        refine AWL.run E_ok Tryz.func57 2000 ?_
        conv => whnf
        refine AWL.back (IH (k + 1) (by omega) (by omega)) ?_
        conv => whnf
        repeat (first | exact trivial | (refine And.intro (by first | with_reducible rfl | exact congrArg (DV.int .i64) (by omega) | exact congrArg (DV.int .i64) (wrap64 (by omega) (by omega)) | exact congrArg (DV.int .i64) ((wrap64 (by omega) (by omega)).trans (by omega))) ?_; conv => whnf))
        refine And.intro (by rw [hnext]; simp) ?_
        conv => whnf
        repeat (first | exact trivial | (refine And.intro (by first | with_reducible rfl | exact congrArg (DV.int .i64) (by omega) | exact congrArg (DV.int .i64) (wrap64 (by omega) (by omega)) | exact congrArg (DV.int .i64) ((wrap64 (by omega) (by omega)).trans (by omega))) ?_; conv => whnf))
    · have hge : z.sets.length ≤ k := by simpa using h5
      rw [List.take_of_length_le hge]
      conv => whnf
      refine AWL.run E_ok Tryz.func57 2000 ?_
      conv => whnf
      refine need_intro ⟨by omega, by omega, by simp; omega⟩ ?_
      conv => whnf
      refine AWL.run E_ok Tryz.func57 2000 ?_
      conv => whnf
      refine AWL.loop (κ := Nat × Text) [7, 8, 9, 10, 11, 44, 45, 46, 47, 48, 49, 50, 51, 52, 53, 54, 55, 56, 57, 58, 59, 60, 61, 62, 63, 64, 65, 66, 67, 68, 69, 70, 71, 72, 73, 74, 75, 76, 77, 78, 79, 80, 81, 82, 83, 84, 85, 86] (fun k => [(44, .d (.int .i64 k.1)), (7, .d (.str k.2)), (6, .own 2 0)]) (fun k => [(2, .arr 0 (4, 1) (((ownP z).take k.1 ++ List.replicate (z.sets.length - k.1) false).map .bool))]) (fun k => k.1 ≤ z.sets.length ∧ (ownCuts z).drop k.1 = ownL (cutsL z.apex z.sets) k.2 ((z.sets.drop k.1).map (·.set.name)) ∧ (k.2 = [] ∨ Nm.valid k.2 = true)) (fun k => z.sets.length - k.1) (0, []) ⟨Nat.zero_le _, rfl, .inl rfl⟩ ?_ ?_
      · conv => whnf
        repeat (first | exact trivial | (refine And.intro (by first | with_reducible rfl | exact congrArg (DV.int .i64) (by omega) | exact congrArg (DV.int .i64) (wrap64 (by omega) (by omega)) | exact congrArg (DV.int .i64) ((wrap64 (by omega) (by omega)).trans (by omega))) ?_; conv => whnf))
        refine And.intro (by simp) ?_
        conv => whnf
        repeat (first | exact trivial | (refine And.intro (by first | with_reducible rfl | exact congrArg (DV.int .i64) (by omega) | exact congrArg (DV.int .i64) (wrap64 (by omega) (by omega)) | exact congrArg (DV.int .i64) ((wrap64 (by omega) (by omega)).trans (by omega))) ?_; conv => whnf))
      · rintro ⟨i, cut⟩ hk IH
        simp only at hk
        obtain ⟨hi, hB, hcut⟩ := hk
        refine AWL.head E_ok Tryz.func57 2000 ?_
        conv => whnf
        refine caseB_split (fun h5 => ?_) (fun h5 => ?_)
        · have hlt : i < z.sets.length := by simpa using h5
          obtain ⟨x, hx⟩ := some_of_lt hlt
          have hxv := hv x (List.mem_of_getElem? hx)
          have hxl := valid_len hxv
          have hcons : (z.sets.drop i).map (·.set.name) = x.set.name :: (z.sets.drop (i + 1)).map (·.set.name) := by rw [drop_at hx]; rfl
          rw [hcons, ownL] at hB
          have hBi : (ownCuts z)[i]? = some (ownS (cutsL z.apex z.sets) cut x.set.name) := by
            have := congrArg (fun l => l[0]?) hB
            simpa using this
          have hBd : (ownCuts z).drop (i + 1) = ownL (cutsL z.apex z.sets) (ownS (cutsL z.apex z.sets) cut x.set.name) ((z.sets.drop (i + 1)).map (·.set.name)) := by
            have := congrArg List.tail hB
            simpa using this
          have hOi := ownP_at hx hBi
          have hok := ownS_ok (C := cutsL z.apex z.sets) hxv hcut
          have hfind := (cutMap_ok z.apex z.sets).2 x.set.name
          have hkeys := (cutMap_ok z.apex z.sets).1
          have hrep := rep_at (e := false) (ownP_len z) hlt
          have hset : ∀ o : Bool, (ownP z)[i]? = some o → ((((ownP z).take i ++ List.replicate (z.sets.length - i) false).map DV.bool).set ((i : Int)).toNat (.bool o)) = ((ownP z).take (i + 1) ++ List.replicate (z.sets.length - (i + 1)) false).map DV.bool := fun o ho => by
            rw [← take_rep (e := false) (x := o) (ownP_len z) ho]
            simp [List.map_set]
          conv => whnf
          refine AWL.run E_ok Tryz.func57 2000 ?_
          conv => whnf
          refine elemP_at (e := x.enc) (at_map hx) rfl ?_
          conv => whnf
          refine AWL.run E_ok Tryz.func57 2000 ?_
          conv => whnf
          refine lookP_intro (.bool false) (.bool false) (v := .bool ((cutsL z.apex z.sets).contains x.set.name)) (f := (cutsL z.apex z.sets).contains x.set.name) ⟨_, rfl⟩ hkeys (fun w => by kernel_rfl) (fun _ _ => .bool _) (by rw [hfind]; split <;> simp_all) (by rw [hfind]; split <;> simp_all) ?_
          conv => whnf
          refine AWL.run E_ok Tryz.func57 2000 ?_
          conv => whnf
          cases hcc : (cutsL z.apex z.sets).contains x.set.name
          · refine caseB_false ?_
            conv => whnf
            refine AWL.run E_ok Tryz.func57 2000 ?_
            conv => whnf
            by_cases hce : cut = []
            · subst hce
              have hS : ownS (cutsL z.apex z.sets) [] x.set.name = [] := by simp only [ownS, hcc, Bool.false_eq_true, if_false]; rfl
              rw [hS] at hBd hOi hok
              refine caseB_no (by rfl) ?_
              conv => whnf
              refine AWL.run E_ok Tryz.func57 2000 ?_
              conv => whnf
              refine caseB_yes (by rfl) ?_
              conv => whnf
              refine AWL.run E_ok Tryz.func57 2000 ?_
              conv => whnf
              refine need_intro ⟨by omega, by simp [ownP_len]; omega⟩ ?_
              conv => whnf
              refine AWL.run E_ok Tryz.func57 2000 ?_
              conv => whnf
              refine elemP_at (e := .bool false) (at_map hrep) rfl ?_
              conv => whnf
              refine AWL.run E_ok Tryz.func57 2000 ?_
              conv => whnf
              refine AWL.back (IH (i + 1, []) ⟨by simp only; omega, hBd, hok⟩ (by simp only; omega)) ?_
              conv => whnf
              repeat (first | exact trivial | (refine And.intro (by first | with_reducible rfl | exact congrArg (DV.int .i64) (by omega) | exact congrArg (DV.int .i64) (wrap64 (by omega) (by omega)) | exact congrArg (DV.int .i64) ((wrap64 (by omega) (by omega)).trans (by omega))) ?_; conv => whnf))
              refine And.intro ((hset _ (by rw [hOi]; first | rfl | (simp only [own1, h6, hq, Bool.false_or, Bool.true_and, Bool.false_and]))).trans rfl) ?_
              conv => whnf
              repeat (first | exact trivial | (refine And.intro (by first | with_reducible rfl | exact congrArg (DV.int .i64) (by omega) | exact congrArg (DV.int .i64) (wrap64 (by omega) (by omega)) | exact congrArg (DV.int .i64) ((wrap64 (by omega) (by omega)).trans (by omega))) ?_; conv => whnf))
            · have hcv : Nm.valid cut = true := hcut.resolve_left hce
              have hcl := valid_len hcv
              have hun := nunder_p x.set.name cut (by unfold maxLen; omega) (by unfold maxLen; omega)
              rw [under_v hxv hcv] at hun
              refine caseB_yes (by simpa using hce) ?_
              conv => whnf
              refine AWL.run E_ok Tryz.func57 2000 ?_
              conv => whnf
              with_reducible refine callP_eq (hun) ?_
              conv => whnf
              refine AWL.run E_ok Tryz.func57 2000 ?_
              conv => whnf
              cases hu : Nm.under x.set.name cut
              · have hS : ownS (cutsL z.apex z.sets) cut x.set.name = [] := by simp [ownS, hcc, hce, hu]; intro h; simp [h] at hcc
                rw [hS] at hBd hOi hok
                refine caseB_yes rfl ?_
                conv => whnf
                refine AWL.run E_ok Tryz.func57 2000 ?_
                conv => whnf
                refine caseB_yes (by rfl) ?_
                conv => whnf
                refine AWL.run E_ok Tryz.func57 2000 ?_
                conv => whnf
                refine need_intro ⟨by omega, by simp [ownP_len]; omega⟩ ?_
                conv => whnf
                refine AWL.run E_ok Tryz.func57 2000 ?_
                conv => whnf
                refine elemP_at (e := .bool false) (at_map hrep) rfl ?_
                conv => whnf
                refine AWL.run E_ok Tryz.func57 2000 ?_
                conv => whnf
                refine AWL.back (IH (i + 1, []) ⟨by simp only; omega, hBd, hok⟩ (by simp only; omega)) ?_
                conv => whnf
                repeat (first | exact trivial | (refine And.intro (by first | with_reducible rfl | exact congrArg (DV.int .i64) (by omega) | exact congrArg (DV.int .i64) (wrap64 (by omega) (by omega)) | exact congrArg (DV.int .i64) ((wrap64 (by omega) (by omega)).trans (by omega))) ?_; conv => whnf))
                refine And.intro ((hset _ (by rw [hOi]; first | rfl | (simp only [own1, h6, hq, Bool.false_or, Bool.true_and, Bool.false_and]))).trans rfl) ?_
                conv => whnf
                repeat (first | exact trivial | (refine And.intro (by first | with_reducible rfl | exact congrArg (DV.int .i64) (by omega) | exact congrArg (DV.int .i64) (wrap64 (by omega) (by omega)) | exact congrArg (DV.int .i64) ((wrap64 (by omega) (by omega)).trans (by omega))) ?_; conv => whnf))
              · have hq : (cut == []) = false := by simpa using hce
                have hS : ownS (cutsL z.apex z.sets) cut x.set.name = cut := by simp [ownS, hcc, hce, hu]; intro h; simp [h] at hcc
                rw [hS] at hBd hOi hok
                refine caseB_no rfl ?_
                conv => whnf
                refine AWL.run E_ok Tryz.func57 2000 ?_
                conv => whnf
                refine caseB_no (by simpa using hce) ?_
                conv => whnf
                refine AWL.run E_ok Tryz.func57 2000 ?_
                conv => whnf
                refine caseB_split (fun h6 => ?_) (fun h6 => ?_)
                · conv => whnf
                  refine AWL.run E_ok Tryz.func57 2000 ?_
                  conv => whnf
                  refine need_intro ⟨by omega, by simp [ownP_len]; omega⟩ ?_
                  conv => whnf
                  refine AWL.run E_ok Tryz.func57 2000 ?_
                  conv => whnf
                  refine elemP_at (e := .bool false) (at_map hrep) rfl ?_
                  conv => whnf
                  refine AWL.run E_ok Tryz.func57 2000 ?_
                  conv => whnf
                  refine AWL.back (IH (i + 1, cut) ⟨by simp only; omega, hBd, hok⟩ (by simp only; omega)) ?_
                  conv => whnf
                  repeat (first | exact trivial | (refine And.intro (by first | with_reducible rfl | exact congrArg (DV.int .i64) (by omega) | exact congrArg (DV.int .i64) (wrap64 (by omega) (by omega)) | exact congrArg (DV.int .i64) ((wrap64 (by omega) (by omega)).trans (by omega))) ?_; conv => whnf))
                  refine And.intro ((hset _ (by rw [hOi]; first | rfl | (simp only [own1, h6, hq, Bool.false_or, Bool.true_and, Bool.false_and]))).trans rfl) ?_
                  conv => whnf
                  repeat (first | exact trivial | (refine And.intro (by first | with_reducible rfl | exact congrArg (DV.int .i64) (by omega) | exact congrArg (DV.int .i64) (wrap64 (by omega) (by omega)) | exact congrArg (DV.int .i64) ((wrap64 (by omega) (by omega)).trans (by omega))) ?_; conv => whnf))
                · conv => whnf
                  refine AWL.run E_ok Tryz.func57 2000 ?_
                  conv => whnf
                  refine need_intro ⟨by omega, by simp [ownP_len]; omega⟩ ?_
                  conv => whnf
                  refine AWL.run E_ok Tryz.func57 2000 ?_
                  conv => whnf
                  refine elemP_at (e := .bool false) (at_map hrep) rfl ?_
                  conv => whnf
                  refine AWL.run E_ok Tryz.func57 2000 ?_
                  conv => whnf
                  refine AWL.back (IH (i + 1, cut) ⟨by simp only; omega, hBd, hok⟩ (by simp only; omega)) ?_
                  conv => whnf
                  repeat (first | exact trivial | (refine And.intro (by first | with_reducible rfl | exact congrArg (DV.int .i64) (by omega) | exact congrArg (DV.int .i64) (wrap64 (by omega) (by omega)) | exact congrArg (DV.int .i64) ((wrap64 (by omega) (by omega)).trans (by omega))) ?_; conv => whnf))
                  refine And.intro ((hset _ (by rw [hOi]; first | rfl | (simp only [own1, h6, hq, Bool.false_or, Bool.true_and, Bool.false_and]))).trans rfl) ?_
                  conv => whnf
                  repeat (first | exact trivial | (refine And.intro (by first | with_reducible rfl | exact congrArg (DV.int .i64) (by omega) | exact congrArg (DV.int .i64) (wrap64 (by omega) (by omega)) | exact congrArg (DV.int .i64) ((wrap64 (by omega) (by omega)).trans (by omega))) ?_; conv => whnf))
          · have hS : ownS (cutsL z.apex z.sets) cut x.set.name = x.set.name := by simp only [ownS, hcc, if_true]
            rw [hS] at hBd hOi hok
            refine caseB_true ?_
            conv => whnf
            refine AWL.run E_ok Tryz.func57 2000 ?_
            conv => whnf
            have hne : x.set.name ≠ [] := valid_ne hxv
            have hq : (x.set.name == []) = false := by simpa using hne
            refine caseB_no (by simpa using hne) ?_
            conv => whnf
            refine AWL.run E_ok Tryz.func57 2000 ?_
            conv => whnf
            refine caseB_split (fun h6 => ?_) (fun h6 => ?_)
            · conv => whnf
              refine AWL.run E_ok Tryz.func57 2000 ?_
              conv => whnf
              refine need_intro ⟨by omega, by simp [ownP_len]; omega⟩ ?_
              conv => whnf
              refine AWL.run E_ok Tryz.func57 2000 ?_
              conv => whnf
              refine elemP_at (e := .bool false) (at_map hrep) rfl ?_
              conv => whnf
              refine AWL.run E_ok Tryz.func57 2000 ?_
              conv => whnf
              refine AWL.back (IH (i + 1, x.set.name) ⟨by simp only; omega, hBd, hok⟩ (by simp only; omega)) ?_
              conv => whnf
              repeat (first | exact trivial | (refine And.intro (by first | with_reducible rfl | exact congrArg (DV.int .i64) (by omega) | exact congrArg (DV.int .i64) (wrap64 (by omega) (by omega)) | exact congrArg (DV.int .i64) ((wrap64 (by omega) (by omega)).trans (by omega))) ?_; conv => whnf))
              refine And.intro ((hset _ (by rw [hOi]; first | rfl | (simp only [own1, h6, hq, Bool.false_or, Bool.true_and, Bool.false_and]))).trans rfl) ?_
              conv => whnf
              repeat (first | exact trivial | (refine And.intro (by first | with_reducible rfl | exact congrArg (DV.int .i64) (by omega) | exact congrArg (DV.int .i64) (wrap64 (by omega) (by omega)) | exact congrArg (DV.int .i64) ((wrap64 (by omega) (by omega)).trans (by omega))) ?_; conv => whnf))
            · conv => whnf
              refine AWL.run E_ok Tryz.func57 2000 ?_
              conv => whnf
              refine need_intro ⟨by omega, by simp [ownP_len]; omega⟩ ?_
              conv => whnf
              refine AWL.run E_ok Tryz.func57 2000 ?_
              conv => whnf
              refine elemP_at (e := .bool false) (at_map hrep) rfl ?_
              conv => whnf
              refine AWL.run E_ok Tryz.func57 2000 ?_
              conv => whnf
              refine AWL.back (IH (i + 1, x.set.name) ⟨by simp only; omega, hBd, hok⟩ (by simp only; omega)) ?_
              conv => whnf
              repeat (first | exact trivial | (refine And.intro (by first | with_reducible rfl | exact congrArg (DV.int .i64) (by omega) | exact congrArg (DV.int .i64) (wrap64 (by omega) (by omega)) | exact congrArg (DV.int .i64) ((wrap64 (by omega) (by omega)).trans (by omega))) ?_; conv => whnf))
              refine And.intro ((hset _ (by rw [hOi]; first | rfl | (simp only [own1, h6, hq, Bool.false_or, Bool.true_and, Bool.false_and]))).trans rfl) ?_
              conv => whnf
              repeat (first | exact trivial | (refine And.intro (by first | with_reducible rfl | exact congrArg (DV.int .i64) (by omega) | exact congrArg (DV.int .i64) (wrap64 (by omega) (by omega)) | exact congrArg (DV.int .i64) ((wrap64 (by omega) (by omega)).trans (by omega))) ?_; conv => whnf))
        · have hge : z.sets.length ≤ i := by simpa using h5
          conv => whnf
          refine AWL.run E_ok Tryz.func57 2000 ?_
          conv => whnf
          simp only [show z.sets.length - i = 0 by omega, List.replicate_zero, List.append_nil]
          rw [List.take_of_length_le (by rw [ownP_len]; omega)]

end Go.Proofs.YtebielkakdhelaaGreatDoor.P
