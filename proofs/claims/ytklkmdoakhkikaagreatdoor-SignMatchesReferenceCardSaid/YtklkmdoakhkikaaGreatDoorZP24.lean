/- Contracts by the engine: the reference implementation of signatures. Conditions: lengths that Go allows. -/
import Derived.Test.YtklkmdoakhkikaaGreatDoorZP22
set_option linter.unusedVariables false
set_option linter.unusedSimpArgs false
namespace Go.Proofs.YtklkmdoakhkikaaGreatDoor.P
open Go Go.Eng
set_option maxRecDepth 100000
set_option maxHeartbeats 4000000

theorem rwrite_a (s : RSet) (hn : s.name.length ≤ 60) (hd : s.data.length ≤ 8) (ht : ∀ d ∈ s.data, d.text.length ≤ 60) : ACalls E 134 [] [.d s.enc] (fun a b => a = .own 1 1 ∧ b = [.cells [.d (.str s.name), .d (.int .i64 s.type), .d (.int .i64 s.life), .d (encData s.data)], .arr 1 (5, 1) (setB s)]) := by
  have hh := headB_len hn
  have hlen : ∀ k, (headB s ++ (s.data.take k).flatMap datumB).length ≤ 700 := fun k => by
    have h1 := dataB_len (l := s.data.take k) (fun d hd => ht d (List.mem_of_mem_take hd))
    have h2 : (s.data.take k).length ≤ 8 := by simp; omega
    simp only [List.length_append]
    omega
  refine ACalls.run E_ok (fn := Tryz.f134) Tryz.func134 (body := Tryz.f134.body.getD .skip) rfl (by decide) 1 rfl ?_
  conv => whnf
  repeat ((fail_if_success (refine AWL.buildOwn E_ok rfl ?_; (conv => whnf); refine AWL.run E_ok Tryz.func134 1 ?_)); (refine AWL.run E_ok Tryz.func134 1 ?_); (conv => whnf))
  refine AWL.buildOwn E_ok rfl ?_
  conv => whnf
  refine AWL.run E_ok Tryz.func134 2000 ?_
  conv => whnf
  refine need_intro ⟨by simp; omega, by simp [byteD, DV.cells]⟩ ?_
  conv => whnf
  refine AWL.run E_ok Tryz.func134 2000 ?_
  conv => whnf
  refine AWL.drawG E_ok E_mixed [0, 1, 2, 4, 5] [1] 2000 (by kernel_rfl) ?_
  conv => whnf
  refine GWL.run E_ok 2000 rfl rfl ?_
  conv => whnf
  refine callS1_eq (rnumber_a _ _ (by simp; omega)) ?_
  conv => whnf
  refine And.intro rfl ?_
  conv => whnf
  refine GWL.run E_ok 2000 rfl rfl ?_
  conv => whnf
  refine callS1_eq (rnumber_a _ _ (by simp [numB_len]; omega)) ?_
  conv => whnf
  refine And.intro rfl ?_
  conv => whnf
  refine GWL.run E_ok 2000 rfl rfl ?_
  conv => whnf
  refine And.intro rfl ?_
  conv => whnf
  refine GWL.run E_ok 2000 rfl rfl ?_
  conv => whnf
  conv => whnf
  refine AWL.run E_ok Tryz.func134 2000 ?_
  conv => whnf
  refine need_intro ⟨by simp [numB_len]; omega, by simp [DV.cells]⟩ ?_
  conv => whnf
  refine AWL.run E_ok Tryz.func134 2000 ?_
  conv => whnf
  refine AWL.loop (κ := Nat) [3, 4, 28, 29, 30, 31, 32, 33, 34, 35, 36, 37, 38, 39, 40, 41, 42, 43, 44, 45, 46, 47, 48, 49, 50, 51, 52, 53, 54, 55, 56, 57, 58, 59, 60, 61, 62, 63, 64, 65, 66, 67, 68] (fun k => [(4, .d (.int .i64 k)), (3, .own 1 1)]) (fun k => [(1, .arr 1 (5, 1) (headB s ++ (s.data.take k).flatMap datumB))]) (fun k => k ≤ s.data.length) (fun k => s.data.length - k) 0 (Nat.zero_le _) ?_ ?_
  · conv => whnf
    repeat (first | exact trivial | (refine And.intro (by first | with_reducible rfl | exact congrArg (DV.int .i64) (by omega) | exact congrArg (DV.int .i64) (wrap64 (by omega) (by omega)) | exact congrArg (DV.int .i64) ((wrap64 (by omega) (by omega)).trans (by omega))) ?_; conv => whnf))
    refine And.intro (by simp [headB, textB, List.length_map]) ?_
    conv => whnf
    repeat (first | exact trivial | (refine And.intro (by first | with_reducible rfl | exact congrArg (DV.int .i64) (by omega) | exact congrArg (DV.int .i64) (wrap64 (by omega) (by omega)) | exact congrArg (DV.int .i64) ((wrap64 (by omega) (by omega)).trans (by omega))) ?_; conv => whnf))
  · intro k hk IH
    have hlk := hlen k
    refine AWL.head E_ok Tryz.func134 2000 ?_
    conv => whnf
    refine caseB_split (fun h => ?_) (fun h => ?_)
    · have hlt : k < s.data.length := by simpa using h
      obtain ⟨d, hd⟩ := some_of_lt hlt
      have htd := ht d (List.mem_of_getElem? hd)
      conv => whnf
      refine AWL.run E_ok Tryz.func134 2000 ?_
      conv => whnf
      refine elemP_at (at_map hd) rfl ?_
      conv => whnf
      refine AWL.run E_ok Tryz.func134 2000 ?_
      conv => whnf
      refine need_intro ⟨by simp at hlk ⊢; omega, by simp [DV.cells]⟩ ?_
      conv => whnf
      refine AWL.run E_ok Tryz.func134 2000 ?_
      conv => whnf
      refine elemP_at (at_map hd) rfl ?_
      conv => whnf
      refine AWL.run E_ok Tryz.func134 2000 ?_
      conv => whnf
      refine need_intro ⟨by simp at hlk ⊢; omega, by simp [byteD, DV.cells]⟩ ?_
      conv => whnf
      refine AWL.run E_ok Tryz.func134 2000 ?_
      conv => whnf
      refine AWL.drawG E_ok E_mixed [0, 1, 2, 3, 4, 5, 6, 8, 9, 10, 11, 12, 13] [1] 2000 (by kernel_rfl) ?_
      conv => whnf
      refine GWL.run E_ok 2000 rfl rfl ?_
      conv => whnf
      refine elemP_at (at_map hd) rfl ?_
      conv => whnf
      refine GWL.run E_ok 2000 rfl rfl ?_
      conv => whnf
      refine callS1_eq (rnumber_a _ _ (by simp at hlk ⊢; omega)) ?_
      conv => whnf
      refine And.intro rfl ?_
      conv => whnf
      refine GWL.run E_ok 2000 rfl rfl ?_
      conv => whnf
      refine elemP_at (at_map hd) rfl ?_
      conv => whnf
      refine GWL.run E_ok 2000 rfl rfl ?_
      conv => whnf
      refine callS1_eq (rnumber_a _ _ (by simp [numB_len] at hlk ⊢; omega)) ?_
      conv => whnf
      refine And.intro rfl ?_
      conv => whnf
      refine GWL.run E_ok 2000 rfl rfl ?_
      conv => whnf
      refine And.intro rfl ?_
      conv => whnf
      refine GWL.run E_ok 2000 rfl rfl ?_
      conv => whnf
      conv => whnf
      refine AWL.run E_ok Tryz.func134 2000 ?_
      conv => whnf
      refine AWL.back (IH (k + 1) (by omega) (by omega)) ?_
      conv => whnf
      repeat (first | exact trivial | (refine And.intro (by first | with_reducible rfl | exact congrArg (DV.int .i64) (by omega) | exact congrArg (DV.int .i64) (wrap64 (by omega) (by omega)) | exact congrArg (DV.int .i64) ((wrap64 (by omega) (by omega)).trans (by omega))) ?_; conv => whnf))
      refine And.intro (by simp [take_next hd, datumB, textB]) ?_
      conv => whnf
      repeat (first | exact trivial | (refine And.intro (by first | with_reducible rfl | exact congrArg (DV.int .i64) (by omega) | exact congrArg (DV.int .i64) (wrap64 (by omega) (by omega)) | exact congrArg (DV.int .i64) ((wrap64 (by omega) (by omega)).trans (by omega))) ?_; conv => whnf))
    · have hge : k = s.data.length := by simp at h; omega
      subst hge
      conv => whnf
      refine AWL.run E_ok Tryz.func134 2000 ?_
      conv => whnf
      exact ⟨rfl, by simp [setB]⟩

end Go.Proofs.YtklkmdoakhkikaaGreatDoor.P
