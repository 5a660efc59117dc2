/- Contracts by the engine: the reference implementation of a set's bytes, digests and signatures. Conditions: lengths that Go allows. -/
import Derived.Test.YtklkmdoakhkikaaGreatDoorZP21
import Derived.Test.YtklkmdoakhkikaaGreatDoorZEngQ
set_option linter.unusedVariables false
set_option linter.unusedSimpArgs false
namespace Go.Proofs.YtklkmdoakhkikaaGreatDoor.P
open Go Go.Eng
set_option maxRecDepth 100000
set_option maxHeartbeats 4000000

theorem rnumber_a (l : List DV) (n : Int) (hl : l.length < 2000000000) : ACalls E 175 [.arr 0 (5, 1) l] [.own 0 0, .d (.int .i64 n)] (fun a b => a = .own 0 1 ∧ b = [.arr 1 (5, 1) (l ++ numB n)]) := by
  refine ACalls.run E_ok (fn := Tryz.f175) Tryz.func175 (body := Tryz.f175.body.getD .skip) rfl (by decide) 2000 rfl ?_
  conv => whnf
  refine AWL.loop (κ := Nat) [0, 5, 6, 7, 8, 9, 10, 11, 12, 13, 14, 15, 16, 17, 18] (fun k => [(5, .d (.int .i64 (56 - 8 * (k : Int)))), (0, .own 0 1)]) (fun k => [(0, .arr 1 (5, 1) (l ++ (numB n).take k))]) (fun k => k ≤ 8) (fun k => 8 - k) 0 (Nat.zero_le _) ?_ ?_
  · conv => whnf
    repeat (first | exact trivial | (refine And.intro (by first | with_reducible rfl | exact congrArg (DV.int .i64) (by omega) | exact congrArg (DV.int .i64) (wrap64 (by omega) (by omega)) | exact congrArg (DV.int .i64) ((wrap64 (by omega) (by omega)).trans (by omega))) ?_; conv => whnf))
    refine And.intro (by simp) ?_
    conv => whnf
    repeat (first | exact trivial | (refine And.intro (by first | with_reducible rfl | exact congrArg (DV.int .i64) (by omega) | exact congrArg (DV.int .i64) (wrap64 (by omega) (by omega)) | exact congrArg (DV.int .i64) ((wrap64 (by omega) (by omega)).trans (by omega))) ?_; conv => whnf))
  · intro k hk IH
    refine AWL.head E_ok Tryz.func175 2000 ?_
    conv => whnf
    refine caseB_split (fun h => ?_) (fun h => ?_)
    · have hlt : k < 8 := by simp at h; omega
      have hw : IntKind.u64.wrap (56 - 8 * (k : Int)) = 56 - 8 * (k : Int) := by
        match k, hlt with
        | 0, _ => rfl
        | 1, _ => rfl
        | 2, _ => rfl
        | 3, _ => rfl
        | 4, _ => rfl
        | 5, _ => rfl
        | 6, _ => rfl
        | 7, _ => rfl
      conv => whnf
      refine AWL.run E_ok Tryz.func175 2000 ?_
      conv => whnf
      refine need_intro (by rw [hw]; omega) ?_
      conv => whnf
      refine AWL.run E_ok Tryz.func175 2000 ?_
      conv => whnf
      refine need_intro ⟨by simp [numB_len]; omega, by simp [DV.cells]⟩ ?_
      conv => whnf
      refine AWL.run E_ok Tryz.func175 2000 ?_
      conv => whnf
      refine AWL.back (IH (k + 1) (by omega) (by omega)) ?_
      conv => whnf
      repeat (first | exact trivial | (refine And.intro (by first | with_reducible rfl | exact congrArg (DV.int .i64) (by omega) | exact congrArg (DV.int .i64) (wrap64 (by omega) (by omega)) | exact congrArg (DV.int .i64) ((wrap64 (by omega) (by omega)).trans (by omega))) ?_; conv => whnf))
      refine And.intro (by rw [hw, List.append_assoc, numB_next n hlt]) ?_
      conv => whnf
      repeat (first | exact trivial | (refine And.intro (by first | with_reducible rfl | exact congrArg (DV.int .i64) (by omega) | exact congrArg (DV.int .i64) (wrap64 (by omega) (by omega)) | exact congrArg (DV.int .i64) ((wrap64 (by omega) (by omega)).trans (by omega))) ?_; conv => whnf))
    · have hge : k = 8 := by simp at h; omega
      subst hge
      conv => whnf
      refine AWL.run E_ok Tryz.func175 2000 ?_
      conv => whnf
      simp [show List.take 8 (numB n) = numB n from rfl]

theorem rnumber8_a (l : List DV) (n : Int) (hl : l.length < 2000000000) : ACalls E 135 [.arr 0 (5, 1) l] [.own 0 0, .d (.int .i64 n)] (fun a b => a = .own 0 1 ∧ b = [.arr 1 (5, 1) (l ++ numB n)]) := by
  refine ACalls.run E_ok (fn := Tryz.f135) Tryz.func135 (body := Tryz.f135.body.getD .skip) rfl (by decide) 2000 rfl ?_
  conv => whnf
  refine AWL.loop (κ := Nat) [0, 5, 6, 7, 8, 9, 10, 11, 12, 13, 14, 15, 16, 17, 18] (fun k => [(5, .d (.int .i64 (56 - 8 * (k : Int)))), (0, .own 0 1)]) (fun k => [(0, .arr 1 (5, 1) (l ++ (numB n).take k))]) (fun k => k ≤ 8) (fun k => 8 - k) 0 (Nat.zero_le _) ?_ ?_
  · conv => whnf
    repeat (first | exact trivial | (refine And.intro (by first | with_reducible rfl | exact congrArg (DV.int .i64) (by omega) | exact congrArg (DV.int .i64) (wrap64 (by omega) (by omega)) | exact congrArg (DV.int .i64) ((wrap64 (by omega) (by omega)).trans (by omega))) ?_; conv => whnf))
    refine And.intro (by simp) ?_
    conv => whnf
    repeat (first | exact trivial | (refine And.intro (by first | with_reducible rfl | exact congrArg (DV.int .i64) (by omega) | exact congrArg (DV.int .i64) (wrap64 (by omega) (by omega)) | exact congrArg (DV.int .i64) ((wrap64 (by omega) (by omega)).trans (by omega))) ?_; conv => whnf))
  · intro k hk IH
    refine AWL.head E_ok Tryz.func135 2000 ?_
    conv => whnf
    refine caseB_split (fun h => ?_) (fun h => ?_)
    · have hlt : k < 8 := by simp at h; omega
      have hw : IntKind.u64.wrap (56 - 8 * (k : Int)) = 56 - 8 * (k : Int) := by
        match k, hlt with
        | 0, _ => rfl
        | 1, _ => rfl
        | 2, _ => rfl
        | 3, _ => rfl
        | 4, _ => rfl
        | 5, _ => rfl
        | 6, _ => rfl
        | 7, _ => rfl
      conv => whnf
      refine AWL.run E_ok Tryz.func135 2000 ?_
      conv => whnf
      refine need_intro (by rw [hw]; omega) ?_
      conv => whnf
      refine AWL.run E_ok Tryz.func135 2000 ?_
      conv => whnf
      refine need_intro ⟨by simp [numB_len]; omega, by simp [DV.cells]⟩ ?_
      conv => whnf
      refine AWL.run E_ok Tryz.func135 2000 ?_
      conv => whnf
      refine AWL.back (IH (k + 1) (by omega) (by omega)) ?_
      conv => whnf
      repeat (first | exact trivial | (refine And.intro (by first | with_reducible rfl | exact congrArg (DV.int .i64) (by omega) | exact congrArg (DV.int .i64) (wrap64 (by omega) (by omega)) | exact congrArg (DV.int .i64) ((wrap64 (by omega) (by omega)).trans (by omega))) ?_; conv => whnf))
      refine And.intro (by rw [hw, List.append_assoc, numB_next n hlt]) ?_
      conv => whnf
      repeat (first | exact trivial | (refine And.intro (by first | with_reducible rfl | exact congrArg (DV.int .i64) (by omega) | exact congrArg (DV.int .i64) (wrap64 (by omega) (by omega)) | exact congrArg (DV.int .i64) ((wrap64 (by omega) (by omega)).trans (by omega))) ?_; conv => whnf))
    · have hge : k = 8 := by simp at h; omega
      subst hge
      conv => whnf
      refine AWL.run E_ok Tryz.func135 2000 ?_
      conv => whnf
      simp [show List.take 8 (numB n) = numB n from rfl]

theorem rdigest_p (l : List DV) (hl : l.length ≤ 2147483648) (hb : ∀ x ∈ l, isByte x) : PCalls E 22 [.sl l] (· = .int .u64 (dig dig0 l)) := by
  refine PCalls.run E_ok (fn := Tryz.f22) Tryz.func22 (body := Tryz.f22.body.getD .skip) rfl (by decide) 2000 ?_
  conv => whnf
  conv => whnf
  refine AWL.run E_ok Tryz.func22 2000 ?_
  conv => whnf
  refine AWL.loop (κ := Nat) [3, 4, 5, 6, 7, 8, 9, 10, 11, 12, 13, 14, 15, 16, 17, 18] (fun k => [(4, .d (.int .i64 k)), (3, .d (.int .u64 (dig dig0 (l.take k))))]) (fun _ => []) (fun k => k ≤ l.length) (fun k => l.length - k) 0 (Nat.zero_le _) ?_ ?_
  · conv => whnf
    repeat (first | exact trivial | (refine And.intro (by first | with_reducible rfl | exact congrArg (DV.int .i64) (by omega) | exact rfl | exact congrArg (DV.int .i64) (wrap64 (by omega) (by omega)) | exact congrArg (DV.int .i64) ((wrap64 (by omega) (by omega)).trans (by omega))) ?_; conv => whnf))
  · intro k hk IH
    refine AWL.head E_ok Tryz.func22 2000 ?_
    conv => whnf
    refine caseB_split (fun h => ?_) (fun h => ?_)
    · have hlt : k < l.length := by simpa using h
      obtain ⟨x, hx⟩ := some_of_lt hlt
      obtain ⟨n, rfl⟩ := hb x (List.mem_of_getElem? hx)
      conv => whnf
      refine AWL.run E_ok Tryz.func22 2000 ?_
      conv => whnf
      refine elemP_intro (.int .u8 n) (by omega) (by simpa using hx) rfl ?_
      conv => whnf
      refine AWL.run E_ok Tryz.func22 2000 ?_
      conv => whnf
      refine AWL.back (IH (k + 1) (by omega) (by omega)) ?_
      conv => whnf
      repeat (first | exact trivial | (refine And.intro (by first | with_reducible rfl | exact congrArg (DV.int .i64) (by omega) | exact congrArg _ (dig_next hx).symm | exact congrArg (DV.int .i64) (wrap64 (by omega) (by omega)) | exact congrArg (DV.int .i64) ((wrap64 (by omega) (by omega)).trans (by omega))) ?_; conv => whnf))
    · have hge : k = l.length := by simp at h; omega
      subst hge
      conv => whnf
      refine AWL.run E_ok Tryz.func22 2000 ?_
      conv => whnf
      simp

end Go.Proofs.YtklkmdoakhkikaaGreatDoor.P
