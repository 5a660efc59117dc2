/- Contracts by the engine: the reference implementation of signed zones. Conditions: lengths that Go allows. -/
import Derived.Test.YtebielkakdhelaaGreatDoorZP25
set_option linter.unusedVariables false
set_option linter.unusedSimpArgs false
namespace Go.Proofs.YtebielkakdhelaaGreatDoor.P
open Go Go.Eng
set_option maxRecDepth 100000
set_option maxHeartbeats 4000000

theorem drop_at {α : Type} {l : List α} {k : Nat} {x : α} (h : l[k]? = some x) : l.drop k = x :: l.drop (k + 1) := by
  obtain ⟨hk, rfl⟩ := List.getElem?_eq_some_iff.1 h
  exact List.drop_eq_getElem_cons hk
theorem rsorted_p (keys : List Key) (hl : keys.length ≤ 1000) : PCalls E 15 [.sl (keys.map Key.enc)] (· = .sl ((ordK keys).map Key.enc)) := by
  refine PCalls.run E_ok (fn := Tryz.f15) Tryz.func15 (body := Tryz.f15.body.getD .skip) rfl (by decide) 2000 ?_
  conv => whnf
  refine need_intro ⟨by simp; omega, by simp [DV.cells]⟩ ?_
  conv => whnf
  refine AWL.run E_ok Tryz.func15 2000 ?_
  conv => whnf
  refine AWL.loop (κ := Nat) [4, 5, 6, 10, 11, 12, 13, 14, 15, 16, 17, 18, 19, 20, 21, 22, 23, 24, 25, 26, 27, 28, 29, 30, 31, 32, 33, 34, 35, 36, 37, 38, 39, 40, 41, 42, 43, 44, 45, 46, 47, 48, 49, 50, 51] (fun k => [(4, .d (.int .i64 k)), (3, .own 0 1)]) (fun k => [(0, .arr 1 (46, 2) ((ordK (keys.take k) ++ keys.drop k).map Key.enc))]) (fun k => k ≤ keys.length) (fun k => keys.length - k) 0 (Nat.zero_le _) ?_ ?_
  · conv => whnf
    repeat (first | exact trivial | (refine And.intro (by first | with_reducible rfl | exact congrArg (DV.int .i64) (by omega) | exact congrArg (DV.int .i64) (wrap64 (by omega) (by omega)) | exact congrArg (DV.int .i64) ((wrap64 (by omega) (by omega)).trans (by omega))) ?_; conv => whnf))
    refine And.intro (by simp [ordK, sortL]) ?_
    conv => whnf
    repeat (first | exact trivial | (refine And.intro (by first | with_reducible rfl | exact congrArg (DV.int .i64) (by omega) | exact congrArg (DV.int .i64) (wrap64 (by omega) (by omega)) | exact congrArg (DV.int .i64) ((wrap64 (by omega) (by omega)).trans (by omega))) ?_; conv => whnf))
  · intro i hi IH
    refine AWL.head E_ok Tryz.func15 2000 ?_
    conv => whnf
    refine caseB_split (fun h => ?_) (fun h => ?_)
    · have hlt : i < keys.length := by
        simp [ordK_len] at h
        omega
      obtain ⟨x, hx⟩ := some_of_lt hlt
      have hp : (ordK (keys.take i)).length = i := by rw [ordK_len]; simp; omega
      conv => whnf
      refine AWL.run E_ok Tryz.func15 2000 ?_
      conv => whnf
      refine AWL.loop (κ := Nat) [5, 6, 17, 18, 19, 20, 21, 22, 23, 24, 25, 26, 27, 28, 29, 30, 31, 32, 33, 34, 35, 36, 37, 38, 39, 40, 41, 42, 43, 44, 45, 46, 47, 48, 49, 50, 51] (fun j => [(5, .d (.int .i64 j)), (4, .d (.int .i64 i)), (3, .own 0 1)]) (fun j => [(0, .arr 1 (46, 2) ((movedL x (ordK (keys.take i)) j ++ keys.drop (i + 1)).map Key.enc))]) (fun j => j ≤ i ∧ placeAt (·.n) x (ordK (keys.take i)) j = placeAt (·.n) x (ordK (keys.take i)) i) (fun j => j) i ⟨Nat.le_refl _, rfl⟩ ?_ ?_
      · conv => whnf
        repeat (first | exact trivial | (refine And.intro (by first | with_reducible rfl | exact congrArg (DV.int .i64) (by omega) | exact congrArg (DV.int .i64) (wrap64 (by omega) (by omega)) | exact congrArg (DV.int .i64) ((wrap64 (by omega) (by omega)).trans (by omega))) ?_; conv => whnf))
        refine And.intro (by rw [drop_at hx]; congr 1; have := movedL_end x (ordK (keys.take i)); rw [hp] at this; rw [this]; simp) ?_
        conv => whnf
        repeat (first | exact trivial | (refine And.intro (by first | with_reducible rfl | exact congrArg (DV.int .i64) (by omega) | exact congrArg (DV.int .i64) (wrap64 (by omega) (by omega)) | exact congrArg (DV.int .i64) ((wrap64 (by omega) (by omega)).trans (by omega))) ?_; conv => whnf))
      · rintro j ⟨hj, hpl⟩ IH2
        refine AWL.head E_ok Tryz.func15 2000 ?_
        conv => whnf
        have hat := movedL_at (p := ordK (keys.take i)) (x := x) (j := j) (by omega) (keys.drop (i + 1))
        refine AWL.draw E_ok E_mixed 16 2000 (by kernel_rfl) ?_
        conv => whnf
        refine caseB_split (fun h0 => ?_) (fun h0 => ?_)
        · have hj0 : 0 < j := by simpa using h0
          obtain ⟨q, hq⟩ := some_of_lt (l := ordK (keys.take i)) (k := j - 1) (by omega)
          have hprev := movedL_prev (p := ordK (keys.take i)) (x := x) (j := j) hj0 (by omega) (keys.drop (i + 1))
          rw [hq] at hprev
          have hw : IntKind.i64.wrap ((j : Int) - 1) = ((j - 1 : Nat) : Int) := by rw [wrap64 (by omega) (by omega)]; omega
          have hlen : ((movedL x (ordK (keys.take i)) j ++ keys.drop (i + 1)).map Key.enc).length = keys.length := by simp [movedL_len, hp]; omega
          have hn1 : 0 ≤ IntKind.i64.wrap ((j : Int) - 1) ∧ IntKind.i64.wrap ((j : Int) - 1) < (((movedL x (ordK (keys.take i)) j ++ keys.drop (i + 1)).map Key.enc).length : Int) := by rw [hw, hlen]; omega
          have hn2 : 0 ≤ (j : Int) ∧ (j : Int) < (((movedL x (ordK (keys.take i)) j ++ keys.drop (i + 1)).map Key.enc).length : Int) := by rw [hlen]; omega
          have hA : At1 ((movedL x (ordK (keys.take i)) j ++ keys.drop (i + 1)).map Key.enc) (((IntKind.i64.wrap ((j : Int) - 1)).toNat : Nat) : Int) q.enc := by rw [hw]; exact at_map hprev
          conv => whnf
          refine DWL.run E_ok 2000 ?_
          conv => whnf
          refine need_intro hn1 ?_
          conv => whnf
          refine DWL.run E_ok 2000 ?_
          conv => whnf
          refine elemP_at (e := q.enc) hA rfl ?_
          conv => whnf
          refine DWL.run E_ok 2000 ?_
          conv => whnf
          refine need_intro hn2 ?_
          conv => whnf
          refine DWL.run E_ok 2000 ?_
          conv => whnf
          refine elemP_at (e := x.enc) (at_map hat) rfl ?_
          conv => whnf
          refine DWL.run E_ok 2000 ?_
          conv => whnf
          conv => whnf
          refine SWL.run E_ok 2000 ?_
          conv => whnf
          conv => whnf
          refine AWL.run E_ok Tryz.func15 2000 ?_
          conv => whnf
          refine caseB_split (fun hg => ?_) (fun hg => ?_)
          · have hg : q.n > x.n := by simpa using hg
            conv => whnf
            refine AWL.run E_ok Tryz.func15 2000 ?_
            conv => whnf
            refine need_intro hn2 ?_
            conv => whnf
            refine AWL.run E_ok Tryz.func15 2000 ?_
            conv => whnf
            refine elemP_at (e := x.enc) (at_map hat) rfl ?_
            conv => whnf
            refine AWL.run E_ok Tryz.func15 2000 ?_
            conv => whnf
            refine need_intro hn1 ?_
            conv => whnf
            refine AWL.run E_ok Tryz.func15 2000 ?_
            conv => whnf
            refine elemP_at (e := q.enc) hA rfl ?_
            conv => whnf
            refine AWL.run E_ok Tryz.func15 2000 ?_
            conv => whnf
            refine need_intro hn2 ?_
            conv => whnf
            refine AWL.run E_ok Tryz.func15 2000 ?_
            conv => whnf
            refine elemP_at (e := x.enc) (at_map hat) rfl ?_
            conv => whnf
            refine AWL.run E_ok Tryz.func15 2000 ?_
            conv => whnf
            refine need_intro ⟨hn1.1, by rw [List.length_set]; exact hn1.2⟩ ?_
            conv => whnf
            refine AWL.run E_ok Tryz.func15 2000 ?_
            conv => whnf
            have hA2 : At1 (((movedL x (ordK (keys.take i)) j ++ keys.drop (i + 1)).map Key.enc).set ((j : Int)).toNat q.enc) (((IntKind.i64.wrap ((j : Int) - 1)).toNat : Nat) : Int) q.enc := by
              refine ⟨hA.1, ?_⟩
              rw [hw]
              simp only [Int.toNat_natCast]
              rw [List.getElem?_set_ne (by omega)]
              have := hA.2
              rw [hw] at this
              simpa only [Int.toNat_natCast] using this
            refine elemP_at (e := q.enc) hA2 rfl ?_
            conv => whnf
            refine AWL.run E_ok Tryz.func15 2000 ?_
            conv => whnf
            refine AWL.back (IH2 (j - 1) ⟨by omega, by rw [← hpl]; exact (placeAt_yes hj0 hq hg).symm⟩ (by omega)) ?_
            conv => whnf
            repeat (first | exact trivial | (refine And.intro (by first | with_reducible rfl | exact congrArg (DV.int .i64) (by omega) | exact congrArg (DV.int .i64) (wrap64 (by omega) (by omega)) | exact congrArg (DV.int .i64) ((wrap64 (by omega) (by omega)).trans (by omega))) ?_; conv => whnf))
            refine And.intro (by
              rw [hw]
              simp only [Int.toNat_natCast]
              rw [← movedL_swap (p := ordK (keys.take i)) (x := x) hj0 (by omega) hq (keys.drop (i + 1))]
              simp only [List.map_set]) ?_
            conv => whnf
            repeat (first | exact trivial | (refine And.intro (by first | with_reducible rfl | exact congrArg (DV.int .i64) (by omega) | exact congrArg (DV.int .i64) (wrap64 (by omega) (by omega)) | exact congrArg (DV.int .i64) ((wrap64 (by omega) (by omega)).trans (by omega))) ?_; conv => whnf))
          · have hg : ¬ q.n > x.n := by simpa using hg
            conv => whnf
            refine AWL.run E_ok Tryz.func15 2000 ?_
            conv => whnf
            refine AWL.back (IH (i + 1) (by omega) (by omega)) ?_
            conv => whnf
            repeat (first | exact trivial | (refine And.intro (by first | with_reducible rfl | exact congrArg (DV.int .i64) (by omega) | exact congrArg (DV.int .i64) (wrap64 (by omega) (by omega)) | exact congrArg (DV.int .i64) ((wrap64 (by omega) (by omega)).trans (by omega))) ?_; conv => whnf))
            have hnext : ordK (keys.take (i + 1)) = movedL x (ordK (keys.take i)) j := by
              rw [ordK, sortL_next hx]
              exact (placeAt_end (p := ordK (keys.take i)) (by rw [hp]; exact hpl) (placeAt_no hj0 hq hg)).symm
            refine And.intro (by rw [hnext]) ?_
            conv => whnf
            repeat (first | exact trivial | (refine And.intro (by first | with_reducible rfl | exact congrArg (DV.int .i64) (by omega) | exact congrArg (DV.int .i64) (wrap64 (by omega) (by omega)) | exact congrArg (DV.int .i64) ((wrap64 (by omega) (by omega)).trans (by omega))) ?_; conv => whnf))
        · have hj0 : j = 0 := by
            simp at h0
            exact h0
          subst hj0
          conv => whnf
          refine DWL.run E_ok 2000 ?_
          conv => whnf
          conv => whnf
          refine SWL.run E_ok 2000 ?_
          conv => whnf
          conv => whnf
          refine AWL.run E_ok Tryz.func15 2000 ?_
          conv => whnf
          refine caseB_false ?_
          conv => whnf
          refine AWL.run E_ok Tryz.func15 2000 ?_
          conv => whnf
          refine AWL.back (IH (i + 1) (by omega) (by omega)) ?_
          conv => whnf
          repeat (first | exact trivial | (refine And.intro (by first | with_reducible rfl | exact congrArg (DV.int .i64) (by omega) | exact congrArg (DV.int .i64) (wrap64 (by omega) (by omega)) | exact congrArg (DV.int .i64) ((wrap64 (by omega) (by omega)).trans (by omega))) ?_; conv => whnf))
          have hnext : ordK (keys.take (i + 1)) = movedL x (ordK (keys.take i)) 0 := by
            rw [ordK, sortL_next hx]
            exact (placeAt_end (p := ordK (keys.take i)) (by rw [hp]; exact hpl) placeAt_zero).symm
          refine And.intro (by rw [hnext]) ?_
          conv => whnf
          repeat (first | exact trivial | (refine And.intro (by first | with_reducible rfl | exact congrArg (DV.int .i64) (by omega) | exact congrArg (DV.int .i64) (wrap64 (by omega) (by omega)) | exact congrArg (DV.int .i64) ((wrap64 (by omega) (by omega)).trans (by omega))) ?_; conv => whnf))
    · have hge : keys.length ≤ i := by
        simp [ordK_len] at h
        omega
      conv => whnf
      refine AWL.run E_ok Tryz.func15 2000 ?_
      conv => whnf
      rw [List.take_of_length_le hge, List.drop_of_length_le hge, List.append_nil]

end Go.Proofs.YtebielkakdhelaaGreatDoor.P
