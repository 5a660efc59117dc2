/- Contracts by the engine: the reference implementation of signatures: sums, signing, checking. Conditions: lengths that Go allows. -/
import Derived.Test.YtklkmdoakhkikaaGreatDoorZP24
import Derived.Test.YtklkmdoakhkikaaGreatDoorZEngV
set_option linter.unusedVariables false
set_option linter.unusedSimpArgs false
namespace Go.Proofs.YtklkmdoakhkikaaGreatDoor.P
open Go Go.Eng
set_option maxRecDepth 100000
set_option maxHeartbeats 4000000

theorem rsum_p (s : RSet) (zone : Text) (k : Key) (frm upto : Int) (hs : setOK s = true) (hz : zone.length ≤ 60) : PCalls E 67 [s.enc, .str zone, k.enc, .int .i64 frm, .int .i64 upto] (· = .int .u64 (dig dig0 (sumB (setB s) zone k frm upto))) := by
  obtain ⟨hn, hd, -, ht⟩ := setOK_lens hs
  have hbl := setB_len hs
  have hb : ∀ x ∈ setB s ++ [DV.int IntKind.u8 (IntKind.u8.wrap (zone.length : Int))] ++ List.map byteD zone ++ numB k.n ++ numB k.alg ++ numB frm ++ numB upto, isByte x := by
    intro x hx
    simp only [List.mem_append, List.mem_cons, List.not_mem_nil, or_false, List.mem_map] at hx
    rcases hx with (((((h | h) | ⟨c, -, h⟩) | h) | h) | h) | h
    · exact setB_byte s x h
    · exact ⟨_, h⟩
    · exact ⟨_, h.symm⟩
    · exact numB_byte _ x h
    · exact numB_byte _ x h
    · exact numB_byte _ x h
    · exact numB_byte _ x h
  refine PCalls.run E_ok (fn := Tryz.f67) Tryz.func67 (body := Tryz.f67.body.getD .skip) rfl (by decide) 2000 ?_
  conv => whnf
  refine callP_own (rwrite_a s hn hd ht) rfl ?_
  conv => whnf
  refine AWL.run E_ok Tryz.func67 2000 ?_
  conv => whnf
  refine need_intro ⟨by simp; omega, by simp [DV.cells]⟩ ?_
  conv => whnf
  refine AWL.run E_ok Tryz.func67 2000 ?_
  conv => whnf
  refine need_intro ⟨by simp; omega, by simp [byteD, DV.cells]⟩ ?_
  conv => whnf
  refine AWL.run E_ok Tryz.func67 2000 ?_
  conv => whnf
  refine AWL.drawG E_ok E_mixed [0, 1, 2, 4, 5, 7, 9] [3] 2000 (by kernel_rfl) ?_
  conv => whnf
  refine GWL.run E_ok 2000 rfl rfl ?_
  conv => whnf
  refine callS1_eq (rnumber8_a _ _ (by simp; omega)) ?_
  conv => whnf
  refine And.intro rfl ?_
  conv => whnf
  refine GWL.run E_ok 2000 rfl rfl ?_
  conv => whnf
  refine callS1_eq (rnumber8_a _ _ (by simp [numB_len]; omega)) ?_
  conv => whnf
  refine And.intro rfl ?_
  conv => whnf
  refine GWL.run E_ok 2000 rfl rfl ?_
  conv => whnf
  refine callS1_eq (rnumber8_a _ _ (by simp [numB_len]; omega)) ?_
  conv => whnf
  refine And.intro rfl ?_
  conv => whnf
  refine GWL.run E_ok 2000 rfl rfl ?_
  conv => whnf
  refine callS1_eq (rnumber8_a _ _ (by simp [numB_len]; omega)) ?_
  conv => whnf
  refine And.intro rfl ?_
  conv => whnf
  refine GWL.run E_ok 2000 rfl rfl ?_
  conv => whnf
  refine callS1_lend (rdigest_p _ (by simp [numB_len]; omega) hb) rfl rfl rfl rfl ?_
  conv => whnf
  refine And.intro rfl ?_
  conv => whnf
  refine GWL.run E_ok 2000 rfl rfl ?_
  conv => whnf
  refine And.intro rfl ?_
  conv => whnf
  refine GWL.run E_ok 2000 rfl rfl ?_
  conv => whnf
  conv => whnf
  refine AWL.run E_ok Tryz.func67 2000 ?_
  conv => whnf
  simp only [sumB, textB, numsB, List.flatMap_cons, List.flatMap_nil, List.append_assoc, List.cons_append, List.nil_append, List.append_nil]

theorem rsign_p (s : RSet) (zone : Text) (k : Key) (frm upto : Int) (hf : s.Fits) (hz : zone.length ≤ maxLen) : PCalls E 15 [s.enc, .str zone, k.enc, .int .i64 frm, .int .i64 upto] (· = .tup [(signR s zone k frm upto).enc, .int .i64 (signE s zone k frm upto)]) := by
  have no : signOK s zone k frm upto = false → signR s zone k frm upto = sig0 ∧ signE s zone k frm upto = 1 := fun h => by simp [signR, signE, h]
  have hv := rsetOK_p s hf
  cases hs : setOK s
  · rw [hs] at hv
    refine PCalls.run E_ok (fn := Tryz.f15) Tryz.func15 (body := Tryz.f15.body.getD .skip) rfl (by decide) 2000 ?_
    conv => whnf
    repeat' (first | with_reducible refine callP_eq (hv) ?_ | with_reducible refine callP1_eq (hv) ?_ | with_reducible refine callP_eq (rkey_p _) ?_ | with_reducible refine callP1_eq (rkey_p _) ?_ | with_reducible refine callP_eq (rwindow_p _ _) ?_ | with_reducible refine callP1_eq (rwindow_p _ _) ?_ | with_reducible refine callP_eq (rvalid_p _ hz) ?_ | with_reducible refine callP1_eq (rvalid_p _ hz) ?_ | with_reducible refine callP_eq (rwild_p _ hz) ?_ | with_reducible refine callP1_eq (rwild_p _ hz) ?_ | with_reducible refine caseB_true ?_ | with_reducible refine caseB_false ?_ | with_reducible refine caseB_yes (by decide) ?_ | with_reducible refine caseB_no (by decide) ?_ | with_reducible refine caseB_yes (by assumption) ?_ | with_reducible refine caseB_no (by assumption) ?_ | with_reducible refine caseB_split (fun _ => ?_) (fun _ => ?_) | ((conv => whnf); (with_reducible refine AWL.run E_ok Tryz.func15 2000 ?_); (conv => whnf); fail_if_success (with_reducible refine AWL.of ?_)) | ((conv => whnf); (with_reducible refine DWL.run E_ok 2000 ?_); (conv => whnf); fail_if_success (with_reducible refine DWL.is ?_)) | ((conv => whnf); (with_reducible refine SWL.run E_ok 2000 ?_); (conv => whnf); fail_if_success (with_reducible refine SWL.is ?_)))
    all_goals (rw [(no (by simp_all [signOK])).1, (no (by simp_all [signOK])).2]; rfl)
  · rw [hs] at hv
    refine PCalls.run E_ok (fn := Tryz.f15) Tryz.func15 (body := Tryz.f15.body.getD .skip) rfl (by decide) 2000 ?_
    conv => whnf
    repeat' (first | with_reducible refine callP_eq (hv) ?_ | with_reducible refine callP1_eq (hv) ?_ | with_reducible refine callP_eq (rkey_p _) ?_ | with_reducible refine callP1_eq (rkey_p _) ?_ | with_reducible refine callP_eq (rwindow_p _ _) ?_ | with_reducible refine callP1_eq (rwindow_p _ _) ?_ | with_reducible refine callP_eq (rvalid_p _ hz) ?_ | with_reducible refine callP1_eq (rvalid_p _ hz) ?_ | with_reducible refine callP_eq (rwild_p _ hz) ?_ | with_reducible refine callP1_eq (rwild_p _ hz) ?_ | with_reducible refine callP_eq (runder_p _ _ hf.name hz) ?_ | with_reducible refine callP1_eq (runder_p _ _ hf.name hz) ?_ | with_reducible refine caseB_true ?_ | with_reducible refine caseB_false ?_ | with_reducible refine caseB_yes (by decide) ?_ | with_reducible refine caseB_no (by decide) ?_ | with_reducible refine caseB_yes (by assumption) ?_ | with_reducible refine caseB_no (by assumption) ?_ | with_reducible refine caseB_split (fun _ => ?_) (fun _ => ?_) | ((conv => whnf); (with_reducible refine AWL.run E_ok Tryz.func15 2000 ?_); (conv => whnf); fail_if_success (with_reducible refine AWL.of ?_)) | ((conv => whnf); (with_reducible refine DWL.run E_ok 2000 ?_); (conv => whnf); fail_if_success (with_reducible refine DWL.is ?_)) | ((conv => whnf); (with_reducible refine SWL.run E_ok 2000 ?_); (conv => whnf); fail_if_success (with_reducible refine SWL.is ?_)))
    all_goals try (rw [(no (by simp_all [signOK])).1, (no (by simp_all [signOK])).2]; rfl)
    rename_i h1 h2 h3 h4 h5
    have hok : signOK s zone k frm upto = true := by simp_all [signOK]
    have hzl : zone.length ≤ 60 := valid_len (by simpa using h3)
    conv => whnf
    refine AWL.run E_ok Tryz.func15 2000 ?_
    conv => whnf
    refine AWL.draw E_ok E_mixed 14 2000 (by kernel_rfl) ?_
    conv => whnf
    with_reducible refine callP1_eq (rsum_p _ _ _ _ _ hs hzl) ?_
    conv => whnf
    refine DWL.run E_ok 2000 ?_
    conv => whnf
    conv => whnf
    refine SWL.run E_ok 2000 ?_
    conv => whnf
    conv => whnf
    refine AWL.run E_ok Tryz.func15 2000 ?_
    conv => whnf
    simp only [signR, signE, hok, if_true]
    rfl

theorem rcheck_p (s : RSet) (g : Sig) (k : Key) (hf : s.Fits) (hz : g.zone.length ≤ maxLen) : PCalls E 20 [s.enc, g.enc, k.enc] (· = .bool (checkB s g k)) := by
  refine PCalls.run E_ok (fn := Tryz.f20) Tryz.func20 (body := Tryz.f20.body.getD .skip) rfl (by decide) 2000 ?_
  conv => whnf
  with_reducible refine callP_eq (rsign_p s g.zone k g.frm g.upto hf hz) ?_
  conv => whnf
  refine AWL.run E_ok Tryz.func20 2000 ?_
  conv => whnf
  cases h : signOK s g.zone k g.frm g.upto
  · simp only [signR, signE, h, checkB]
    repeat' (first | with_reducible refine caseB_true ?_ | with_reducible refine caseB_false ?_ | with_reducible refine caseB_yes (by decide) ?_ | with_reducible refine caseB_no (by decide) ?_ | with_reducible refine caseB_yes (by assumption) ?_ | with_reducible refine caseB_no (by assumption) ?_ | with_reducible refine caseB_split (fun _ => ?_) (fun _ => ?_) | ((conv => whnf); (with_reducible refine AWL.run E_ok Tryz.func20 2000 ?_); (conv => whnf); fail_if_success (with_reducible refine AWL.of ?_)) | ((conv => whnf); (with_reducible refine DWL.run E_ok 2000 ?_); (conv => whnf); fail_if_success (with_reducible refine DWL.is ?_)) | ((conv => whnf); (with_reducible refine SWL.run E_ok 2000 ?_); (conv => whnf); fail_if_success (with_reducible refine SWL.is ?_)))
    rfl
  · simp only [signR, signE, h, checkB]
    repeat' (first | with_reducible refine caseB_true ?_ | with_reducible refine caseB_false ?_ | with_reducible refine caseB_yes (by decide) ?_ | with_reducible refine caseB_no (by decide) ?_ | with_reducible refine caseB_yes (by assumption) ?_ | with_reducible refine caseB_no (by assumption) ?_ | with_reducible refine caseB_split (fun _ => ?_) (fun _ => ?_) | ((conv => whnf); (with_reducible refine AWL.run E_ok Tryz.func20 2000 ?_); (conv => whnf); fail_if_success (with_reducible refine AWL.of ?_)) | ((conv => whnf); (with_reducible refine DWL.run E_ok 2000 ?_); (conv => whnf); fail_if_success (with_reducible refine DWL.is ?_)) | ((conv => whnf); (with_reducible refine SWL.run E_ok 2000 ?_); (conv => whnf); fail_if_success (with_reducible refine SWL.is ?_)))
    rfl

end Go.Proofs.YtklkmdoakhkikaaGreatDoor.P
