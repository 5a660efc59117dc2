/- The law SignAccepted by the engine. Conditions: what Go allows of the arguments. -/
import Derived.Test.YtklkmdoakhkikaaDoorZM8
import Derived.Test.YtklkmdoakhkikaaDoorZM7
namespace Go.Proofs.YtklkmdoakhkikaaDoor.P
open Go Go.Eng
set_option maxRecDepth 100000
set_option maxHeartbeats 4000000

/-- Can a set be signed? -/
def usableB (s : RSet) (apex : Text) (k : Key) (a b : Int) : Bool := fewS s && !(decide ((apex.length : Int) > 100)) && setOK s && keyOK k && winOK a b && Nm.valid apex && !Nm.wild apex && Nm.vunder s.name apex
theorem usable_p (s : RSet) (apex : Text) (k : Key) (a b : Int) (ht : ∀ d ∈ s.data, d.text.length ≤ maxLen) (hz : apex.length ≤ maxLen) : PCalls E 6 [s.enc, .str apex, k.enc, .int .i64 a, .int .i64 b] (· = .bool (usableB s apex k a b)) := by
  cases hs : fewS s
  · refine PCalls.run E_ok (fn := Tryd.f6) Tryd.func6 (body := Tryd.f6.body.getD .skip) rfl (by decide) 2000 ?_
    conv => whnf
    repeat' (first | with_reducible refine callP_eq (few_p s) ?_ | with_reducible refine callP1_eq (few_p s) ?_ | with_reducible refine caseB_true ?_ | with_reducible refine caseB_false ?_ | with_reducible refine caseB_yes (by decide) ?_ | with_reducible refine caseB_no (by decide) ?_ | with_reducible refine caseB_split (fun _ => ?_) (fun _ => ?_) | ((conv => whnf); (with_reducible refine AWL.run E_ok Tryd.func6 2000 ?_); (conv => whnf); fail_if_success (with_reducible refine AWL.of ?_)) | ((conv => whnf); (with_reducible refine DWL.run E_ok 2000 ?_); (conv => whnf); fail_if_success (with_reducible refine DWL.is ?_)) | ((conv => whnf); (with_reducible refine SWL.run E_ok 2000 ?_); (conv => whnf); fail_if_success (with_reducible refine SWL.is ?_)))
    all_goals simp_all [usableB]
  · have hf := fewS_fits hs ht
    refine PCalls.run E_ok (fn := Tryd.f6) Tryd.func6 (body := Tryd.f6.body.getD .skip) rfl (by decide) 2000 ?_
    conv => whnf
    repeat' (first | with_reducible refine callP_eq (few_p s) ?_ | with_reducible refine callP1_eq (few_p s) ?_ | with_reducible refine callP_eq (rsetOK_p s hf) ?_ | with_reducible refine callP1_eq (rsetOK_p s hf) ?_ | with_reducible refine callP_eq (rkey_p k) ?_ | with_reducible refine callP1_eq (rkey_p k) ?_ | with_reducible refine callP_eq (rwindow_p _ _) ?_ | with_reducible refine callP1_eq (rwindow_p _ _) ?_ | with_reducible refine callP_eq (rvalid_p _ hz) ?_ | with_reducible refine callP1_eq (rvalid_p _ hz) ?_ | with_reducible refine callP_eq (rwild_p _ hz) ?_ | with_reducible refine callP1_eq (rwild_p _ hz) ?_ | with_reducible refine callP_eq (runder_p _ _ hf.name hz) ?_ | with_reducible refine callP1_eq (runder_p _ _ hf.name hz) ?_ | with_reducible refine caseB_true ?_ | with_reducible refine caseB_false ?_ | with_reducible refine caseB_yes (by decide) ?_ | with_reducible refine caseB_no (by decide) ?_ | with_reducible refine caseB_split (fun _ => ?_) (fun _ => ?_) | ((conv => whnf); (with_reducible refine AWL.run E_ok Tryd.func6 2000 ?_); (conv => whnf); fail_if_success (with_reducible refine AWL.of ?_)) | ((conv => whnf); (with_reducible refine DWL.run E_ok 2000 ?_); (conv => whnf); fail_if_success (with_reducible refine DWL.is ?_)) | ((conv => whnf); (with_reducible refine SWL.run E_ok 2000 ?_); (conv => whnf); fail_if_success (with_reducible refine SWL.is ?_)))
    all_goals simp_all [usableB]

theorem usable_ok {s : RSet} {apex : Text} {k : Key} {a b : Int} (h : usableB s apex k a b = true) : signOK s apex k a b = true ∧ fewS s = true := by
  simp [usableB] at h
  simp [signOK, h]
theorem sigOf_own {s : RSet} {apex : Text} {k : Key} {a b : Int} (h : signOK s apex k a b = true) : checkB s (sigOf s apex k a b) k = true := by
  have h1 : sigEq (sigOf s (sigOf s apex k a b).zone k (sigOf s apex k a b).frm (sigOf s apex k a b).upto) (sigOf s apex k a b) = true := sigEq_iff.2 rfl
  have h0 : signOK s (sigOf s apex k a b).zone k (sigOf s apex k a b).frm (sigOf s apex k a b).upto = true := h
  rw [checkB, h1, h0]; rfl
theorem sigOf_other {s : RSet} {apex : Text} {k o : Key} {a b : Int} (h : o ≠ k) : checkB s (sigOf s apex k a b) o = false := by
  have h1 : ¬ sigEq (sigOf s (sigOf s apex k a b).zone o (sigOf s apex k a b).frm (sigOf s apex k a b).upto) (sigOf s apex k a b) = true := fun he => by
    have he := sigEq_iff.1 he
    have e1 := congrArg Sig.key he
    have e2 := congrArg Sig.alg he
    apply h
    obtain ⟨o1, o2⟩ := o
    obtain ⟨k1, k2⟩ := k
    simp only [sigOf] at e1 e2
    rw [e1, e2]
  rw [Bool.not_eq_true] at h1
  rw [checkB, h1, Bool.and_false]

theorem accepted_p (s : RSet) (apex : Text) (k other : Key) (frm upto : Int) (ch : Sig) (ht : ∀ d ∈ s.data, d.text.length ≤ maxLen) (hz : apex.length ≤ maxLen) (hc : ch.zone.length ≤ maxLen) : PCalls E 3 [s.enc, .str apex, k.enc, other.enc, .int .i64 frm, .int .i64 upto, ch.enc] (· = .bool true) := by
  cases hu : usableB s apex k frm upto
  · refine PCalls.run E_ok (fn := Tryd.f3) Tryd.func3 (body := Tryd.f3.body.getD .skip) rfl (by decide) 2000 ?_
    conv => whnf
    with_reducible refine callP_eq (head08_p) ?_
    conv => whnf
    refine AWL.run E_ok Tryd.func3 2000 ?_
    conv => whnf
    with_reducible refine callP_eq (usable_p s apex k frm upto ht hz) ?_
    conv => whnf
    refine AWL.run E_ok Tryd.func3 2000 ?_
    conv => whnf
    rw [hu]
    refine caseB_yes (by decide) ?_
    conv => whnf
    refine AWL.run E_ok Tryd.func3 2000 ?_
    conv => whnf
  · obtain ⟨hs, hfew⟩ := usable_ok hu
    have hf := fewS_fits hfew ht
    have hsg := sign_p s apex k frm upto hf hz
    simp only [signR, signE, hs, if_true] at hsg
    refine PCalls.run E_ok (fn := Tryd.f3) Tryd.func3 (body := Tryd.f3.body.getD .skip) rfl (by decide) 2000 ?_
    conv => whnf
    with_reducible refine callP_eq (head08_p) ?_
    conv => whnf
    refine AWL.run E_ok Tryd.func3 2000 ?_
    conv => whnf
    with_reducible refine callP_eq (usable_p s apex k frm upto ht hz) ?_
    conv => whnf
    refine AWL.run E_ok Tryd.func3 2000 ?_
    conv => whnf
    rw [hu]
    refine caseB_no (by decide) ?_
    conv => whnf
    refine AWL.run E_ok Tryd.func3 2000 ?_
    conv => whnf
    with_reducible refine callP_eq (hsg) ?_
    conv => whnf
    refine AWL.run E_ok Tryd.func3 2000 ?_
    conv => whnf
    have hz' : (sigOf s apex k frm upto).zone.length ≤ maxLen := hz
    have hc' : (Sig.mk ch.zone ch.key ch.alg ch.frm ch.upto (sigOf s apex k frm upto).sum).zone.length ≤ maxLen := hc
    refine caseB_no (by decide) ?_
    conv => whnf
    refine AWL.run E_ok Tryd.func3 2000 ?_
    conv => whnf
    with_reducible refine callP_eq (check_p s (sigOf s apex k frm upto) k hf hz') ?_
    conv => whnf
    refine AWL.run E_ok Tryd.func3 2000 ?_
    conv => whnf
    rw [sigOf_own hs]
    refine caseB_no (by decide) ?_
    conv => whnf
    refine AWL.run E_ok Tryd.func3 2000 ?_
    conv => whnf
    refine caseB_split (fun h1 => ?_) (fun h1 => ?_)
    · have hne : other ≠ k := by rintro rfl; simp at h1
      conv => whnf
      refine AWL.run E_ok Tryd.func3 2000 ?_
      conv => whnf
      with_reducible refine callP_eq (check_p s (sigOf s apex k frm upto) other hf hz') ?_
      conv => whnf
      refine AWL.run E_ok Tryd.func3 2000 ?_
      conv => whnf
      rw [sigOf_other hne]
      refine caseB_false ?_
      conv => whnf
      refine AWL.run E_ok Tryd.func3 2000 ?_
      conv => whnf
      with_reducible refine callP_eq (sign_p s ch.zone k ch.frm ch.upto hf hc) ?_
      conv => whnf
      refine AWL.run E_ok Tryd.func3 2000 ?_
      conv => whnf
      refine caseB_true ?_
      conv => whnf
      refine AWL.run E_ok Tryd.func3 2000 ?_
      conv => whnf
      with_reducible refine callP_eq (check_p s (Sig.mk ch.zone ch.key ch.alg ch.frm ch.upto (sigOf s apex k frm upto).sum) k hf hc') ?_
      conv => whnf
      refine AWL.run E_ok Tryd.func3 2000 ?_
      conv => whnf
      cases h2 : signOK s ch.zone k ch.frm ch.upto
      · simp only [signR, signE, h2, checkB]
        repeat' (first | with_reducible refine caseB_true ?_ | with_reducible refine caseB_false ?_ | with_reducible refine caseB_yes (by decide) ?_ | with_reducible refine caseB_no (by decide) ?_ | with_reducible refine caseB_split (fun _ => ?_) (fun _ => ?_) | ((conv => whnf); (with_reducible refine AWL.run E_ok Tryd.func3 2000 ?_); (conv => whnf); fail_if_success (with_reducible refine AWL.of ?_)) | ((conv => whnf); (with_reducible refine DWL.run E_ok 2000 ?_); (conv => whnf); fail_if_success (with_reducible refine DWL.is ?_)) | ((conv => whnf); (with_reducible refine SWL.run E_ok 2000 ?_); (conv => whnf); fail_if_success (with_reducible refine SWL.is ?_)))
        all_goals simp
      · simp only [signR, signE, h2, checkB]
        repeat' (first | with_reducible refine caseB_true ?_ | with_reducible refine caseB_false ?_ | with_reducible refine caseB_yes (by decide) ?_ | with_reducible refine caseB_no (by decide) ?_ | with_reducible refine caseB_split (fun _ => ?_) (fun _ => ?_) | ((conv => whnf); (with_reducible refine AWL.run E_ok Tryd.func3 2000 ?_); (conv => whnf); fail_if_success (with_reducible refine AWL.of ?_)) | ((conv => whnf); (with_reducible refine DWL.run E_ok 2000 ?_); (conv => whnf); fail_if_success (with_reducible refine DWL.is ?_)) | ((conv => whnf); (with_reducible refine SWL.run E_ok 2000 ?_); (conv => whnf); fail_if_success (with_reducible refine SWL.is ?_)))
        all_goals simp [sigEq]
    · conv => whnf
      refine AWL.run E_ok Tryd.func3 2000 ?_
      conv => whnf
      refine caseB_false ?_
      conv => whnf
      refine AWL.run E_ok Tryd.func3 2000 ?_
      conv => whnf
      with_reducible refine callP_eq (sign_p s ch.zone k ch.frm ch.upto hf hc) ?_
      conv => whnf
      refine AWL.run E_ok Tryd.func3 2000 ?_
      conv => whnf
      refine caseB_true ?_
      conv => whnf
      refine AWL.run E_ok Tryd.func3 2000 ?_
      conv => whnf
      with_reducible refine callP_eq (check_p s (Sig.mk ch.zone ch.key ch.alg ch.frm ch.upto (sigOf s apex k frm upto).sum) k hf hc') ?_
      conv => whnf
      refine AWL.run E_ok Tryd.func3 2000 ?_
      conv => whnf
      cases h2 : signOK s ch.zone k ch.frm ch.upto
      · simp only [signR, signE, h2, checkB]
        repeat' (first | with_reducible refine caseB_true ?_ | with_reducible refine caseB_false ?_ | with_reducible refine caseB_yes (by decide) ?_ | with_reducible refine caseB_no (by decide) ?_ | with_reducible refine caseB_split (fun _ => ?_) (fun _ => ?_) | ((conv => whnf); (with_reducible refine AWL.run E_ok Tryd.func3 2000 ?_); (conv => whnf); fail_if_success (with_reducible refine AWL.of ?_)) | ((conv => whnf); (with_reducible refine DWL.run E_ok 2000 ?_); (conv => whnf); fail_if_success (with_reducible refine DWL.is ?_)) | ((conv => whnf); (with_reducible refine SWL.run E_ok 2000 ?_); (conv => whnf); fail_if_success (with_reducible refine SWL.is ?_)))
        all_goals simp
      · simp only [signR, signE, h2, checkB]
        repeat' (first | with_reducible refine caseB_true ?_ | with_reducible refine caseB_false ?_ | with_reducible refine caseB_yes (by decide) ?_ | with_reducible refine caseB_no (by decide) ?_ | with_reducible refine caseB_split (fun _ => ?_) (fun _ => ?_) | ((conv => whnf); (with_reducible refine AWL.run E_ok Tryd.func3 2000 ?_); (conv => whnf); fail_if_success (with_reducible refine AWL.of ?_)) | ((conv => whnf); (with_reducible refine DWL.run E_ok 2000 ?_); (conv => whnf); fail_if_success (with_reducible refine DWL.is ?_)) | ((conv => whnf); (with_reducible refine SWL.run E_ok 2000 ?_); (conv => whnf); fail_if_success (with_reducible refine SWL.is ?_)))
        all_goals simp [sigEq]

theorem accepted_g (s : RSet) (apex : Text) (k other : Key) (frm upto : Int) (ch : Sig) (g0 : s.Good) (g1 : apex.length ≤ maxLen) (_ : k.Good) (_ : other.Good) (_ : I64 frm) (_ : I64 upto) (g6 : ch.Good) : PCalls E 3 [s.enc, .str apex, k.enc, other.enc, .int .i64 frm, .int .i64 upto, ch.enc] (· = .bool true) :=
  accepted_p s apex k other frm upto ch (fun d hd => (g0.2.2.2.2 d hd).1) g1 g6.1

end Go.Proofs.YtklkmdoakhkikaaDoor.P
