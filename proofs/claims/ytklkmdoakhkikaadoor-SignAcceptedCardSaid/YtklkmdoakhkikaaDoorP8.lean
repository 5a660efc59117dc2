/- Contracts by the engine: the parts of the laws of layer 8. Conditions: lengths that Go allows. -/
import Derived.Test.YtklkmdoakhkikaaDoorP7
namespace Go.Proofs.YtklkmdoakhkikaaDoor.P
open Go Go.Eng
set_option maxRecDepth 100000
set_option maxHeartbeats 4000000

theorem runder_p (t z : Text) (ht : t.length ≤ maxLen) (hz : z.length ≤ maxLen) : PCalls E 18 [.str t, .str z] (· = .tup [.bool (Nm.vunder t z), .int .i64 (if Nm.valid t && Nm.valid z then 0 else 11)]) :=
  ofTexts (g := fun t z => .tup [.bool (Nm.vunder t z), .int .i64 (if Nm.valid t && Nm.valid z then 0 else 11)]) t z ⟨_, Tryd.func18, rfl, by decide⟩ fun w => (runder_any ⟨t.toArray⟩ ⟨z.toArray⟩ w (size_mk ht) (size_mk hz)).mono fun e w' ⟨h1, h2⟩ => ⟨_, h1, fun _ _ => by
    simp only [toL_mk]
    exact .tup _ _ rfl (fun j x v hx hv => by
      match j with
      | 0 => simp at hx hv; subst hx; subst hv; exact .bool _
      | 1 => simp at hx hv; subst hx; subst hv; exact .int _ _
      | j + 2 => simp at hx), h2⟩

def fewS (s : RSet) : Bool := !(decide ((s.data.length : Int) > 20)) && !(decide ((s.name.length : Int) > 200))
theorem rfew1_p (s : RSet) : PCalls E 33 [.sl [s.enc]] (· = .bool (fewS s)) := by
  refine PCalls.run E_ok (fn := Tryd.f33) Tryd.func33 (body := Tryd.f33.body.getD .skip) rfl (by decide) 2000 ?_
  conv => whnf
  refine AWL.unroll ?_
  refine AWL.run E_ok Tryd.func33 2000 ?_
  conv => whnf
  refine caseB_yes rfl ?_
  conv => whnf
  refine AWL.run E_ok Tryd.func33 2000 ?_
  conv => whnf
  refine caseB_yes rfl ?_
  conv => whnf
  refine AWL.run E_ok Tryd.func33 2000 ?_
  conv => whnf
  refine elemP_intro s.enc (by decide) rfl rfl ?_
  conv => whnf
  refine AWL.run E_ok Tryd.func33 2000 ?_
  conv => whnf
  refine caseB_split (fun h1 => ?_) (fun h1 => ?_)
  · conv => whnf
    refine AWL.run E_ok Tryd.func33 2000 ?_
    conv => whnf
    refine caseB_true ?_
    conv => whnf
    refine AWL.run E_ok Tryd.func33 2000 ?_
    conv => whnf
    simp only [List.length_map] at h1
    simp only [fewS, h1, Bool.not_true, Bool.false_and]
  · conv => whnf
    refine AWL.run E_ok Tryd.func33 2000 ?_
    conv => whnf
    refine elemP_intro s.enc (by decide) rfl rfl ?_
    conv => whnf
    refine AWL.run E_ok Tryd.func33 2000 ?_
    conv => whnf
    simp only [List.length_map] at h1
    refine caseB_split (fun h2 => ?_) (fun h2 => ?_)
    · conv => whnf
      refine AWL.run E_ok Tryd.func33 2000 ?_
      conv => whnf
      simp only [fewS, h1, h2, Bool.not_true, Bool.and_false]
    · conv => whnf
      refine AWL.run E_ok Tryd.func33 2000 ?_
      conv => whnf
      refine AWL.again ?_
      refine AWL.run E_ok Tryd.func33 2000 ?_
      conv => whnf
      refine caseB_no rfl ?_
      conv => whnf
      refine AWL.run E_ok Tryd.func33 2000 ?_
      conv => whnf
      refine caseB_false ?_
      conv => whnf
      refine AWL.run E_ok Tryd.func33 2000 ?_
      conv => whnf
      simp only [fewS, h1, h2]
      rfl
theorem few_p (s : RSet) : PCalls E 12 [s.enc] (· = .bool (fewS s)) := by
  refine PCalls.run E_ok (fn := Tryd.f12) Tryd.func12 (body := Tryd.f12.body.getD .skip) rfl (by decide) 2000 ?_
  conv => whnf
  with_reducible refine callP_eq (rfew1_p s) ?_
  conv => whnf
  refine AWL.run E_ok Tryd.func12 2000 ?_
  conv => whnf

theorem address_p (t : Text) (n : Int) : PCalls E 9 [.str t, .int .i64 n] (· = (RSet.mk t 1 5 [⟨[], n, 0⟩]).enc) := by
  refine PCalls.run E_ok (fn := Tryd.f9) Tryd.func9 (body := Tryd.f9.body.getD .skip) rfl (by decide) 2000 ?_
  conv => whnf
  rfl

theorem ordered0_p : PCalls E 48 [.agg [.str [], .nilsl]] (· = .bool false) := by
  refine PCalls.run E_ok (fn := Tryd.f48) Tryd.func48 (body := Tryd.f48.body.getD .skip) rfl (by decide) 2000 ?_
  conv => whnf
  with_reducible refine callP_eq (nvalid_p [] (by decide)) ?_
  conv => whnf
  refine AWL.run E_ok Tryd.func48 2000 ?_
  conv => whnf
  refine caseB_yes (by decide) ?_
  conv => whnf
  refine AWL.run E_ok Tryd.func48 2000 ?_
  conv => whnf
  refine caseB_true ?_
  conv => whnf
  refine AWL.run E_ok Tryd.func48 2000 ?_
  conv => whnf
  refine caseB_true ?_
  conv => whnf
  refine AWL.run E_ok Tryd.func48 2000 ?_
  conv => whnf
theorem zvalid0_p : PCalls E 26 [.agg [.str [], .nilsl]] (· = .bool false) := by
  refine PCalls.run E_ok (fn := Tryd.f26) Tryd.func26 (body := Tryd.f26.body.getD .skip) rfl (by decide) 2000 ?_
  conv => whnf
  with_reducible refine callP_eq (ordered0_p) ?_
  conv => whnf
  refine AWL.run E_ok Tryd.func26 2000 ?_
  conv => whnf
  refine caseB_yes (by decide) ?_
  conv => whnf
  refine AWL.run E_ok Tryd.func26 2000 ?_
  conv => whnf
  refine caseB_true ?_
  conv => whnf
  refine AWL.run E_ok Tryd.func26 2000 ?_
  conv => whnf
theorem all0_p (k : Key) : PCalls E 10 [.agg [.str [], .nilsl], .sl [k.enc], .int .i64 10, .int .i64 20] (· = .tup [.agg [.str [], .nilsl], .int .i64 1]) := by
  refine PCalls.run E_ok (fn := Tryd.f10) Tryd.func10 (body := Tryd.f10.body.getD .skip) rfl (by decide) 2000 ?_
  conv => whnf
  repeat' (first | with_reducible refine callP_eq (winOK_p _ _) ?_ | with_reducible refine callP1_eq (winOK_p _ _) ?_ | with_reducible refine callP_eq (zvalid0_p) ?_ | with_reducible refine callP1_eq (zvalid0_p) ?_ | with_reducible refine caseB_true ?_ | with_reducible refine caseB_false ?_ | with_reducible refine caseB_yes (by decide) ?_ | with_reducible refine caseB_no (by decide) ?_ | with_reducible refine caseB_split (fun _ => ?_) (fun _ => ?_) | ((conv => whnf); (with_reducible refine AWL.run E_ok Tryd.func10 2000 ?_); (conv => whnf); fail_if_success (with_reducible refine AWL.of ?_)) | ((conv => whnf); (with_reducible refine DWL.run E_ok 2000 ?_); (conv => whnf); fail_if_success (with_reducible refine DWL.is ?_)) | ((conv => whnf); (with_reducible refine SWL.run E_ok 2000 ?_); (conv => whnf); fail_if_success (with_reducible refine SWL.is ?_)))

theorem add0_a (d : Int) : ACalls E 32 [.cells [.d (.int .u64 d)]] [.ptr 0 0, .d .nilsl] (fun a b => a = .tup [] ∧ b = [.cells [.d (.int .u64 d)]]) := by
  refine ACalls.run E_ok (fn := Tryd.f32) Tryd.func32 (body := Tryd.f32.body.getD .skip) rfl (by decide) 2000 rfl ?_
  conv => whnf
  refine AWL.unroll ?_
  refine AWL.run E_ok Tryd.func32 2000 ?_
  conv => whnf
  refine caseB_no (by decide) ?_
  conv => whnf
  refine AWL.run E_ok Tryd.func32 2000 ?_
  conv => whnf
  exact ⟨rfl, rfl⟩
theorem digest0_p : PCalls E 11 [.nilsl] (· = .int .u64 14695981039346656037) := by
  refine PCalls.run E_ok (fn := Tryd.f11) Tryd.func11 (body := Tryd.f11.body.getD .skip) rfl (by decide) 2000 ?_
  conv => whnf
  with_reducible refine callS_eq (add0_a _) ?_
  conv => whnf
  refine AWL.run E_ok Tryd.func11 2000 ?_
  conv => whnf


def setA : RSet := ⟨[97, 46, 120], 1, 5, [⟨[], 7, 0⟩]⟩
def setY : RSet := ⟨[97, 46, 121], 1, 5, [⟨[], 7, 0⟩]⟩
def key3 : Key := ⟨3, 1⟩
def key4 : Key := ⟨4, 1⟩
def sumA : Int := dig dig0 (sumB (setB setA) [120] key3 10 20)
def sigA : Sig := ⟨[120], 3, 1, 10, 20, sumA⟩
theorem setA_fits : setA.Fits := ⟨by decide, by decide, by decide⟩
theorem setY_fits : setY.Fits := ⟨by decide, by decide, by decide⟩
theorem okA : signOK setA [120] key3 10 20 = true := by decide +kernel
theorem okA4 : signOK setA [120] key4 10 20 = true := by decide +kernel
theorem okY : signOK setY [120] key3 10 20 = false := by decide +kernel
theorem okW : signOK setA [120] key3 20 10 = false := by decide +kernel
theorem signA_p : PCalls E 7 [.agg [.str [97, 46, 120], .int .i64 1, .int .i64 5, .sl [.agg [.str [], .int .i64 7, .int .i64 0]]], .str [120], .agg [.int .i64 3, .int .i64 1], .int .i64 10, .int .i64 20] (· = .tup [.agg [.str [120], .int .i64 3, .int .i64 1, .int .i64 10, .int .i64 20, .int .u64 sumA], .int .i64 0]) := by
  have h := sign_p setA [120] key3 10 20 setA_fits (by decide)
  simp only [signR, signE, okA, if_true] at h
  exact h
theorem signY_p : PCalls E 7 [.agg [.str [97, 46, 121], .int .i64 1, .int .i64 5, .sl [.agg [.str [], .int .i64 7, .int .i64 0]]], .str [120], .agg [.int .i64 3, .int .i64 1], .int .i64 10, .int .i64 20] (· = .tup [.agg [.str [], .int .i64 0, .int .i64 0, .int .i64 0, .int .i64 0, .int .u64 0], .int .i64 1]) := by
  have h := sign_p setY [120] key3 10 20 setY_fits (by decide)
  simp only [signR, signE, okY, Bool.false_eq_true, if_false] at h
  exact h
theorem signW_p : PCalls E 7 [.agg [.str [97, 46, 120], .int .i64 1, .int .i64 5, .sl [.agg [.str [], .int .i64 7, .int .i64 0]]], .str [120], .agg [.int .i64 3, .int .i64 1], .int .i64 20, .int .i64 10] (· = .tup [.agg [.str [], .int .i64 0, .int .i64 0, .int .i64 0, .int .i64 0, .int .u64 0], .int .i64 1]) := by
  have h := sign_p setA [120] key3 20 10 setA_fits (by decide)
  simp only [signR, signE, okW, Bool.false_eq_true, if_false] at h
  exact h
theorem checkA : checkB setA sigA key3 = true := by
  have h : sigEq (sigOf setA sigA.zone key3 sigA.frm sigA.upto) sigA = true := sigEq_iff.2 rfl
  have h0 : signOK setA sigA.zone key3 sigA.frm sigA.upto = true := okA
  rw [checkB, h, h0]; rfl
theorem checkA4 : checkB setA sigA key4 = false := by
  have h : ¬ sigEq (sigOf setA sigA.zone key4 sigA.frm sigA.upto) sigA = true := fun h => by
    have := congrArg Sig.key (sigEq_iff.1 h)
    exact absurd this (by decide)
  rw [Bool.not_eq_true] at h
  rw [checkB, h, Bool.and_false]
theorem checkA_p : PCalls E 8 [.agg [.str [97, 46, 120], .int .i64 1, .int .i64 5, .sl [.agg [.str [], .int .i64 7, .int .i64 0]]], .agg [.str [120], .int .i64 3, .int .i64 1, .int .i64 10, .int .i64 20, .int .u64 sumA], .agg [.int .i64 3, .int .i64 1]] (· = .bool true) := by
  have h := check_p setA sigA key3 setA_fits (by decide)
  rw [checkA] at h
  exact h
theorem checkA4_p : PCalls E 8 [.agg [.str [97, 46, 120], .int .i64 1, .int .i64 5, .sl [.agg [.str [], .int .i64 7, .int .i64 0]]], .agg [.str [120], .int .i64 3, .int .i64 1, .int .i64 10, .int .i64 20, .int .u64 sumA], .agg [.int .i64 4, .int .i64 1]] (· = .bool false) := by
  have h := check_p setA sigA key4 setA_fits (by decide)
  rw [checkA4] at h
  exact h
theorem digestZ_p : PCalls E 11 [.sl [.int .u8 0]] (· = .int .u64 12638153115695167455) := by
  have h := digest_p [.int .u8 0] (by decide) (by simp [isByte])
  rw [show dig dig0 [.int .u8 0] = 12638153115695167455 by decide +kernel] at h
  exact h
theorem all1_p : PCalls E 10 [.agg [.str [], .nilsl], .sl [.agg [.int .i64 3, .int .i64 1]], .int .i64 10, .int .i64 20] (· = .tup [.agg [.str [], .nilsl], .int .i64 1]) := all0_p key3

theorem head08_p : PCalls E 5 [] (· = .bool true) := by
  refine PCalls.run E_ok (fn := Tryd.f5) Tryd.func5 (body := Tryd.f5.body.getD .skip) rfl (by decide) 2000 ?_
  conv => whnf
  refine AWL.drawA E_ok E_mixed 6 2000 (by kernel_rfl) ?_
  conv => whnf
  with_reducible refine callP1_eq (address_p _ _) ?_
  conv => whnf
  refine DWL.run E_ok 2000 ?_
  conv => whnf
  refine callP1_eq (signA_p) ?_
  conv => whnf
  refine DWL.run E_ok 2000 ?_
  conv => whnf
  conv => whnf
  refine SWL.run E_ok 2000 ?_
  conv => whnf
  conv => whnf
  refine AWL.run E_ok Tryd.func5 2000 ?_
  conv => whnf
  refine AWL.drawA E_ok E_mixed 6 2000 (by kernel_rfl) ?_
  conv => whnf
  with_reducible refine callP1_eq (address_p _ _) ?_
  conv => whnf
  refine DWL.run E_ok 2000 ?_
  conv => whnf
  refine callP1_eq (signY_p) ?_
  conv => whnf
  refine DWL.run E_ok 2000 ?_
  conv => whnf
  conv => whnf
  refine SWL.run E_ok 2000 ?_
  conv => whnf
  conv => whnf
  refine AWL.run E_ok Tryd.func5 2000 ?_
  conv => whnf
  refine AWL.drawA E_ok E_mixed 6 2000 (by kernel_rfl) ?_
  conv => whnf
  with_reducible refine callP1_eq (address_p _ _) ?_
  conv => whnf
  refine DWL.run E_ok 2000 ?_
  conv => whnf
  refine callP1_eq (signW_p) ?_
  conv => whnf
  refine DWL.run E_ok 2000 ?_
  conv => whnf
  conv => whnf
  refine SWL.run E_ok 2000 ?_
  conv => whnf
  conv => whnf
  refine AWL.run E_ok Tryd.func5 2000 ?_
  conv => whnf
  refine callP_eq (all1_p) ?_
  conv => whnf
  refine AWL.run E_ok Tryd.func5 2000 ?_
  conv => whnf
  repeat' (first | with_reducible refine caseB_true ?_ | with_reducible refine caseB_false ?_ | with_reducible refine caseB_yes (by decide) ?_ | with_reducible refine caseB_no (by decide) ?_ | with_reducible refine caseB_split (fun _ => ?_) (fun _ => ?_) | ((conv => whnf); (with_reducible refine AWL.run E_ok Tryd.func5 2000 ?_); (conv => whnf); fail_if_success (with_reducible refine AWL.of ?_)) | ((conv => whnf); (with_reducible refine DWL.run E_ok 2000 ?_); (conv => whnf); fail_if_success (with_reducible refine DWL.is ?_)) | ((conv => whnf); (with_reducible refine SWL.run E_ok 2000 ?_); (conv => whnf); fail_if_success (with_reducible refine SWL.is ?_)))
  conv => whnf
  refine AWL.run E_ok Tryd.func5 2000 ?_
  conv => whnf
  refine AWL.draw E_ok E_mixed 15 2000 (by kernel_rfl) ?_
  conv => whnf
  refine caseB_true ?_
  conv => whnf
  refine DWL.run E_ok 2000 ?_
  conv => whnf
  with_reducible refine callP1_eq (address_p _ _) ?_
  conv => whnf
  refine DWL.run E_ok 2000 ?_
  conv => whnf
  refine callP1_eq (checkA_p) ?_
  conv => whnf
  refine DWL.run E_ok 2000 ?_
  conv => whnf
  refine caseB_true ?_
  conv => whnf
  refine DWL.run E_ok 2000 ?_
  conv => whnf
  with_reducible refine callP1_eq (address_p _ _) ?_
  conv => whnf
  refine DWL.run E_ok 2000 ?_
  conv => whnf
  refine callP1_eq (checkA4_p) ?_
  conv => whnf
  refine DWL.run E_ok 2000 ?_
  conv => whnf
  conv => whnf
  refine SWL.run E_ok 2000 ?_
  conv => whnf
  conv => whnf
  refine AWL.run E_ok Tryd.func5 2000 ?_
  conv => whnf
  refine caseB_true ?_
  conv => whnf
  refine AWL.run E_ok Tryd.func5 2000 ?_
  conv => whnf
  refine callP_eq (digest0_p) ?_
  conv => whnf
  refine AWL.run E_ok Tryd.func5 2000 ?_
  conv => whnf
  refine caseB_yes (by decide) ?_
  conv => whnf
  refine AWL.run E_ok Tryd.func5 2000 ?_
  conv => whnf
  refine callP_eq (digestZ_p) ?_
  conv => whnf
  refine AWL.run E_ok Tryd.func5 2000 ?_
  conv => whnf
  rfl

/-- Can a set be signed? -/
def usableB (s : RSet) (apex : Text) (k : Key) (a b : Int) : Bool := fewS s && !(decide ((apex.length : Int) > 100)) && setOK s && keyOK k && winOK a b && Nm.valid apex && !Nm.wild apex && Nm.vunder s.name apex
theorem fewS_fits {s : RSet} (h : fewS s = true) (ht : ∀ d ∈ s.data, d.text.length ≤ maxLen) : s.Fits := by
  simp [fewS] at h
  exact ⟨by unfold maxLen; omega, by omega, ht⟩
theorem usable_p (s : RSet) (apex : Text) (k : Key) (a b : Int) (ht : ∀ d ∈ s.data, d.text.length ≤ maxLen) (hz : apex.length ≤ maxLen) : PCalls E 6 [s.enc, .str apex, k.enc, .int .i64 a, .int .i64 b] (· = .bool (usableB s apex k a b)) := by
  cases hs : fewS s
  · refine PCalls.run E_ok (fn := Tryd.f6) Tryd.func6 (body := Tryd.f6.body.getD .skip) rfl (by decide) 2000 ?_
    conv => whnf
    repeat' (first | with_reducible refine callP_eq (few_p s) ?_ | with_reducible refine callP1_eq (few_p s) ?_ | with_reducible refine caseB_true ?_ | with_reducible refine caseB_false ?_ | with_reducible refine caseB_yes (by decide) ?_ | with_reducible refine caseB_no (by decide) ?_ | with_reducible refine caseB_split (fun _ => ?_) (fun _ => ?_) | ((conv => whnf); (with_reducible refine AWL.run E_ok Tryd.func6 2000 ?_); (conv => whnf); fail_if_success (with_reducible refine AWL.of ?_)) | ((conv => whnf); (with_reducible refine DWL.run E_ok 2000 ?_); (conv => whnf); fail_if_success (with_reducible refine DWL.is ?_)) | ((conv => whnf); (with_reducible refine SWL.run E_ok 2000 ?_); (conv => whnf); fail_if_success (with_reducible refine SWL.is ?_)))
    all_goals simp_all [usableB]
  · have hf := fewS_fits hs ht
    refine PCalls.run E_ok (fn := Tryd.f6) Tryd.func6 (body := Tryd.f6.body.getD .skip) rfl (by decide) 2000 ?_
    conv => whnf
    repeat' (first | with_reducible refine callP_eq (few_p s) ?_ | with_reducible refine callP1_eq (few_p s) ?_ | with_reducible refine callP_eq (rsetOK_p s hf) ?_ | with_reducible refine callP1_eq (rsetOK_p s hf) ?_ | with_reducible refine callP_eq (rkey_p k) ?_ | with_reducible refine callP1_eq (rkey_p k) ?_ | with_reducible refine callP_eq (rwindow_p _ _) ?_ | with_reducible refine callP1_eq (rwindow_p _ _) ?_ | with_reducible refine callP_eq (rvalid_p _ hz) ?_ | with_reducible refine callP1_eq (rvalid_p _ hz) ?_ | with_reducible refine callP_eq (rwild_p _ hz) ?_ | with_reducible refine callP1_eq (rwild_p _ hz) ?_ | with_reducible refine callP_eq (runder_p _ _ hf.name hz) ?_ | with_reducible refine callP1_eq (runder_p _ _ hf.name hz) ?_ | with_reducible refine caseB_true ?_ | with_reducible refine caseB_false ?_ | with_reducible refine caseB_yes (by decide) ?_ | with_reducible refine caseB_no (by decide) ?_ | with_reducible refine caseB_split (fun _ => ?_) (fun _ => ?_) | ((conv => whnf); (with_reducible refine AWL.run E_ok Tryd.func6 2000 ?_); (conv => whnf); fail_if_success (with_reducible refine AWL.of ?_)) | ((conv => whnf); (with_reducible refine DWL.run E_ok 2000 ?_); (conv => whnf); fail_if_success (with_reducible refine DWL.is ?_)) | ((conv => whnf); (with_reducible refine SWL.run E_ok 2000 ?_); (conv => whnf); fail_if_success (with_reducible refine SWL.is ?_)))
    all_goals simp_all [usableB]

end Go.Proofs.YtklkmdoakhkikaaDoor.P
