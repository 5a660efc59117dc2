/- Contracts by the engine: record.Valid. Conditions: texts and lists of lengths that Go allows. -/
import Derived.Test.YtklkmdoakhkikaaDoorP2
namespace Go.Proofs.YtklkmdoakhkikaaDoor.P
open Go Go.Eng
set_option maxRecDepth 100000

structure Rule where
  text : Int
  leastN : Int
  mostN : Int
  leastM : Int
  mostM : Int
  even : Bool
  single : Bool
  wild : Bool
@[reducible] def Rule.enc (r : Rule) : DV := .agg [.int .i64 r.text, .int .i64 r.leastN, .int .i64 r.mostN, .int .i64 r.leastM, .int .i64 r.mostM, .bool r.even, .bool r.single, .bool r.wild]
/-- The rules of the types of data. -/
def ruleOf : Nat → Rule
  | 1 => ⟨0, 1, 1000000, 0, 0, false, false, true⟩
  | 2 => ⟨1, 0, 0, 0, 0, false, false, false⟩
  | 3 => ⟨1, 0, 0, 0, 0, false, true, false⟩
  | 4 => ⟨0, 0, 65535, 0, 100000, false, true, false⟩
  | 5 => ⟨3, 0, 0, 0, 0, false, false, true⟩
  | 6 => ⟨0, 1, 1000000, 1, 3, false, false, false⟩
  | 7 => ⟨0, 1, 1000000, 1, 3, false, false, false⟩
  | 8 => ⟨2, 2, 510, 0, 0, true, false, true⟩
  | _ => ⟨0, 0, 0, 0, 0, false, false, false⟩

def textOK (r : Rule) (t : Text) : Bool := if r.text = 1 then Nm.valid t && !Nm.wild t else if r.text = 2 then Nm.valid t else if r.text = 3 then freeB t else t == []
def datumOK (r : Rule) (d : Datum) : Bool :=
  (decide (r.leastN ≤ d.n) && decide (d.n ≤ r.mostN)) && (decide (r.leastM ≤ d.m) && decide (d.m ≤ r.mostM)) && !(r.even && (d.n.tmod 2 != 0)) && textOK r d.text

theorem datumOK_p (r : Rule) (d : Datum) (hd : d.text.length ≤ maxLen) : PCalls E 64 [r.enc, d.enc] (· = .bool (datumOK r d)) := by
  obtain ⟨rt, r1, r2, r3, r4, re, rs, rw⟩ := r
  refine PCalls.run E_ok (fn := Tryd.f64) Tryd.func64 (body := Tryd.f64.body.getD .skip) rfl (by decide) 2000 ?_
  conv => whnf
  repeat' (first | with_reducible refine callP_eq (within_p _ _ _) ?_ | with_reducible refine callP1_eq (within_p _ _ _) ?_ | with_reducible refine callP_eq (nvalid_p _ hd) ?_ | with_reducible refine callP1_eq (nvalid_p _ hd) ?_ | with_reducible refine callP_eq (isWild_p _) ?_ | with_reducible refine callP1_eq (isWild_p _) ?_ | with_reducible refine callP_eq (isFree_p _) ?_ | with_reducible refine callP1_eq (isFree_p _) ?_ | with_reducible refine caseB_true ?_ | with_reducible refine caseB_false ?_ | with_reducible refine caseB_yes (by decide) ?_ | with_reducible refine caseB_no (by decide) ?_ | with_reducible refine caseB_split (fun _ => ?_) (fun _ => ?_) | ((conv => whnf); (with_reducible refine AWL.run E_ok Tryd.func64 2000 ?_); (conv => whnf); fail_if_success (with_reducible refine AWL.of ?_)) | ((conv => whnf); (with_reducible refine DWL.run E_ok 2000 ?_); (conv => whnf); fail_if_success (with_reducible refine DWL.is ?_)) | ((conv => whnf); (with_reducible refine SWL.run E_ok 2000 ?_); (conv => whnf); fail_if_success (with_reducible refine SWL.is ?_)))
  all_goals simp_all [datumOK, textOK]
  all_goals (intros; exfalso; omega)

theorem rules_at {k : Nat} (h1 : 1 ≤ k) (h8 : k ≤ 8) : ∃ cs, glob_nameplan_record_rules = .agg cs ∧ (cs.drop (k * 8)).take 8 = (ruleOf k).enc.cells := by
  refine ⟨_, rfl, ?_⟩
  match k, h1, h8 with
  | 1, _, _ => rfl
  | 2, _, _ => rfl
  | 3, _, _ => rfl
  | 4, _, _ => rfl
  | 5, _, _ => rfl
  | 6, _, _ => rfl
  | 7, _, _ => rfl
  | 8, _, _ => rfl

/-- All texts and lists of a set are such as Go allows. -/
structure RSet.Fits (s : RSet) : Prop where
  name : s.name.length ≤ maxLen
  data : s.data.length ≤ 2147483648
  texts : ∀ d ∈ s.data, d.text.length ≤ maxLen

/-- The data of a set, one behind the other. -/
def dataB (r : Rule) : Option Datum → List Datum → Bool
  | _, [] => true
  | p, d :: l => datumOK r d && (match p with | none => true | some e => decide (cmpD e d < 0)) && dataB r (some d) l
def prevD (l : List Datum) (k : Nat) : Option Datum := if k = 0 then none else l[k - 1]?
theorem dataB_next {r : Rule} {l : List Datum} {k : Nat} {d : Datum} (hd : l[k]? = some d) : dataB r (prevD l k) (l.drop k) = (datumOK r d && (match prevD l k with | none => true | some e => decide (cmpD e d < 0)) && dataB r (prevD l (k + 1)) (l.drop (k + 1))) := by
  have hk := lt_of_getElem? hd
  rw [List.drop_eq_getElem_cons hk]
  have e1 : l[k] = d := by simpa [hk] using hd
  have e2 : prevD l (k + 1) = some d := by simp [prevD, hd]
  rw [e1, e2]
  rfl
def setOK (s : RSet) : Bool := Nm.valid s.name && (decide (1 ≤ s.type) && decide (s.type ≤ 8)) && (decide (0 ≤ s.life) && decide (s.life ≤ 100000)) && (decide (1 ≤ (s.data.length : Int)) && decide ((s.data.length : Int) ≤ 8)) &&
  !((ruleOf s.type.toNat).single && ((s.data.length : Int) != 1)) && !(Nm.wild s.name && !(ruleOf s.type.toNat).wild) && dataB (ruleOf s.type.toNat) none s.data

set_option linter.unusedSimpArgs false in
theorem setOK_p (s : RSet) (hf : s.Fits) : PCalls E 43 [s.enc] (· = .bool (setOK s)) := by
  refine PCalls.run E_ok (fn := Tryd.f43) Tryd.func43 (body := Tryd.f43.body.getD .skip) rfl (by decide) 2000 ?_
  conv => whnf
  repeat' (first | with_reducible refine callP_eq (nvalid_p _ hf.name) ?_ | with_reducible refine callP1_eq (nvalid_p _ hf.name) ?_ | with_reducible refine callP_eq (within_p _ _ _) ?_ | with_reducible refine callP1_eq (within_p _ _ _) ?_ | with_reducible refine caseB_true ?_ | with_reducible refine caseB_false ?_ | with_reducible refine caseB_yes (by decide) ?_ | with_reducible refine caseB_no (by decide) ?_ | with_reducible refine caseB_split (fun _ => ?_) (fun _ => ?_) | ((conv => whnf); (with_reducible refine AWL.run E_ok Tryd.func43 2000 ?_); (conv => whnf); fail_if_success (with_reducible refine AWL.of ?_)) | ((conv => whnf); (with_reducible refine DWL.run E_ok 2000 ?_); (conv => whnf); fail_if_success (with_reducible refine DWL.is ?_)) | ((conv => whnf); (with_reducible refine SWL.run E_ok 2000 ?_); (conv => whnf); fail_if_success (with_reducible refine SWL.is ?_)))
  all_goals try (simp only [Bool.not_eq_true', Bool.not_eq_false', List.length_map] at *; simp only [setOK, *, Bool.false_and, Bool.and_false]; done)
  rename_i h1 h2 h3 h4
  rw [List.length_map] at h4
  rw [Bool.not_eq_false'] at h1 h2 h3 h4
  have ht : 1 ≤ s.type ∧ s.type ≤ 8 := by simpa using h2
  have hl : 1 ≤ s.data.length ∧ s.data.length ≤ 8 := by simp at h4; omega
  obtain ⟨t, ht'⟩ := Int.eq_ofNat_of_zero_le (a := s.type) (by omega)
  obtain ⟨cs, hcs, hrule⟩ := rules_at (k := t) (by omega) (by omega)
  cases hcs
  refine cellP_intro (ruleOf t).enc (by omega) (by omega) (by decide) (by rw [ht']; exact hrule) rfl ?_
  have hset : setOK s = (!((ruleOf t).single && ((s.data.length : Int) != 1)) && !(Nm.wild s.name && !(ruleOf t).wild) && dataB (ruleOf t) none s.data) := by
    simp only [setOK, h1, h2, h3, h4, Bool.true_and]
    rw [ht', Int.toNat_natCast]
  rw [hset]
  generalize ruleOf t = r
  clear hset hrule
  conv => whnf
  refine AWL.run E_ok Tryd.func43 2000 ?_
  conv => whnf
  repeat' (first | with_reducible refine callP_eq (isWild_p _) ?_ | with_reducible refine callP1_eq (isWild_p _) ?_ | with_reducible refine caseB_true ?_ | with_reducible refine caseB_false ?_ | with_reducible refine caseB_yes (by decide) ?_ | with_reducible refine caseB_no (by decide) ?_ | with_reducible refine caseB_split (fun _ => ?_) (fun _ => ?_) | ((conv => whnf); (with_reducible refine AWL.run E_ok Tryd.func43 2000 ?_); (conv => whnf); fail_if_success (with_reducible refine AWL.of ?_)) | ((conv => whnf); (with_reducible refine DWL.run E_ok 2000 ?_); (conv => whnf); fail_if_success (with_reducible refine DWL.is ?_)) | ((conv => whnf); (with_reducible refine SWL.run E_ok 2000 ?_); (conv => whnf); fail_if_success (with_reducible refine SWL.is ?_)))
  all_goals try (simp only [List.length_map, Bool.not_eq_true', Bool.not_eq_false'] at *; simp only [*, Bool.true_and, Bool.not_true, Bool.not_false, Bool.and_false, Bool.false_and, Bool.and_self]; done)
  all_goals
    have hfin : (!(r.single && ((s.data.length : Int) != 1)) && !(Nm.wild s.name && !r.wild) && dataB r none s.data) = dataB r none s.data := by
      try simp only [List.length_map] at *
      simp only [*, Bool.not_true, Bool.not_false, Bool.and_false, Bool.false_and, Bool.and_self, Bool.true_and]
    rw [hfin]
    clear hfin
    conv => whnf
    refine AWL.run E_ok Tryd.func43 2000 ?_
    conv => whnf
    refine AWL.loop (κ := Nat) [2, 4, 5, 52, 53, 54, 55, 56, 57, 58, 59, 60, 61, 62, 63, 64, 65, 66, 67, 68, 69, 70, 71, 72, 73, 74, 75, 76] (fun k => [(52, .d (.int .i64 k))]) (fun _ => []) (fun k => k ≤ s.data.length ∧ dataB r none s.data = dataB r (prevD s.data k) (s.data.drop k)) (fun k => s.data.length - k) 0 ⟨Nat.zero_le _, rfl⟩ ?_ ?_
    · conv => whnf
      repeat (first | exact trivial | (refine And.intro (by first | with_reducible rfl | exact congrArg (DV.int .i64) (by omega) | exact congrArg (DV.int .i64) (wrap64 (by omega) (by omega)) | exact congrArg (DV.int .i64) ((wrap64 (by omega) (by omega)).trans (by omega))) ?_; conv => whnf))
    · intro k hk IH
      refine AWL.head E_ok Tryd.func43 2000 ?_
      conv => whnf
      refine caseB_split (fun h5 => ?_) (fun h5 => ?_)
      · have hlt : k < s.data.length := by simpa using h5
        obtain ⟨d, hd⟩ := some_of_lt hlt
        have hnext := dataB_next (r := r) hd
        rw [← hk.2] at hnext
        conv => whnf
        refine AWL.run E_ok Tryd.func43 2000 ?_
        conv => whnf
        refine elemP_intro d.enc (by omega) (elem_map hd) rfl ?_
        conv => whnf
        refine AWL.run E_ok Tryd.func43 2000 ?_
        conv => whnf
        refine AWL.draw E_ok E_mixed 19 2000 (by kernel_rfl) ?_
        conv => whnf
        with_reducible refine callP1_eq (datumOK_p r d (hf.texts d (List.mem_of_getElem? hd))) ?_
        conv => whnf
        refine DWL.run E_ok 2000 ?_
        conv => whnf
        refine caseB_split (fun h6 => ?_) (fun h6 => ?_)
        · conv => whnf
          refine DWL.run E_ok 2000 ?_
          conv => whnf
          conv => whnf
          refine SWL.run E_ok 2000 ?_
          conv => whnf
          conv => whnf
          refine AWL.run E_ok Tryd.func43 2000 ?_
          conv => whnf
          refine caseB_true ?_
          conv => whnf
          refine AWL.run E_ok Tryd.func43 2000 ?_
          conv => whnf
          rw [Bool.not_eq_true'] at h6
          rw [hnext, h6, Bool.false_and, Bool.false_and]
        · rw [Bool.not_eq_false'] at h6
          conv => whnf
          refine DWL.run E_ok 2000 ?_
          conv => whnf
          refine caseB_split (fun h7 => ?_) (fun h7 => ?_)
          · have hk0 : 0 < k := by simpa using h7
            obtain ⟨e, he⟩ := some_of_lt (l := s.data) (k := k - 1) (by omega)
            have hw : IntKind.i64.wrap ((k : Int) - 1) = ((k - 1 : Nat) : Int) := by rw [wrap64 (by omega) (by omega)]; omega
            have hpr : prevD s.data k = some e := by simp [prevD, he]; omega
            conv => whnf
            refine DWL.run E_ok 2000 ?_
            conv => whnf
            rw [hw]
            refine elemP_intro e.enc (by omega) (elem_map he) rfl ?_
            conv => whnf
            refine DWL.run E_ok 2000 ?_
            conv => whnf
            with_reducible refine callP1_eq (cmpD_p _ _) ?_
            conv => whnf
            refine DWL.run E_ok 2000 ?_
            conv => whnf
            conv => whnf
            refine SWL.run E_ok 2000 ?_
            conv => whnf
            conv => whnf
            refine AWL.run E_ok Tryd.func43 2000 ?_
            conv => whnf
            refine caseB_split (fun h8 => ?_) (fun h8 => ?_)
            · conv => whnf
              refine AWL.run E_ok Tryd.func43 2000 ?_
              conv => whnf
              have : decide (cmpD e d < 0) = false := by simp at h8 ⊢; omega
              rw [hnext, hpr]; dsimp only; rw [this, Bool.and_false, Bool.false_and]
            · conv => whnf
              refine AWL.run E_ok Tryd.func43 2000 ?_
              conv => whnf
              have : decide (cmpD e d < 0) = true := by simp at h8 ⊢; omega
              refine AWL.back (IH (k + 1) ⟨by omega, by rw [hnext, hpr]; dsimp only; rw [this, h6]; rfl⟩ (by omega)) ?_
              conv => whnf
              repeat (first | exact trivial | (refine And.intro (by first | with_reducible rfl | exact congrArg (DV.int .i64) (by omega) | exact congrArg (DV.int .i64) (wrap64 (by omega) (by omega)) | exact congrArg (DV.int .i64) ((wrap64 (by omega) (by omega)).trans (by omega))) ?_; conv => whnf))
          · have hk0 : k = 0 := by simp at h7; omega
            have hpr : prevD s.data k = none := by simp [prevD, hk0]
            conv => whnf
            refine DWL.run E_ok 2000 ?_
            conv => whnf
            conv => whnf
            refine SWL.run E_ok 2000 ?_
            conv => whnf
            conv => whnf
            refine AWL.run E_ok Tryd.func43 2000 ?_
            conv => whnf
            refine caseB_false ?_
            conv => whnf
            refine AWL.run E_ok Tryd.func43 2000 ?_
            conv => whnf
            refine AWL.back (IH (k + 1) ⟨by omega, by rw [hnext, hpr, h6]; rfl⟩ (by omega)) ?_
            conv => whnf
            repeat (first | exact trivial | (refine And.intro (by first | with_reducible rfl | exact congrArg (DV.int .i64) (by omega) | exact congrArg (DV.int .i64) (wrap64 (by omega) (by omega)) | exact congrArg (DV.int .i64) ((wrap64 (by omega) (by omega)).trans (by omega))) ?_; conv => whnf))
      · have hge : s.data.length ≤ k := by simpa using h5
        conv => whnf
        refine AWL.run E_ok Tryd.func43 2000 ?_
        conv => whnf
        rw [hk.2, List.drop_of_length_le hge]
        rfl

end Go.Proofs.YtklkmdoakhkikaaDoor.P
