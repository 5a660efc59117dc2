/- The law SignZones by the engine: the walk. Conditions: what Go allows of the arguments. -/
import Derived.Test.YtebielkakdhelaaGreatDoorZP30
import Derived.Test.YtebielkakdhelaaGreatDoorZP31a
import Derived.Test.YtebielkakdhelaaGreatDoorZM7
set_option linter.unusedVariables false
set_option linter.unusedSimpArgs false
namespace Go.Proofs.YtebielkakdhelaaGreatDoor.P
open Go Go.Eng
set_option maxRecDepth 100000
set_option maxHeartbeats 4000000

theorem sigEq_refl (g : Sig) : sigEq g g = true := sigEq_iff.2 rfl
theorem sigOf_check {s : RSet} {apex : Text} {k : Key} {a b : Int} (h : signOK s apex k a b = true) : checkB s (sigOf s apex k a b) k = true := by
  have e : sigOf s (sigOf s apex k a b).zone k (sigOf s apex k a b).frm (sigOf s apex k a b).upto = sigOf s apex k a b := rfl
  rw [checkB, e, sigEq_refl]
  simpa [sigOf] using h
theorem allE_zero {z : Zone} {keys : List Key} {frm upto : Int} (h : allE z keys frm upto = 0) : allOK z keys frm upto = true ∧ twiceB keys = false := by
  unfold allE at h
  cases h1 : allOK z keys frm upto <;> cases h2 : twiceB keys <;> simp [h1, h2] at h ⊢
theorem allZ_no {z : Zone} {keys : List Key} {frm upto : Int} (h : allE z keys frm upto ≠ 0) : allZ z keys frm upto = ⟨[], []⟩ := by
  unfold allE at h
  unfold allZ
  cases h1 : allOK z keys frm upto <;> cases h2 : twiceB keys <;> simp [h1, h2] at h ⊢
theorem allOK_parts {z : Zone} {keys : List Key} {frm upto : Int} (h : allOK z keys frm upto = true) : (1 ≤ keys.length ∧ keys.length ≤ 6) ∧ winOK frm upto = true ∧ zoneR z = true ∧ keys.all keyOK = true := by
  simp only [allOK, Bool.and_eq_true, decide_eq_true_eq] at h
  obtain ⟨⟨⟨⟨h1, h2⟩, h3⟩, h4⟩, h5⟩ := h
  exact ⟨⟨h1, h2⟩, h3, h4, h5⟩
theorem signed_valid {z : Zone} {keys : List Key} {frm upto : Int} (h : allOK z keys frm upto = true) (ht : twiceB keys = false) : zoneR (signZ z (ordK keys) frm upto) = true := by
  obtain ⟨⟨-, h2⟩, h3, h4, h5⟩ := allOK_parts h
  exact signZ_valid h4 (fun k hk => List.all_eq_true.1 h5 k (ordK_mem.1 hk)) (by rw [ordK_len]; exact h2) (ordK_lt ht) h3
theorem allOK_again {z y : Zone} {keys : List Key} {frm upto : Int} (h : allOK z keys frm upto = true) (hy : zoneR y = true) : allOK y keys frm upto = true := by
  obtain ⟨⟨h1, h2⟩, h3, -, h5⟩ := allOK_parts h
  simp [allOK, h1, h2, h3, h5, hy]
theorem signZ_fits {z : Zone} (hf : z.Fits) (ord : List Key) (frm upto : Int) : (signZ z ord frm upto).Fits :=
  ⟨hf.apex, fun s' hs' => by obtain ⟨s, hs, e, -⟩ := signZ_mem hs'; rw [e]; exact hf.sets s hs⟩

theorem all_yes {z : Zone} {keys : List Key} {frm upto : Int} (hf : z.Fits) (h : allOK z keys frm upto = true) (ht : twiceB keys = false) : PCalls E 13 [z.enc, .sl (keys.map Key.enc), .int .i64 frm, .int .i64 upto] (· = .tup [(signZ z (ordK keys) frm upto).enc, .int .i64 0]) := by
  have := all_p z keys frm upto hf (by have := (allOK_parts h).1; omega)
  simpa only [allZ, allE, h, ht, Bool.not_false, Bool.and_self, if_true, Bool.false_eq_true, if_false] using this
theorem all_none {z : Zone} {keys : List Key} {frm upto : Int} (hf : z.Fits) (hl : keys.length ≤ 1000) (h : allE z keys frm upto ≠ 0) : PCalls E 13 [z.enc, .sl (keys.map Key.enc), .int .i64 frm, .int .i64 upto] (· = .tup [.agg [.str [], .sl []], .int .i64 (allE z keys frm upto)]) := by
  have := all_p z keys frm upto hf hl
  rw [allZ_no h] at this
  exact this

theorem zones_p (z : Zone) (keys : List Key) (frm upto : Int) (others : List Key) (ha : z.apex.length ≤ maxLen) (hn : ∀ s ∈ z.sets, s.set.name.length ≤ maxLen) (hzt : ∀ s ∈ z.sets, ∀ d ∈ s.set.data, d.text.length ≤ maxLen) : PCalls E 3 [z.enc, .sl (keys.map Key.enc), .int .i64 frm, .int .i64 upto, .sl (others.map Key.enc)] (· = .bool true) := by
  refine PCalls.run E_ok (fn := Tryz.f3) Tryz.func3 (body := Tryz.f3.body.getD .skip) rfl (by decide) 2000 ?_
  conv => whnf
  with_reducible refine callP_eq (head08_p) ?_
  conv => whnf
  refine AWL.run E_ok Tryz.func3 2000 ?_
  conv => whnf
  with_reducible refine callP_eq (rfewZ_p z) ?_
  conv => whnf
  refine AWL.run E_ok Tryz.func3 2000 ?_
  conv => whnf
  refine caseB_split (fun h1 => ?_) (fun h1 => ?_)
  · repeat' (first | with_reducible refine caseB_true ?_ | with_reducible refine caseB_false ?_ | with_reducible refine caseB_yes (by decide) ?_ | with_reducible refine caseB_no (by decide) ?_ | with_reducible refine caseB_yes (by assumption) ?_ | with_reducible refine caseB_no (by assumption) ?_ | with_reducible refine caseB_split (fun _ => ?_) (fun _ => ?_) | ((conv => whnf); (with_reducible refine AWL.run E_ok Tryz.func3 2000 ?_); (conv => whnf); fail_if_success (with_reducible refine AWL.of ?_)) | ((conv => whnf); (with_reducible refine DWL.run E_ok 2000 ?_); (conv => whnf); fail_if_success (with_reducible refine DWL.is ?_)) | ((conv => whnf); (with_reducible refine SWL.run E_ok 2000 ?_); (conv => whnf); fail_if_success (with_reducible refine SWL.is ?_)))
    all_goals try (rfl; done)
  have hfz : fewZ z = true := by simpa using h1
  have hf := fewZ_fits hfz ha hn hzt
  conv => whnf
  refine AWL.run E_ok Tryz.func3 2000 ?_
  conv => whnf
  repeat' (first | with_reducible refine callP_eq (rzone_p z hf) ?_ | with_reducible refine callP1_eq (rzone_p z hf) ?_ | with_reducible refine caseB_true ?_ | with_reducible refine caseB_false ?_ | with_reducible refine caseB_yes (by decide) ?_ | with_reducible refine caseB_no (by decide) ?_ | with_reducible refine caseB_yes (by assumption) ?_ | with_reducible refine caseB_no (by assumption) ?_ | with_reducible refine caseB_split (fun _ => ?_) (fun _ => ?_) | ((conv => whnf); (with_reducible refine AWL.run E_ok Tryz.func3 2000 ?_); (conv => whnf); fail_if_success (with_reducible refine AWL.of ?_)) | ((conv => whnf); (with_reducible refine DWL.run E_ok 2000 ?_); (conv => whnf); fail_if_success (with_reducible refine DWL.is ?_)) | ((conv => whnf); (with_reducible refine SWL.run E_ok 2000 ?_); (conv => whnf); fail_if_success (with_reducible refine SWL.is ?_)))
  all_goals try (rfl; done)
  rename_i h2 h3 h4
  have hz : zoneR z = true := by simpa using h2
  have hkl : keys.length ≤ 6 := by simp at h3; omega
  have hol : others.length ≤ 6 := by simp at h4; omega
  by_cases hE : allE z keys frm upto = 0
  · obtain ⟨hok, ht⟩ := allE_zero hE
    obtain ⟨hlen, hw, -, hkeys⟩ := allOK_parts hok
    have hXv := signed_valid hok ht
    have hXf := signZ_fits hf (ordK keys) frm upto
    have hXz := signZ_lens hfz (ord := ordK keys) (by rw [ordK_len]; omega) frm upto
    have hXl := signZ_len z (ordK keys) frm upto
    have hXa : (signZ z (ordK keys) frm upto).apex = z.apex := rfl
    have hat := fun (i : Nat) (s : Signed) (o : Bool) (hs : z.sets[i]? = some s) (ho : (ownZ z)[i]? = some o) => signZ_at (ord := ordK keys) (frm := frm) (upto := upto) hs ho
    have hagain := all_yes hXf (allOK_again hok hXv) ht
    rw [signZ_again] at hagain
    have hall := all_yes hf hok ht
    have hother : ∀ (_ : allE z others frm upto = 0), ∃ y : Zone, PCalls E 13 [z.enc, .sl (others.map Key.enc), .int .i64 frm, .int .i64 upto] (· = .tup [y.enc, .int .i64 0]) ∧ PCalls E 13 [y.enc, .sl (keys.map Key.enc), .int .i64 frm, .int .i64 upto] (· = .tup [(signZ z (ordK keys) frm upto).enc, .int .i64 0]) := fun h => by
      obtain ⟨ho1, ho2⟩ := allE_zero h
      have := all_yes (signZ_fits hf (ordK others) frm upto) (allOK_again hok (signed_valid ho1 ho2)) ht
      rw [signZ_again] at this
      exact ⟨_, all_yes hf ho1 ho2, this⟩
    generalize signZ z (ordK keys) frm upto = X at *
    have hzv := zvalid_p X hXf
    rw [hXv] at hzv
    have hone := hz
    simp only [zoneR, Bool.and_eq_true] at hone
    obtain ⟨hzl, hzo, hza⟩ := oneB_sets hone.1
    have hnames : ∀ s ∈ z.sets, s.set.name.length ≤ 1000 := fun s hs => by have := ok1_name (hzo s hs); omega
    have hkol := ordK_len keys
    with_reducible refine callP_eq (hall) ?_
    conv => whnf
    refine AWL.run E_ok Tryz.func3 2000 ?_
    conv => whnf
    refine caseB_no rfl ?_
    conv => whnf
    refine AWL.run E_ok Tryz.func3 2000 ?_
    conv => whnf
    with_reducible refine callP_eq (rown_p z (by omega) hnames) ?_
    conv => whnf
    refine AWL.run E_ok Tryz.func3 2000 ?_
    conv => whnf
    with_reducible refine callP_eq (rsorted_p keys (by omega)) ?_
    conv => whnf
    refine AWL.run E_ok Tryz.func3 2000 ?_
    conv => whnf
    with_reducible refine callP_eq (hzv) ?_
    conv => whnf
    refine AWL.run E_ok Tryz.func3 2000 ?_
    conv => whnf
    refine caseB_no rfl ?_
    conv => whnf
    refine AWL.run E_ok Tryz.func3 2000 ?_
    conv => whnf
    refine caseB_no (by simp [hXa]) ?_
    conv => whnf
    refine AWL.run E_ok Tryz.func3 2000 ?_
    conv => whnf
    refine caseB_no (by simp [hXl]) ?_
    conv => whnf
    refine AWL.run E_ok Tryz.func3 2000 ?_
    conv => whnf
    refine AWL.loop (κ := Nat) [10, 11, 16, 17, 18, 19, 89, 90, 91, 92, 93, 94, 95, 96, 97, 98, 99, 100, 101, 102, 103, 104, 105, 106, 107, 108, 109, 110, 111, 112, 113, 114, 115, 116, 117, 118, 119, 120, 121, 122, 123, 124, 125, 126, 127, 128, 129, 130, 131, 132, 133, 134, 135, 136, 137, 138, 139, 140, 141, 142, 143, 144, 145, 146, 147, 148, 149, 150, 151, 152, 153, 154, 155, 156, 157, 158, 159, 160, 161] (fun k => [(89, .d (.int .i64 k)), (11, .d (.bool true))]) (fun _ => []) (fun k => k ≤ X.sets.length) (fun k => X.sets.length - k) 0 (Nat.zero_le _) ?_ ?_
    · conv => whnf
      repeat (first | exact trivial | (refine And.intro (by first | with_reducible rfl | exact congrArg (DV.int .i64) (by omega) | exact congrArg (DV.int .i64) (wrap64 (by omega) (by omega)) | exact congrArg (DV.int .i64) ((wrap64 (by omega) (by omega)).trans (by omega))) ?_; conv => whnf))
    intro i hi IH
    refine AWL.head E_ok Tryz.func3 2000 ?_
    conv => whnf
    refine caseB_split (fun h5 => ?_) (fun h5 => ?_)
    · have hlt : i < X.sets.length := by simpa using h5
      obtain ⟨s, hs⟩ := some_of_lt (l := z.sets) (k := i) (by omega)
      obtain ⟨o, ho⟩ := some_of_lt (l := ownZ z) (k := i) (by rw [ownZ_len]; omega)
      have hx := hat i s o hs ho
      have hsm := List.mem_of_getElem? hs
      have hfs : s.set.Fits := hf.sets s hsm
      have hdl := ((fewZ_each hfz).2 s hsm).1
      conv => whnf
      refine AWL.run E_ok Tryz.func3 2000 ?_
      conv => whnf
      refine elemP_at (at_map hx) rfl ?_
      conv => whnf
      refine AWL.run E_ok Tryz.func3 2000 ?_
      conv => whnf
      refine AWL.draw E_ok E_mixed 10 2000 (by kernel_rfl) ?_
      conv => whnf
      refine elemP_at (e := s.enc) (at_map hs) rfl ?_
      conv => whnf
      refine DWL.run E_ok 2000 ?_
      conv => whnf
      refine callP1_eq (rsame_p s.set s.set (by omega)) ?_
      conv => whnf
      refine DWL.run E_ok 2000 ?_
      conv => whnf
      conv => whnf
      refine SWL.run E_ok 2000 ?_
      conv => whnf
      conv => whnf
      refine AWL.run E_ok Tryz.func3 2000 ?_
      conv => whnf
      refine caseB_no (by simp) ?_
      conv => whnf
      refine AWL.run E_ok Tryz.func3 2000 ?_
      conv => whnf
      refine elemP_at (e := .bool o) (at_map ho) rfl ?_
      conv => whnf
      refine AWL.run E_ok Tryz.func3 2000 ?_
      conv => whnf
      cases o
      · refine caseB_yes rfl ?_
        conv => whnf
        refine AWL.run E_ok Tryz.func3 2000 ?_
        conv => whnf
        refine caseB_true ?_
        conv => whnf
        refine AWL.run E_ok Tryz.func3 2000 ?_
        conv => whnf
        refine AWL.back (IH (i + 1) (by omega) (by omega)) ?_
        conv => whnf
        repeat (first | exact trivial | (refine And.intro (by first | with_reducible rfl | exact congrArg (DV.int .i64) (by omega) | exact congrArg (DV.int .i64) (wrap64 (by omega) (by omega)) | exact congrArg (DV.int .i64) ((wrap64 (by omega) (by omega)).trans (by omega))) ?_; conv => whnf))
        refine And.intro (by simp) ?_
        conv => whnf
        repeat (first | exact trivial | (refine And.intro (by first | with_reducible rfl | exact congrArg (DV.int .i64) (by omega) | exact congrArg (DV.int .i64) (wrap64 (by omega) (by omega)) | exact congrArg (DV.int .i64) ((wrap64 (by omega) (by omega)).trans (by omega))) ?_; conv => whnf))
      · refine caseB_no rfl ?_
        conv => whnf
        refine AWL.run E_ok Tryz.func3 2000 ?_
        conv => whnf
        refine caseB_no (by simp [hkol]) ?_
        conv => whnf
        refine AWL.run E_ok Tryz.func3 2000 ?_
        conv => whnf
        refine AWL.loop (κ := Nat) [11, 18, 19, 125, 126, 127, 128, 129, 130, 131, 132, 133, 134, 135, 136, 137, 138, 139, 140, 141, 142, 143, 144, 145, 146, 147, 148, 149, 150, 151, 152, 153, 154, 155, 156, 157, 158, 159, 160] (fun k => [(125, .d (.int .i64 k)), (11, .d (.bool true))]) (fun _ => []) (fun k => k ≤ (ordK keys).length) (fun k => (ordK keys).length - k) 0 (Nat.zero_le _) ?_ ?_
        · conv => whnf
          repeat (first | exact trivial | (refine And.intro (by first | with_reducible rfl | exact congrArg (DV.int .i64) (by omega) | exact congrArg (DV.int .i64) (wrap64 (by omega) (by omega)) | exact congrArg (DV.int .i64) ((wrap64 (by omega) (by omega)).trans (by omega))) ?_; conv => whnf))
        intro n hn1 IH2
        refine AWL.head E_ok Tryz.func3 2000 ?_
        conv => whnf
        refine caseB_split (fun h6 => ?_) (fun h6 => ?_)
        · have hnt : n < (ordK keys).length := by simpa using h6
          obtain ⟨x, hxk⟩ := some_of_lt hnt
          have hko : keyOK x = true := List.all_eq_true.1 hkeys x (ordK_mem.1 (List.mem_of_getElem? hxk))
          have hso := signOK_zone hz hsm hko hw
          have hck := check_p s.set (sigOf s.set z.apex x frm upto) x hfs hf.apex
          rw [sigOf_check hso] at hck
          have hg : ((ordK keys).map fun k => sigOf s.set z.apex k frm upto)[n]? = some (sigOf s.set z.apex x frm upto) := by simp [hxk]
          conv => whnf
          refine AWL.run E_ok Tryz.func3 2000 ?_
          conv => whnf
          refine elemP_at (e := (sigOf s.set z.apex x frm upto).enc) (at_map hg) rfl ?_
          conv => whnf
          refine AWL.run E_ok Tryz.func3 2000 ?_
          conv => whnf
          refine AWL.draw E_ok E_mixed 31 2000 (by kernel_rfl) ?_
          conv => whnf
          refine caseB_true ?_
          conv => whnf
          refine DWL.run E_ok 2000 ?_
          conv => whnf
          refine elemP_at (e := x.enc) (at_map hxk) rfl ?_
          conv => whnf
          refine DWL.run E_ok 2000 ?_
          conv => whnf
          refine callP1_eq (hck) ?_
          conv => whnf
          refine DWL.run E_ok 2000 ?_
          conv => whnf
          refine caseB_true ?_
          conv => whnf
          refine DWL.run E_ok 2000 ?_
          conv => whnf
          refine caseB_yes (by simp [sigOf]) ?_
          conv => whnf
          refine DWL.run E_ok 2000 ?_
          conv => whnf
          refine caseB_yes (by simp [sigOf]) ?_
          conv => whnf
          refine DWL.run E_ok 2000 ?_
          conv => whnf
          conv => whnf
          refine SWL.run E_ok 2000 ?_
          conv => whnf
          conv => whnf
          refine AWL.run E_ok Tryz.func3 2000 ?_
          conv => whnf
          refine AWL.back (IH2 (n + 1) (by omega) (by omega)) ?_
          conv => whnf
          repeat (first | exact trivial | (refine And.intro (by first | with_reducible rfl | exact congrArg (DV.int .i64) (by omega) | exact congrArg (DV.int .i64) (wrap64 (by omega) (by omega)) | exact congrArg (DV.int .i64) ((wrap64 (by omega) (by omega)).trans (by omega))) ?_; conv => whnf))
          refine And.intro (by simp [sigOf, hXa]) ?_
          conv => whnf
          repeat (first | exact trivial | (refine And.intro (by first | with_reducible rfl | exact congrArg (DV.int .i64) (by omega) | exact congrArg (DV.int .i64) (wrap64 (by omega) (by omega)) | exact congrArg (DV.int .i64) ((wrap64 (by omega) (by omega)).trans (by omega))) ?_; conv => whnf))
        · conv => whnf
          refine AWL.run E_ok Tryz.func3 2000 ?_
          conv => whnf
          refine AWL.back (IH (i + 1) (by omega) (by omega)) ?_
          conv => whnf
          repeat (first | exact trivial | (refine And.intro (by first | with_reducible rfl | exact congrArg (DV.int .i64) (by omega) | exact congrArg (DV.int .i64) (wrap64 (by omega) (by omega)) | exact congrArg (DV.int .i64) ((wrap64 (by omega) (by omega)).trans (by omega))) ?_; conv => whnf))
    · have hge : X.sets.length ≤ i := by simpa using h5
      conv => whnf
      refine AWL.run E_ok Tryz.func3 2000 ?_
      conv => whnf
      with_reducible refine callP_eq (hagain) ?_
      conv => whnf
      refine AWL.run E_ok Tryz.func3 2000 ?_
      conv => whnf
      by_cases hO : allE z others frm upto = 0
      · obtain ⟨y, hy1, hy2⟩ := hother hO
        with_reducible refine callP_eq (hy1) ?_
        conv => whnf
        refine AWL.run E_ok Tryz.func3 2000 ?_
        conv => whnf
        refine caseB_yes rfl ?_
        conv => whnf
        refine AWL.run E_ok Tryz.func3 2000 ?_
        conv => whnf
        with_reducible refine callP_eq (hy2) ?_
        conv => whnf
        refine AWL.run E_ok Tryz.func3 2000 ?_
        conv => whnf
        refine caseB_true ?_
        conv => whnf
        refine AWL.run E_ok Tryz.func3 2000 ?_
        conv => whnf
        refine caseB_yes rfl ?_
        conv => whnf
        refine AWL.run E_ok Tryz.func3 2000 ?_
        conv => whnf
        with_reducible refine callP_eq (rsameZone_p X X hXz) ?_
        conv => whnf
        refine AWL.run E_ok Tryz.func3 2000 ?_
        conv => whnf
        refine caseB_yes (by simp) ?_
        conv => whnf
        refine AWL.run E_ok Tryz.func3 2000 ?_
        conv => whnf
        refine caseB_yes rfl ?_
        conv => whnf
        refine AWL.run E_ok Tryz.func3 2000 ?_
        conv => whnf
        with_reducible refine callP_eq (rsameZone_p X X hXz) ?_
        conv => whnf
        refine AWL.run E_ok Tryz.func3 2000 ?_
        conv => whnf
        simp
      · with_reducible refine callP_eq (all_none hf (by omega) hO) ?_
        conv => whnf
        refine AWL.run E_ok Tryz.func3 2000 ?_
        conv => whnf
        refine caseB_no (by simpa using hO) ?_
        conv => whnf
        refine AWL.run E_ok Tryz.func3 2000 ?_
        conv => whnf
        refine caseB_true ?_
        conv => whnf
        refine AWL.run E_ok Tryz.func3 2000 ?_
        conv => whnf
        refine caseB_yes rfl ?_
        conv => whnf
        refine AWL.run E_ok Tryz.func3 2000 ?_
        conv => whnf
        with_reducible refine callP_eq (rsameZone_p X X hXz) ?_
        conv => whnf
        refine AWL.run E_ok Tryz.func3 2000 ?_
        conv => whnf
        simp
  · with_reducible refine callP_eq (all_none hf (by omega) hE) ?_
    conv => whnf
    refine AWL.run E_ok Tryz.func3 2000 ?_
    conv => whnf
    refine caseB_yes (by simpa using hE) ?_
    conv => whnf
    refine AWL.run E_ok Tryz.func3 2000 ?_
    conv => whnf
    refine caseB_true ?_
    conv => whnf
    refine AWL.run E_ok Tryz.func3 2000 ?_
    conv => whnf
    first | rfl | simp

theorem zones_g (z : Zone) (keys : List Key) (frm upto : Int) (others : List Key) (g0 : z.Good) (_ : keys.length ≤ maxLen ∧ ∀ a ∈ keys, Key.Good a) (_ : I64 frm) (_ : I64 upto) (_ : others.length ≤ maxLen ∧ ∀ a ∈ others, Key.Good a) : PCalls E 3 [z.enc, .sl (keys.map Key.enc), .int .i64 frm, .int .i64 upto, .sl (others.map Key.enc)] (· = .bool true) :=
  zones_p z keys frm upto others g0.1 (fun s hs => (g0.2.2 s hs).1.1) (fun s hs d hd => ((g0.2.2 s hs).1.2.2.2.2 d hd).1)

end Go.Proofs.YtebielkakdhelaaGreatDoor.P
