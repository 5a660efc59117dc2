/- The law SignMatchesReference by the engine: the walk. Conditions: what Go allows of the arguments. -/
import Derived.Test.YtklkmdoakhkikaaGreatDoorZP30
import Derived.Test.YtklkmdoakhkikaaGreatDoorZM7
set_option linter.unusedVariables false
set_option linter.unusedSimpArgs false
namespace Go.Proofs.YtklkmdoakhkikaaGreatDoor.P
open Go Go.Eng
set_option maxRecDepth 100000
set_option maxHeartbeats 4000000

theorem fewZ_each {z : Zone} (h : fewZ z = true) : z.sets.length ≤ 100 ∧ ∀ s ∈ z.sets, s.set.data.length ≤ 20 ∧ s.sigs.length ≤ 20 := by
  simp only [fewZ, Bool.and_eq_true, decide_eq_true_eq] at h
  obtain ⟨h1, h2⟩ := h
  rw [List.take_of_length_le (by omega)] at h1
  refine ⟨by omega, fun s hs => ?_⟩
  have := List.all_eq_true.1 h1 s hs
  simp [few1] at this
  omega
theorem fewZ_fits {z : Zone} (h : fewZ z = true) (ha : z.apex.length ≤ maxLen) (hn : ∀ s ∈ z.sets, s.set.name.length ≤ maxLen) (ht : ∀ s ∈ z.sets, ∀ d ∈ s.set.data, d.text.length ≤ maxLen) : z.Fits :=
  ⟨ha, fun s hs => ⟨hn s hs, by have := ((fewZ_each h).2 s hs).1; omega, ht s hs⟩⟩
theorem signZ_mem {z : Zone} {ord : List Key} {frm upto : Int} {s' : Signed} (h : s' ∈ (signZ z ord frm upto).sets) : ∃ s ∈ z.sets, s'.set = s.set ∧ s'.sigs.length ≤ ord.length := by
  obtain ⟨i, hi⟩ := List.getElem?_of_mem h
  have hl := lt_of_getElem? hi
  rw [signZ_len] at hl
  obtain ⟨s, hs⟩ := some_of_lt hl
  obtain ⟨o, ho⟩ := some_of_lt (l := ownZ z) (k := i) (by rw [ownZ_len]; exact hl)
  rw [signZ_at hs ho] at hi
  cases hi
  refine ⟨s, List.mem_of_getElem? hs, rfl, ?_⟩
  cases o <;> simp
theorem signZ_lens {z : Zone} (h : fewZ z = true) {ord : List Key} (ho : ord.length ≤ 10) (frm upto : Int) : (signZ z ord frm upto).Lens := by
  obtain ⟨h1, h2⟩ := fewZ_each h
  refine ⟨by rw [signZ_len]; omega, fun s' hs' => ?_⟩
  obtain ⟨s, hs, e1, e2⟩ := signZ_mem hs'
  have := h2 s hs
  exact ⟨by rw [e1]; omega, by omega⟩
theorem allZ_lens {z : Zone} (h : fewZ z = true) {keys : List Key} (hk : keys.length ≤ 10) (frm upto : Int) : (allZ z keys frm upto).Lens := by
  unfold allZ
  split
  · exact signZ_lens h (by rw [ordK_len]; exact hk) frm upto
  · exact ⟨by simp, fun s hs => by simp at hs⟩
theorem bytes_ok {b : List Int} : ∀ x ∈ b.map (DV.int .u8), isByte x := fun x hx => by
  obtain ⟨n, -, rfl⟩ := List.mem_map.1 hx
  exact ⟨n, rfl⟩

theorem matches_p (s : RSet) (apex : Text) (k : Key) (g : Sig) (z : Zone) (keys : List Key) (b : List Int) (ht : ∀ d ∈ s.data, d.text.length ≤ maxLen) (hz : apex.length ≤ maxLen) (hg : g.zone.length ≤ maxLen) (ha : z.apex.length ≤ maxLen) (hn : ∀ s ∈ z.sets, s.set.name.length ≤ maxLen) (hzt : ∀ s ∈ z.sets, ∀ d ∈ s.set.data, d.text.length ≤ maxLen) : PCalls E 3 [s.enc, .str apex, k.enc, g.enc, z.enc, .sl (keys.map Key.enc), .sl (b.map (.int .u8))] (· = .bool true) := by
  refine PCalls.run E_ok (fn := Tryz.f3) Tryz.func3 (body := Tryz.f3.body.getD .skip) rfl (by decide) 2000 ?_
  conv => whnf
  repeat' (first | with_reducible refine callP_eq (head08_p) ?_ | with_reducible refine callP1_eq (head08_p) ?_ | with_reducible refine callP_eq (few_p s) ?_ | with_reducible refine callP1_eq (few_p s) ?_ | with_reducible refine callP_eq (rfewZ_p z) ?_ | with_reducible refine callP1_eq (rfewZ_p z) ?_ | with_reducible refine caseB_true ?_ | with_reducible refine caseB_false ?_ | with_reducible refine caseB_yes (by decide) ?_ | with_reducible refine caseB_no (by decide) ?_ | with_reducible refine caseB_yes (by assumption) ?_ | with_reducible refine caseB_no (by assumption) ?_ | with_reducible refine caseB_split (fun _ => ?_) (fun _ => ?_) | ((conv => whnf); (with_reducible refine AWL.run E_ok Tryz.func3 2000 ?_); (conv => whnf); fail_if_success (with_reducible refine AWL.of ?_)) | ((conv => whnf); (with_reducible refine DWL.run E_ok 2000 ?_); (conv => whnf); fail_if_success (with_reducible refine DWL.is ?_)) | ((conv => whnf); (with_reducible refine SWL.run E_ok 2000 ?_); (conv => whnf); fail_if_success (with_reducible refine SWL.is ?_)))
  all_goals try (rfl; done)
  rename_i h1 h2 h3 h4 h5
  have hfew : fewS s = true := by simpa using h1
  have hfz : fewZ z = true := by simpa using h3
  have hkl : keys.length ≤ 10 := by simp at h4; omega
  have hbl : (b.map (DV.int .u8)).length ≤ 2147483648 := by simp at h5; simp; omega
  have hf := fewS_fits hfew ht
  have hzf := fewZ_fits hfz ha hn hzt
  with_reducible refine callP_eq (sign_p s apex k g.frm g.upto hf hz) ?_
  conv => whnf
  refine AWL.run E_ok Tryz.func3 2000 ?_
  conv => whnf
  with_reducible refine callP_eq (rsign_p s apex k g.frm g.upto hf hz) ?_
  conv => whnf
  refine AWL.run E_ok Tryz.func3 2000 ?_
  conv => whnf
  with_reducible refine callP_eq (all_p z keys g.frm g.upto hzf (by omega)) ?_
  conv => whnf
  refine AWL.run E_ok Tryz.func3 2000 ?_
  conv => whnf
  with_reducible refine callP_eq (rall_p z keys g.frm g.upto hzf (by omega)) ?_
  conv => whnf
  refine AWL.run E_ok Tryz.func3 2000 ?_
  conv => whnf
  refine AWL.draw E_ok E_mixed 40 2000 (by kernel_rfl) ?_
  conv => whnf
  refine caseB_true ?_
  conv => whnf
  refine DWL.run E_ok 2000 ?_
  conv => whnf
  refine caseB_yes (by simp) ?_
  conv => whnf
  refine DWL.run E_ok 2000 ?_
  conv => whnf
  refine caseB_yes (by simp) ?_
  conv => whnf
  refine DWL.run E_ok 2000 ?_
  conv => whnf
  refine callP1_eq (rsameZone_p (allZ z keys g.frm g.upto) (allZ z keys g.frm g.upto) (allZ_lens hfz hkl g.frm g.upto)) ?_
  conv => whnf
  refine DWL.run E_ok 2000 ?_
  conv => whnf
  refine caseB_yes (by simp) ?_
  conv => whnf
  refine DWL.run E_ok 2000 ?_
  conv => whnf
  refine caseB_yes (by simp) ?_
  conv => whnf
  refine DWL.run E_ok 2000 ?_
  conv => whnf
  refine callP1_eq (check_p s g k hf hg) ?_
  conv => whnf
  refine DWL.run E_ok 2000 ?_
  conv => whnf
  refine callP1_eq (rcheck_p s g k hf hg) ?_
  conv => whnf
  refine DWL.run E_ok 2000 ?_
  conv => whnf
  refine caseB_yes (by simp) ?_
  conv => whnf
  refine DWL.run E_ok 2000 ?_
  conv => whnf
  refine callP1_eq (digest_p (b.map (.int .u8)) hbl bytes_ok) ?_
  conv => whnf
  refine DWL.run E_ok 2000 ?_
  conv => whnf
  refine callP1_eq (rdigest_p (b.map (.int .u8)) hbl bytes_ok) ?_
  conv => whnf
  refine DWL.run E_ok 2000 ?_
  conv => whnf
  conv => whnf
  refine SWL.run E_ok 2000 ?_
  conv => whnf
  conv => whnf
  refine AWL.run E_ok Tryz.func3 2000 ?_
  conv => whnf
  simp

theorem matches_g (s : RSet) (apex : Text) (k : Key) (g : Sig) (z : Zone) (keys : List Key) (b : List Int) (g0 : s.Good) (g1 : apex.length ≤ maxLen) (_ : k.Good) (g3 : g.Good) (g4 : z.Good) (_ : keys.length ≤ maxLen ∧ ∀ a ∈ keys, Key.Good a) (_ : b.length ≤ maxLen ∧ ∀ a ∈ b, U8 a) : PCalls E 3 [s.enc, .str apex, k.enc, g.enc, z.enc, .sl (keys.map Key.enc), .sl (b.map (.int .u8))] (· = .bool true) :=
  matches_p s apex k g z keys b (fun d hd => (g0.2.2.2.2 d hd).1) g1 g3.1 g4.1 (fun s hs => (g4.2.2 s hs).1.1) (fun s hs d hd => ((g4.2.2 s hs).1.2.2.2.2 d hd).1)

end Go.Proofs.YtklkmdoakhkikaaGreatDoor.P
