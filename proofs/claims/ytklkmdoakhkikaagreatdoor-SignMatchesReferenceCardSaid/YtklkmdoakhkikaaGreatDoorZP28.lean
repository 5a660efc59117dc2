/- Contracts by the engine: the reference implementation of signed zones: All. Conditions: lengths that Go allows. -/
import Derived.Test.YtklkmdoakhkikaaGreatDoorZP27
set_option linter.unusedVariables false
set_option linter.unusedSimpArgs false
namespace Go.Proofs.YtklkmdoakhkikaaGreatDoor.P
open Go Go.Eng
set_option maxRecDepth 100000
set_option maxHeartbeats 4000000

/-- All numbers so far differ. -/
theorem nodup_next {keys : List Key} {i : Nat} {x : Key} (h : ((keys.take i).map (·.n)).Nodup) (hx : keys[i]? = some x) (hn : x.n ∉ (keys.take i).map (·.n)) : ((keys.take (i + 1)).map (·.n)).Nodup := by
  rw [take_next hx, List.map_append, List.nodup_append]
  refine ⟨h, by simp, fun a ha b hb e => ?_⟩
  simp at hb
  subst hb; subst e
  exact hn ha
theorem twice_of {keys : List Key} {i k : Nat} {x y : Key} (hx : keys[i]? = some x) (hy : keys[k]? = some y) (hki : k < i) (h : x.n = y.n) : twiceB keys = true := by
  have hn : ¬ (keys.map (·.n)).Nodup := fun hn => by
    have h1 : (keys.map (·.n))[i]? = some x.n := by simp [hx]
    have h2 : (keys.map (·.n))[k]? = some x.n := by simp [hy, h]
    obtain ⟨p1, e1⟩ := List.getElem?_eq_some_iff.1 h1
    obtain ⟨p2, e2⟩ := List.getElem?_eq_some_iff.1 h2
    exact List.pairwise_iff_getElem.1 (List.nodup_iff_pairwise_ne.1 hn) k i p2 p1 hki (e2.trans e1.symm)
  simp [twiceB, hn]

def allD (z : Zone) (keys : List Key) (frm upto : Int) : DV := if allOK z keys frm upto && !twiceB keys then .tup [(signZ z (ordK keys) frm upto).enc, .int .i64 0] else .tup [.agg [.str [], .nilsl], .int .i64 (if allOK z keys frm upto then 5 else 1)]
theorem allD_norm (z : Zone) (keys : List Key) (frm upto : Int) : norm (allD z keys frm upto) = .tup [(allZ z keys frm upto).enc, .int .i64 (allE z keys frm upto)] := by
  unfold allD allZ allE
  cases h1 : allOK z keys frm upto <;> cases h2 : twiceB keys <;> rfl

theorem rall_raw (z : Zone) (keys : List Key) (frm upto : Int) (hf : z.Fits) (hkl : keys.length ≤ 1000) : PCalls E 17 [z.enc, .sl (keys.map Key.enc), .int .i64 frm, .int .i64 upto] (· = allD z keys frm upto) := by
  have no : allOK z keys frm upto = false → allD z keys frm upto = .tup [.agg [.str [], .nilsl], .int .i64 1] := fun h => by simp [allD, h]
  refine PCalls.run E_ok (fn := Tryz.f17) Tryz.func17 (body := Tryz.f17.body.getD .skip) rfl (by decide) 2000 ?_
  conv => whnf
  repeat' (first | with_reducible refine callP_eq (rzone_p z hf) ?_ | with_reducible refine callP1_eq (rzone_p z hf) ?_ | with_reducible refine callP_eq (rwindow_p _ _) ?_ | with_reducible refine callP1_eq (rwindow_p _ _) ?_ | with_reducible refine caseB_true ?_ | with_reducible refine caseB_false ?_ | with_reducible refine caseB_yes (by decide) ?_ | with_reducible refine caseB_no (by decide) ?_ | with_reducible refine caseB_yes (by assumption) ?_ | with_reducible refine caseB_no (by assumption) ?_ | with_reducible refine caseB_split (fun _ => ?_) (fun _ => ?_) | ((conv => whnf); (with_reducible refine AWL.run E_ok Tryz.func17 2000 ?_); (conv => whnf); fail_if_success (with_reducible refine AWL.of ?_)) | ((conv => whnf); (with_reducible refine DWL.run E_ok 2000 ?_); (conv => whnf); fail_if_success (with_reducible refine DWL.is ?_)) | ((conv => whnf); (with_reducible refine SWL.run E_ok 2000 ?_); (conv => whnf); fail_if_success (with_reducible refine SWL.is ?_)))
  all_goals try (rw [no (by simp_all [allOK] <;> omega)]; done)
  rename_i h1 h2 h3 h4
  have hlen : 1 ≤ keys.length ∧ keys.length ≤ 6 := by simp at h3 h4; omega
  have hz : zoneR z = true := by simpa using h1
  have hw : winOK frm upto = true := by simpa using h2
  conv => whnf
  refine AWL.run E_ok Tryz.func17 2000 ?_
  conv => whnf
  refine AWL.loop (κ := Nat) [9, 10, 41, 42, 43, 44, 45, 46, 47, 48, 49, 50, 51, 52, 53] (fun k => [(10, .d (.int .i64 k)), (9, .d (.int .i64 0))]) (fun _ => []) (fun k => k ≤ keys.length ∧ (keys.take k).all keyOK = true) (fun k => keys.length - k) 0 ⟨Nat.zero_le _, rfl⟩ ?_ ?_
  · conv => whnf
    repeat (first | exact trivial | (refine And.intro (by first | with_reducible rfl | exact congrArg (DV.int .i64) (by omega) | exact congrArg (DV.int .i64) (wrap64 (by omega) (by omega)) | exact congrArg (DV.int .i64) ((wrap64 (by omega) (by omega)).trans (by omega))) ?_; conv => whnf))
  rintro k ⟨hk, hall⟩ IH
  refine AWL.head E_ok Tryz.func17 2000 ?_
  conv => whnf
  refine caseB_split (fun h5 => ?_) (fun h5 => ?_)
  · have hlt : k < keys.length := by simpa using h5
    obtain ⟨x, hx⟩ := some_of_lt hlt
    conv => whnf
    refine AWL.run E_ok Tryz.func17 2000 ?_
    conv => whnf
    refine elemP_at (e := x.enc) (at_map hx) rfl ?_
    conv => whnf
    refine AWL.run E_ok Tryz.func17 2000 ?_
    conv => whnf
    with_reducible refine callP_eq (rkey_p x) ?_
    conv => whnf
    refine AWL.run E_ok Tryz.func17 2000 ?_
    conv => whnf
    refine caseB_split (fun h6 => ?_) (fun h6 => ?_)
    · conv => whnf
      refine AWL.run E_ok Tryz.func17 2000 ?_
      conv => whnf
      rw [no (by simp [allOK, all_no hx (by simpa using h6)])]
    · conv => whnf
      refine AWL.run E_ok Tryz.func17 2000 ?_
      conv => whnf
      refine AWL.back (IH (k + 1) ⟨by omega, all_next hall hx (by simpa using h6)⟩ (by omega)) ?_
      conv => whnf
      repeat (first | exact trivial | (refine And.intro (by first | with_reducible rfl | exact congrArg (DV.int .i64) (by omega) | exact congrArg (DV.int .i64) (wrap64 (by omega) (by omega)) | exact congrArg (DV.int .i64) ((wrap64 (by omega) (by omega)).trans (by omega))) ?_; conv => whnf))
  have hkeys : keys.all keyOK = true := all_end hall (by simpa using h5)
  have hok : allOK z keys frm upto = true := by simp [allOK, hlen.1, hlen.2, hw, hz, hkeys]
  clear IH hall
  conv => whnf
  refine AWL.run E_ok Tryz.func17 2000 ?_
  conv => whnf
  refine AWL.loop (κ := Nat) [9, 11, 12, 54, 55, 56, 57, 58, 59, 60, 61, 62, 63, 64, 65, 66, 67, 68, 69, 70, 71, 72, 73, 74, 75, 76] (fun k => [(11, .d (.int .i64 k)), (9, .d (.int .i64 0))]) (fun _ => []) (fun i => i ≤ keys.length ∧ ((keys.take i).map (·.n)).Nodup) (fun k => keys.length - k) 0 ⟨Nat.zero_le _, by simp⟩ ?_ ?_
  · conv => whnf
    repeat (first | exact trivial | (refine And.intro (by first | with_reducible rfl | exact congrArg (DV.int .i64) (by omega) | exact congrArg (DV.int .i64) (wrap64 (by omega) (by omega)) | exact congrArg (DV.int .i64) ((wrap64 (by omega) (by omega)).trans (by omega))) ?_; conv => whnf))
  rintro i ⟨hi, hnd⟩ IH
  refine AWL.head E_ok Tryz.func17 2000 ?_
  conv => whnf
  refine caseB_split (fun h7 => ?_) (fun h7 => ?_)
  · have hlt : i < keys.length := by simpa using h7
    obtain ⟨x, hx⟩ := some_of_lt hlt
    conv => whnf
    refine AWL.run E_ok Tryz.func17 2000 ?_
    conv => whnf
    refine AWL.loop (κ := Nat) [9, 12, 60, 61, 62, 63, 64, 65, 66, 67, 68, 69, 70, 71, 72, 73, 74, 75, 76] (fun k => [(12, .d (.int .i64 k)), (9, .d (.int .i64 0))]) (fun _ => []) (fun k => k ≤ i ∧ x.n ∉ (keys.take k).map (·.n)) (fun k => i - k) 0 ⟨Nat.zero_le _, by simp⟩ ?_ ?_
    · conv => whnf
      repeat (first | exact trivial | (refine And.intro (by first | with_reducible rfl | exact congrArg (DV.int .i64) (by omega) | exact congrArg (DV.int .i64) (wrap64 (by omega) (by omega)) | exact congrArg (DV.int .i64) ((wrap64 (by omega) (by omega)).trans (by omega))) ?_; conv => whnf))
    rintro k ⟨hk, hnk⟩ IH2
    refine AWL.head E_ok Tryz.func17 2000 ?_
    conv => whnf
    refine caseB_split (fun h8 => ?_) (fun h8 => ?_)
    · have hki : k < i := by simpa using h8
      obtain ⟨y, hy⟩ := some_of_lt (l := keys) (k := k) (by omega)
      conv => whnf
      refine AWL.run E_ok Tryz.func17 2000 ?_
      conv => whnf
      refine AWL.draw E_ok E_mixed 11 2000 (by kernel_rfl) ?_
      conv => whnf
      refine elemP_at (e := x.enc) (at_map hx) rfl ?_
      conv => whnf
      refine DWL.run E_ok 2000 ?_
      conv => whnf
      refine elemP_at (e := y.enc) (at_map hy) rfl ?_
      conv => whnf
      refine DWL.run E_ok 2000 ?_
      conv => whnf
      conv => whnf
      refine SWL.run E_ok 2000 ?_
      conv => whnf
      conv => whnf
      refine AWL.run E_ok Tryz.func17 2000 ?_
      conv => whnf
      refine caseB_split (fun h9 => ?_) (fun h9 => ?_)
      · conv => whnf
        refine AWL.run E_ok Tryz.func17 2000 ?_
        conv => whnf
        have ht : twiceB keys = true := twice_of hx hy hki (by simpa using h9)
        simp [allD, hok, ht]
      · conv => whnf
        refine AWL.run E_ok Tryz.func17 2000 ?_
        conv => whnf
        refine AWL.back (IH2 (k + 1) ⟨by omega, by rw [take_next hy]; simp at hnk h9 ⊢; exact ⟨hnk, h9⟩⟩ (by omega)) ?_
        conv => whnf
        repeat (first | exact trivial | (refine And.intro (by first | with_reducible rfl | exact congrArg (DV.int .i64) (by omega) | exact congrArg (DV.int .i64) (wrap64 (by omega) (by omega)) | exact congrArg (DV.int .i64) ((wrap64 (by omega) (by omega)).trans (by omega))) ?_; conv => whnf))
    · have hki : k = i := by simp at h8; omega
      subst hki
      conv => whnf
      refine AWL.run E_ok Tryz.func17 2000 ?_
      conv => whnf
      refine AWL.back (IH (k + 1) ⟨by omega, nodup_next hnd hx hnk⟩ (by omega)) ?_
      conv => whnf
      repeat (first | exact trivial | (refine And.intro (by first | with_reducible rfl | exact congrArg (DV.int .i64) (by omega) | exact congrArg (DV.int .i64) (wrap64 (by omega) (by omega)) | exact congrArg (DV.int .i64) ((wrap64 (by omega) (by omega)).trans (by omega))) ?_; conv => whnf))
  have ht : twiceB keys = false := by
    have : keys.length ≤ i := by simpa using h7
    rw [List.take_of_length_le this] at hnd
    simp [twiceB, hnd]
  have hres : allD z keys frm upto = .tup [(signZ z (ordK keys) frm upto).enc, .int .i64 0] := by simp [allD, hok, ht]
  rw [hres]
  have hone := hz
  simp only [zoneR, Bool.and_eq_true] at hone
  obtain ⟨hzl, hzo, hza⟩ := oneB_sets hone.1
  have hnames : ∀ s ∈ z.sets, s.set.name.length ≤ 1000 := fun s hs => by have := ok1_name (hzo s hs); omega
  conv => whnf
  refine AWL.run E_ok Tryz.func17 2000 ?_
  conv => whnf
  with_reducible refine callP_eq (rsorted_p keys hkl) ?_
  conv => whnf
  refine AWL.run E_ok Tryz.func17 2000 ?_
  conv => whnf
  with_reducible refine callP_eq (rown_p z (by omega) hnames) ?_
  conv => whnf
  refine AWL.run E_ok Tryz.func17 2000 ?_
  conv => whnf
  refine AWL.adoptCell 2 1 (52, 5) (by decide) rfl rfl ?_
  conv => whnf
  have hsl := signZ_len z (ordK keys) frm upto
  have hol := ordK_len keys
  conv => whnf
  refine AWL.run E_ok Tryz.func17 2000 ?_
  conv => whnf
  refine AWL.loop (κ := Nat) [16, 17, 18, 19, 20, 84, 85, 86, 87, 88, 89, 90, 91, 92, 93, 94, 95, 96, 97, 98, 99, 100, 101, 102, 103, 104, 105, 106, 107, 108, 109, 110, 111, 112, 113, 114, 115, 116, 117, 118, 119, 120, 121, 122, 123, 124, 125, 126, 127, 128, 129, 130, 131, 132, 133] (fun k => [(16, .d (.int .i64 k))]) (fun k => [(2, .cells [.d (.str z.apex), .own 3 1]), (3, .arr 1 (52, 5) (((signZ z (ordK keys) frm upto).sets.take k).map Signed.enc))]) (fun k => k ≤ z.sets.length) (fun k => z.sets.length - k) 0 (Nat.zero_le _) ?_ ?_
  · conv => whnf
    repeat (first | exact trivial | (refine And.intro (by first | with_reducible rfl | exact congrArg (DV.int .i64) (by omega) | exact congrArg (DV.int .i64) (wrap64 (by omega) (by omega)) | exact congrArg (DV.int .i64) ((wrap64 (by omega) (by omega)).trans (by omega))) ?_; conv => whnf))
    refine And.intro (by simp) ?_
    conv => whnf
    repeat (first | exact trivial | (refine And.intro (by first | with_reducible rfl | exact congrArg (DV.int .i64) (by omega) | exact congrArg (DV.int .i64) (wrap64 (by omega) (by omega)) | exact congrArg (DV.int .i64) ((wrap64 (by omega) (by omega)).trans (by omega))) ?_; conv => whnf))
  intro i hi IH
  refine AWL.head E_ok Tryz.func17 2000 ?_
  conv => whnf
  refine caseB_split (fun h9 => ?_) (fun h9 => ?_)
  · have hlt : i < z.sets.length := by simpa using h9
    obtain ⟨s, hs⟩ := some_of_lt hlt
    obtain ⟨o, ho⟩ := some_of_lt (l := ownZ z) (k := i) (by rw [ownZ_len]; exact hlt)
    have hnext := signZ_at (ord := ordK keys) (frm := frm) (upto := upto) hs ho
    have hfs : s.set.Fits := hf.sets s (List.mem_of_getElem? hs)
    conv => whnf
    refine AWL.run E_ok Tryz.func17 2000 ?_
    conv => whnf
    refine elemP_at (e := s.enc) (at_map hs) rfl ?_
    conv => whnf
    refine AWL.run E_ok Tryz.func17 2000 ?_
    conv => whnf
    refine elemP_at (e := .bool o) (at_map ho) rfl ?_
    refine AWL.adoptCell 4 4 (29, 6) (by decide) rfl rfl ?_
    conv => whnf
    conv => whnf
    refine AWL.run E_ok Tryz.func17 2000 ?_
    conv => whnf
    cases o
    · refine caseB_false ?_
      refine AWL.freeze 5 ?_
      conv => whnf
      conv => whnf
      refine AWL.run E_ok Tryz.func17 2000 ?_
      conv => whnf
      refine need_intro ⟨by simp; omega, by simp [DV.cells]⟩ ?_
      conv => whnf
      refine AWL.run E_ok Tryz.func17 2000 ?_
      conv => whnf
      refine AWL.back (IH (i + 1) (by omega) (by omega)) ?_
      conv => whnf
      repeat (first | exact trivial | (refine And.intro (by first | with_reducible rfl | exact congrArg (DV.int .i64) (by omega) | exact congrArg (DV.int .i64) (wrap64 (by omega) (by omega)) | exact congrArg (DV.int .i64) ((wrap64 (by omega) (by omega)).trans (by omega))) ?_; conv => whnf))
      refine And.intro (by rw [take_next hnext]; simp) ?_
      conv => whnf
      repeat (first | exact trivial | (refine And.intro (by first | with_reducible rfl | exact congrArg (DV.int .i64) (by omega) | exact congrArg (DV.int .i64) (wrap64 (by omega) (by omega)) | exact congrArg (DV.int .i64) ((wrap64 (by omega) (by omega)).trans (by omega))) ?_; conv => whnf))
    · refine caseB_true ?_
      conv => whnf
      refine AWL.run E_ok Tryz.func17 2000 ?_
      conv => whnf
      refine AWL.loop (κ := Nat) [18, 19, 20, 102, 103, 104, 105, 106, 107, 108, 109, 110, 111, 112, 113, 114, 115, 116, 117, 118, 119, 120, 121, 122, 123, 124, 125, 126, 127] (fun k => [(18, .d (.int .i64 k))]) (fun k => [(4, .cells [.d (.str s.set.name), .d (.int .i64 s.set.type), .d (.int .i64 s.set.life), .d (encData s.set.data), .own 5 1]), (5, .arr 1 (29, 6) ((((ordK keys).take k).map (fun k => sigOf s.set z.apex k frm upto)).map Sig.enc))]) (fun k => k ≤ (ordK keys).length) (fun k => (ordK keys).length - k) 0 (Nat.zero_le _) ?_ ?_
      · conv => whnf
        repeat (first | exact trivial | (refine And.intro (by first | with_reducible rfl | exact congrArg (DV.int .i64) (by omega) | exact congrArg (DV.int .i64) (wrap64 (by omega) (by omega)) | exact congrArg (DV.int .i64) ((wrap64 (by omega) (by omega)).trans (by omega))) ?_; conv => whnf))
        refine And.intro (by simp) ?_
        conv => whnf
        repeat (first | exact trivial | (refine And.intro (by first | with_reducible rfl | exact congrArg (DV.int .i64) (by omega) | exact congrArg (DV.int .i64) (wrap64 (by omega) (by omega)) | exact congrArg (DV.int .i64) ((wrap64 (by omega) (by omega)).trans (by omega))) ?_; conv => whnf))
      intro k hk IH2
      refine AWL.head E_ok Tryz.func17 2000 ?_
      conv => whnf
      refine caseB_split (fun h10 => ?_) (fun h10 => ?_)
      · have hkt : k < (ordK keys).length := by simpa using h10
        obtain ⟨x, hx⟩ := some_of_lt hkt
        have hxk : keyOK x = true := List.all_eq_true.1 hkeys x (ordK_mem.1 (List.mem_of_getElem? hx))
        have hso := signOK_zone hz (List.mem_of_getElem? hs) hxk hw
        have hsign := rsign_p s.set z.apex x frm upto hfs hf.apex
        simp only [signR, signE, hso, if_true] at hsign
        conv => whnf
        refine AWL.run E_ok Tryz.func17 2000 ?_
        conv => whnf
        refine AWL.drawA E_ok E_mixed 14 2000 (by kernel_rfl) ?_
        conv => whnf
        refine elemP_at (e := x.enc) (at_map hx) rfl ?_
        conv => whnf
        refine DWL.run E_ok 2000 ?_
        conv => whnf
        refine callP1_eq (hsign) ?_
        conv => whnf
        refine DWL.run E_ok 2000 ?_
        conv => whnf
        conv => whnf
        refine SWL.run E_ok 2000 ?_
        conv => whnf
        conv => whnf
        refine AWL.run E_ok Tryz.func17 2000 ?_
        conv => whnf
        refine need_intro ⟨by simp; omega, by simp [DV.cells]⟩ ?_
        conv => whnf
        refine AWL.run E_ok Tryz.func17 2000 ?_
        conv => whnf
        refine AWL.back (IH2 (k + 1) (by omega) (by omega)) ?_
        conv => whnf
        repeat (first | exact trivial | (refine And.intro (by first | with_reducible rfl | exact congrArg (DV.int .i64) (by omega) | exact congrArg (DV.int .i64) (wrap64 (by omega) (by omega)) | exact congrArg (DV.int .i64) ((wrap64 (by omega) (by omega)).trans (by omega))) ?_; conv => whnf))
        refine And.intro (by rw [take_next hx]; simp [sigOf]) ?_
        conv => whnf
        repeat (first | exact trivial | (refine And.intro (by first | with_reducible rfl | exact congrArg (DV.int .i64) (by omega) | exact congrArg (DV.int .i64) (wrap64 (by omega) (by omega)) | exact congrArg (DV.int .i64) ((wrap64 (by omega) (by omega)).trans (by omega))) ?_; conv => whnf))
      · have hke : (ordK keys).length ≤ k := by simpa using h10
        rw [List.take_of_length_le hke]
        conv => whnf
        refine AWL.run E_ok Tryz.func17 2000 ?_
        conv => whnf
        refine AWL.freeze 5 ?_
        conv => whnf
        conv => whnf
        refine AWL.run E_ok Tryz.func17 2000 ?_
        conv => whnf
        refine need_intro ⟨by simp; omega, by simp [DV.cells]⟩ ?_
        conv => whnf
        refine AWL.run E_ok Tryz.func17 2000 ?_
        conv => whnf
        refine AWL.back (IH (i + 1) (by omega) (by omega)) ?_
        conv => whnf
        repeat (first | exact trivial | (refine And.intro (by first | with_reducible rfl | exact congrArg (DV.int .i64) (by omega) | exact congrArg (DV.int .i64) (wrap64 (by omega) (by omega)) | exact congrArg (DV.int .i64) ((wrap64 (by omega) (by omega)).trans (by omega))) ?_; conv => whnf))
        refine And.intro (by rw [take_next hnext]; simp) ?_
        conv => whnf
        repeat (first | exact trivial | (refine And.intro (by first | with_reducible rfl | exact congrArg (DV.int .i64) (by omega) | exact congrArg (DV.int .i64) (wrap64 (by omega) (by omega)) | exact congrArg (DV.int .i64) ((wrap64 (by omega) (by omega)).trans (by omega))) ?_; conv => whnf))
  · have hge : z.sets.length ≤ i := by simpa using h9
    rw [List.take_of_length_le (by rw [hsl]; exact hge)]
    conv => whnf
    refine AWL.run E_ok Tryz.func17 2000 ?_
    conv => whnf
    rfl
theorem rall_p (z : Zone) (keys : List Key) (frm upto : Int) (hf : z.Fits) (hkl : keys.length ≤ 1000) : PCalls E 17 [z.enc, .sl (keys.map Key.enc), .int .i64 frm, .int .i64 upto] (· = .tup [(allZ z keys frm upto).enc, .int .i64 (allE z keys frm upto)]) :=
  .norm ((rall_raw z keys frm upto hf hkl).mono fun r e => by subst e; exact allD_norm z keys frm upto)

end Go.Proofs.YtklkmdoakhkikaaGreatDoor.P
