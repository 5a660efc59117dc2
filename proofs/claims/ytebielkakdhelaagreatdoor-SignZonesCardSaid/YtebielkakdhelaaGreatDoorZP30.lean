/- Contracts by the engine: package sign: signed zones. Conditions: lengths that Go allows. -/
import Derived.Test.YtebielkakdhelaaGreatDoorZP29
import Derived.Test.YtebielkakdhelaaGreatDoorZSrtK
import Derived.Test.YtebielkakdhelaaGreatDoorZEngT
set_option linter.unusedVariables false
set_option linter.unusedSimpArgs false
namespace Go.Proofs.YtebielkakdhelaaGreatDoor.P
open Go Go.Eng
set_option maxRecDepth 100000
set_option maxHeartbeats 4000000

theorem ev_slot {G : List (Nat × DV)} {s : List AV} {i : Nat} {v : AV} (h : s[i]? = some v) : EvOK G s (.tmp i) v := fun c a _ hs => by
  have hl : i < a.tmps.size := by rw [← hs.1]; exact lt_of_getElem? h
  have : a.eval (.tmp i) = a.tmps[i] := by simp [Act.eval, hl]
  rw [this]
  exact hs.2 i v _ h (by simp [hl])

theorem cloneData_p (l : List Datum) (h : l ≠ []) (hl : l.length ≤ 1000000) : PCalls E 58 [encData l] (· = encData l) := by
  refine PCalls.run E_ok (fn := Tryz.f58) Tryz.func58 (body := Tryz.f58.body.getD .skip) rfl (by decide) 2000 ?_
  conv => whnf
  refine AWL.nilTest E_ok rfl rfl rfl rfl (ev_slot rfl) (fun b hb => ?_)
  obtain rfl : b = false := by
    cases b
    · rfl
    · exact absurd (List.map_eq_nil_iff.1 (hb rfl)) h
  conv => whnf
  refine AWL.run E_ok Tryz.func58 2000 ?_
  conv => whnf
  refine caseB_false ?_
  conv => whnf
  refine AWL.run E_ok Tryz.func58 2000 ?_
  conv => whnf
  refine need_intro ⟨by simp; omega, by simp [DV.cells]⟩ ?_
  conv => whnf
  refine AWL.run E_ok Tryz.func58 2000 ?_
  conv => whnf
  simp

theorem notin_sorted {ks : List Key} {i : Nat} {x q : Key} (hs : ks.Pairwise (fun a b => a.n ≤ b.n)) (hx : ks[i]? = some x) (h0 : 0 < i) (hq : ks[i - 1]? = some q) (hne : q.n ≠ x.n) : x.n ∉ (ks.take i).map (·.n) := by
  intro hm
  obtain ⟨y, hy, e⟩ := List.mem_map.1 hm
  obtain ⟨j, hj⟩ := List.getElem?_of_mem hy
  rw [List.getElem?_take] at hj
  split at hj
  · rename_i hji
    obtain ⟨p1, e1⟩ := List.getElem?_eq_some_iff.1 hx
    obtain ⟨p2, e2⟩ := List.getElem?_eq_some_iff.1 hq
    obtain ⟨p3, e3⟩ := List.getElem?_eq_some_iff.1 hj
    have h1 := List.pairwise_iff_getElem.1 hs (i - 1) i p2 p1 (by omega)
    rw [e1, e2] at h1
    by_cases hj1 : j = i - 1
    · subst hj1
      rw [e2] at e3
      subst e3
      exact hne e
    · have h2 := List.pairwise_iff_getElem.1 hs j (i - 1) p3 p2 (by omega)
      rw [e2, e3] at h2
      omega
  · cases hj
theorem ordK_uniq {keys ks : List Key} (hp : ks.Perm keys) (hs : ks.Pairwise (fun a b => a.n ≤ b.n)) (ht : twiceB keys = false) : ks = ordK keys := by
  have h2 : (ks.map (·.n)).Nodup := (hp.map (·.n)).nodup_iff.2 (by simpa [twiceB] using ht)
  have h3 : ks.Pairwise (fun a b => a.n ≠ b.n) := by
    rw [List.nodup_iff_pairwise_ne, List.pairwise_map] at h2
    exact h2
  have h4 : ks.Pairwise (fun a b => a.n < b.n) := (List.Pairwise.and hs h3).imp (fun {a b} h => by omega)
  exact List.Perm.eq_of_pairwise (fun a b _ _ h1 h2 => by omega) h4 (ordK_lt ht) (hp.trans (sortL_perm (fun k : Key => k.n) keys).symm)
theorem twiceB_perm {keys ks : List Key} (hp : ks.Perm keys) : twiceB ks = twiceB keys := by
  have := (hp.map (·.n)).nodup_iff
  simp only [twiceB, this]

theorem at_rep {l : List Signed} {n i : Nat} {d : DV} (hl : l.length = n) (hi : i < n) : At1 ((l.take i).map Signed.enc ++ List.replicate (n - i) d) (i : Int) d := by
  refine ⟨by omega, ?_⟩
  rw [Int.toNat_natCast, List.getElem?_append_right (by simp; omega), List.getElem?_replicate]
  simp
  omega
theorem set_rep {l : List Signed} {n i : Nat} {x : Signed} {d : DV} (hx : l[i]? = some x) (hl : l.length = n) (hi : i < n) : ((l.take i).map Signed.enc ++ List.replicate (n - i) d).set i x.enc = (l.take (i + 1)).map Signed.enc ++ List.replicate (n - (i + 1)) d := by
  have e : n - i = (n - (i + 1)) + 1 := by omega
  rw [take_next hx, e, List.replicate_succ, List.map_append, List.append_assoc, List.set_append_right _ _ (by simp; omega)]
  have : i - ((l.take i).map Signed.enc).length = 0 := by simp; omega
  rw [this]
  rfl

/-- What the program's All returns, with nil where it is nil. -/
theorem all_raw (z : Zone) (keys : List Key) (frm upto : Int) (hf : z.Fits) (hkl : keys.length ≤ 1000) : PCalls E 13 [z.enc, .sl (keys.map Key.enc), .int .i64 frm, .int .i64 upto] (· = allD z keys frm upto) := by
  have no : allOK z keys frm upto = false → allD z keys frm upto = .tup [.agg [.str [], .nilsl], .int .i64 1] := fun h => by simp [allD, h]
  refine PCalls.run E_ok (fn := Tryz.f13) Tryz.func13 (body := Tryz.f13.body.getD .skip) rfl (by decide) 2000 ?_
  conv => whnf
  repeat' (first | with_reducible refine callP_eq (winOK_p _ _) ?_ | with_reducible refine callP1_eq (winOK_p _ _) ?_ | with_reducible refine callP_eq (zvalid_p z hf) ?_ | with_reducible refine callP1_eq (zvalid_p z hf) ?_ | with_reducible refine caseB_true ?_ | with_reducible refine caseB_false ?_ | with_reducible refine caseB_yes (by decide) ?_ | with_reducible refine caseB_no (by decide) ?_ | with_reducible refine caseB_yes (by assumption) ?_ | with_reducible refine caseB_no (by assumption) ?_ | with_reducible refine caseB_split (fun _ => ?_) (fun _ => ?_) | ((conv => whnf); (with_reducible refine AWL.run E_ok Tryz.func13 2000 ?_); (conv => whnf); fail_if_success (with_reducible refine AWL.of ?_)) | ((conv => whnf); (with_reducible refine DWL.run E_ok 2000 ?_); (conv => whnf); fail_if_success (with_reducible refine DWL.is ?_)) | ((conv => whnf); (with_reducible refine SWL.run E_ok 2000 ?_); (conv => whnf); fail_if_success (with_reducible refine SWL.is ?_)))
  all_goals try (rw [no (by simp_all [allOK] <;> omega)]; done)
  rename_i h1 h2 h3 h4
  have hlen : 1 ≤ keys.length ∧ keys.length ≤ 6 := by simp at h1 h2; omega
  have hz : zoneR z = true := by simpa using h4
  have hw : winOK frm upto = true := by simpa using h3
  conv => whnf
  refine AWL.run E_ok Tryz.func13 2000 ?_
  conv => whnf
  refine AWL.loop (κ := Nat) [9, 11, 46, 47, 48, 49, 50, 51, 52, 53, 54] (fun k => [(46, .d (.int .i64 k)), (9, .d (.int .i64 0))]) (fun _ => []) (fun k => k ≤ keys.length ∧ (keys.take k).all keyOK = true) (fun k => keys.length - k) 0 ⟨Nat.zero_le _, rfl⟩ ?_ ?_
  · conv => whnf
    repeat (first | exact trivial | (refine And.intro (by first | with_reducible rfl | exact congrArg (DV.int .i64) (by omega) | exact congrArg (DV.int .i64) (wrap64 (by omega) (by omega)) | exact congrArg (DV.int .i64) ((wrap64 (by omega) (by omega)).trans (by omega))) ?_; conv => whnf))
  rintro k ⟨hk, hall⟩ IH
  refine AWL.head E_ok Tryz.func13 2000 ?_
  conv => whnf
  refine caseB_split (fun h5 => ?_) (fun h5 => ?_)
  · have hlt : k < keys.length := by simpa using h5
    obtain ⟨x, hx⟩ := some_of_lt hlt
    conv => whnf
    refine AWL.run E_ok Tryz.func13 2000 ?_
    conv => whnf
    refine elemP_at (e := x.enc) (at_map hx) rfl ?_
    conv => whnf
    refine AWL.run E_ok Tryz.func13 2000 ?_
    conv => whnf
    with_reducible refine callP_eq (keyOK_p x) ?_
    conv => whnf
    refine AWL.run E_ok Tryz.func13 2000 ?_
    conv => whnf
    refine caseB_split (fun h6 => ?_) (fun h6 => ?_)
    · conv => whnf
      refine AWL.run E_ok Tryz.func13 2000 ?_
      conv => whnf
      rw [no (by simp [allOK, all_no hx (by simpa using h6)])]
    · conv => whnf
      refine AWL.run E_ok Tryz.func13 2000 ?_
      conv => whnf
      refine AWL.back (IH (k + 1) ⟨by omega, all_next hall hx (by simpa using h6)⟩ (by omega)) ?_
      conv => whnf
      repeat (first | exact trivial | (refine And.intro (by first | with_reducible rfl | exact congrArg (DV.int .i64) (by omega) | exact congrArg (DV.int .i64) (wrap64 (by omega) (by omega)) | exact congrArg (DV.int .i64) ((wrap64 (by omega) (by omega)).trans (by omega))) ?_; conv => whnf))
  have hkeys : keys.all keyOK = true := all_end hall (by simpa using h5)
  have hok : allOK z keys frm upto = true := by simp [allOK, hlen.1, hlen.2, hw, hz, hkeys]
  clear IH hall
  conv => whnf
  refine AWL.run E_ok Tryz.func13 2000 ?_
  conv => whnf
  refine need_intro ⟨by omega, by omega, by simp; omega⟩ ?_
  conv => whnf
  refine AWL.run E_ok Tryz.func13 2000 ?_
  conv => whnf
  refine AWL.copyK E_ok rfl rfl ?_
  conv => whnf
  refine need_intro ⟨by intro hh; have := congrArg List.length hh; simp at this; subst this; simp at hlen, rfl, by simp [DV.cells]⟩ ?_
  have ecopy : (keys.map Key.enc).take (List.replicate ((keys.map Key.enc).length : Int).toNat (DV.agg [DV.int IntKind.i64 0, DV.int IntKind.i64 0])).length ++ (List.replicate ((keys.map Key.enc).length : Int).toNat (DV.agg [DV.int IntKind.i64 0, DV.int IntKind.i64 0])).drop (keys.map Key.enc).length = keys.map Key.enc := by
    simp
    exact List.take_of_length_le (by simp)
  rw [ecopy]
  conv => whnf
  refine AWL.run E_ok Tryz.func13 2000 ?_
  conv => whnf
  refine callS_any (sortKey_a keys (by rintro rfl; simp at hlen) (by omega)) ?_
  rintro a b ⟨rfl, ks, hperm, hsort, rfl⟩
  have hkn : ks.length = keys.length := hperm.length_eq
  refine AWL.freeze 2 ?_
  conv => whnf
  conv => whnf
  refine AWL.run E_ok Tryz.func13 2000 ?_
  conv => whnf
  refine AWL.loop (κ := Nat) [9, 13, 14, 65, 66, 67, 68, 69, 70, 71, 72, 73, 74, 75, 76, 77, 78, 79, 80, 81, 82, 83, 84] (fun k => [(65, .d (.int .i64 k)), (9, .d (.int .i64 0))]) (fun _ => []) (fun i => i ≤ ks.length ∧ ((ks.take i).map (·.n)).Nodup) (fun k => ks.length - k) 0 ⟨Nat.zero_le _, by simp⟩ ?_ ?_
  · conv => whnf
    repeat (first | exact trivial | (refine And.intro (by first | with_reducible rfl | exact congrArg (DV.int .i64) (by omega) | exact congrArg (DV.int .i64) (wrap64 (by omega) (by omega)) | exact congrArg (DV.int .i64) ((wrap64 (by omega) (by omega)).trans (by omega))) ?_; conv => whnf))
  rintro i ⟨hi, hnd⟩ IH
  refine AWL.head E_ok Tryz.func13 2000 ?_
  conv => whnf
  refine caseB_split (fun h7 => ?_) (fun h7 => ?_)
  · have hlt : i < ks.length := by simpa using h7
    obtain ⟨x, hx⟩ := some_of_lt hlt
    conv => whnf
    refine AWL.run E_ok Tryz.func13 2000 ?_
    conv => whnf
    refine elemP_at (e := x.enc) (at_map hx) rfl ?_
    conv => whnf
    refine AWL.run E_ok Tryz.func13 2000 ?_
    conv => whnf
    refine AWL.draw E_ok E_mixed 13 2000 (by kernel_rfl) ?_
    conv => whnf
    refine caseB_split (fun h8 => ?_) (fun h8 => ?_)
    · have h0 : 0 < i := by simpa using h8
      obtain ⟨q, hq⟩ := some_of_lt (l := ks) (k := i - 1) (by omega)
      have hw1 : IntKind.i64.wrap ((i : Int) - 1) = ((i - 1 : Nat) : Int) := by rw [wrap64 (by omega) (by omega)]; omega
      have hA : At1 (ks.map Key.enc) (IntKind.i64.wrap ((i : Int) - 1)) q.enc := by rw [hw1]; exact at_map hq
      conv => whnf
      refine DWL.run E_ok 2000 ?_
      conv => whnf
      refine elemP_at (e := q.enc) hA rfl ?_
      conv => whnf
      refine DWL.run E_ok 2000 ?_
      conv => whnf
      conv => whnf
      refine SWL.run E_ok 2000 ?_
      conv => whnf
      conv => whnf
      refine AWL.run E_ok Tryz.func13 2000 ?_
      conv => whnf
      refine caseB_split (fun h9 => ?_) (fun h9 => ?_)
      · conv => whnf
        refine AWL.run E_ok Tryz.func13 2000 ?_
        conv => whnf
        have ht : twiceB keys = true := by rw [← twiceB_perm hperm]; exact twice_of hx hq (by omega) (Eq.symm (by simpa using h9))
        simp [allD, hok, ht]
      · conv => whnf
        refine AWL.run E_ok Tryz.func13 2000 ?_
        conv => whnf
        refine AWL.back (IH (i + 1) ⟨by omega, nodup_next hnd hx (notin_sorted hsort hx h0 hq (by simpa using h9))⟩ (by omega)) ?_
        conv => whnf
        repeat (first | exact trivial | (refine And.intro (by first | with_reducible rfl | exact congrArg (DV.int .i64) (by omega) | exact congrArg (DV.int .i64) (wrap64 (by omega) (by omega)) | exact congrArg (DV.int .i64) ((wrap64 (by omega) (by omega)).trans (by omega))) ?_; conv => whnf))
    · have h0 : i = 0 := by simpa using h8
      subst h0
      conv => whnf
      refine DWL.run E_ok 2000 ?_
      conv => whnf
      conv => whnf
      refine SWL.run E_ok 2000 ?_
      conv => whnf
      conv => whnf
      refine AWL.run E_ok Tryz.func13 2000 ?_
      conv => whnf
      refine caseB_false ?_
      conv => whnf
      refine AWL.run E_ok Tryz.func13 2000 ?_
      conv => whnf
      refine AWL.back (IH 1 ⟨by omega, nodup_next hnd hx (by simp)⟩ (by omega)) ?_
      conv => whnf
      repeat (first | exact trivial | (refine And.intro (by first | with_reducible rfl | exact congrArg (DV.int .i64) (by omega) | exact congrArg (DV.int .i64) (wrap64 (by omega) (by omega)) | exact congrArg (DV.int .i64) ((wrap64 (by omega) (by omega)).trans (by omega))) ?_; conv => whnf))
  have ht : twiceB keys = false := by
    have : ks.length ≤ i := by simpa using h7
    rw [List.take_of_length_le this] at hnd
    rw [← twiceB_perm hperm]
    simp [twiceB, hnd]
  obtain rfl := ordK_uniq hperm hsort ht
  have hres : allD z keys frm upto = .tup [(signZ z (ordK keys) frm upto).enc, .int .i64 0] := by simp [allD, hok, ht]
  rw [hres]
  have hone := hz
  simp only [zoneR, Bool.and_eq_true] at hone
  obtain ⟨hzl, hzo, hza⟩ := oneB_sets hone.1
  have hnames : ∀ s ∈ z.sets, Nm.valid s.set.name = true := fun s hs => by
    have h5 := hzo s hs
    simp only [ok1, Bool.and_eq_true] at h5
    exact setOK_name h5.1
  have hsets : ∀ s ∈ z.sets, setOK s.set = true := fun s hs => by
    have h5 := hzo s hs
    simp only [ok1, Bool.and_eq_true] at h5
    exact h5.1
  have hsl := signZ_len z (ordK keys) frm upto
  have hol := ordK_len keys
  have hown := ownSets_p z (by omega) hnames
  rw [ownP_eq hz] at hown
  conv => whnf
  refine AWL.run E_ok Tryz.func13 2000 ?_
  conv => whnf
  with_reducible refine callP_eq (hown) ?_
  conv => whnf
  refine AWL.run E_ok Tryz.func13 2000 ?_
  conv => whnf
  refine AWL.drawT E_ok E_mixed (.alt 0 (.alt 1 (.alt 2 (.alt 3 (.alt 4 (.alt 5 (.alt 6 (.alt 7 (.alt 8 .leaf .leaf) .leaf) (.alt 7 (.alt 6 (.alt 8 .leaf .leaf) .leaf) .leaf)) (.alt 7 (.alt 5 (.alt 6 (.alt 8 .leaf .leaf) .leaf) .leaf) .leaf)) (.alt 7 (.alt 4 (.alt 5 (.alt 6 (.alt 8 .leaf .leaf) .leaf) .leaf) .leaf) .leaf)) (.alt 7 (.alt 3 (.alt 4 (.alt 5 (.alt 6 (.alt 8 .leaf .leaf) .leaf) .leaf) .leaf) .leaf) .leaf)) (.alt 7 (.alt 2 (.alt 3 (.alt 4 (.alt 5 (.alt 6 (.alt 8 .leaf .leaf) .leaf) .leaf) .leaf) .leaf) .leaf) .leaf)) (.alt 2 (.alt 1 (.alt 3 (.alt 4 (.alt 5 (.alt 6 (.alt 7 (.alt 8 .leaf .leaf) .leaf) (.alt 7 (.alt 6 (.alt 8 .leaf .leaf) .leaf) .leaf)) (.alt 7 (.alt 5 (.alt 6 (.alt 8 .leaf .leaf) .leaf) .leaf) .leaf)) (.alt 7 (.alt 4 (.alt 5 (.alt 6 (.alt 8 .leaf .leaf) .leaf) .leaf) .leaf) .leaf)) (.alt 7 (.alt 3 (.alt 4 (.alt 5 (.alt 6 (.alt 8 .leaf .leaf) .leaf) .leaf) .leaf) .leaf) .leaf)) (.alt 3 (.alt 1 (.alt 4 (.alt 5 (.alt 6 (.alt 7 (.alt 8 .leaf .leaf) .leaf) (.alt 7 (.alt 6 (.alt 8 .leaf .leaf) .leaf) .leaf)) (.alt 7 (.alt 5 (.alt 6 (.alt 8 .leaf .leaf) .leaf) .leaf) .leaf)) (.alt 7 (.alt 4 (.alt 5 (.alt 6 (.alt 8 .leaf .leaf) .leaf) .leaf) .leaf) .leaf)) (.alt 4 (.alt 1 (.alt 5 (.alt 6 (.alt 7 (.alt 8 .leaf .leaf) .leaf) (.alt 7 (.alt 6 (.alt 8 .leaf .leaf) .leaf) .leaf)) (.alt 7 (.alt 5 (.alt 6 (.alt 8 .leaf .leaf) .leaf) .leaf) .leaf)) (.alt 5 (.alt 1 (.alt 6 (.alt 7 (.alt 8 .leaf .leaf) .leaf) (.alt 7 (.alt 6 (.alt 8 .leaf .leaf) .leaf) .leaf)) (.alt 7 (.alt 1 (.alt 6 (.alt 8 .leaf .leaf) .leaf) .leaf) .leaf)) (.alt 7 (.alt 1 (.alt 5 (.alt 6 (.alt 8 .leaf .leaf) .leaf) .leaf) (.alt 5 (.alt 1 (.alt 6 (.alt 8 .leaf .leaf) .leaf) .leaf) .leaf)) .leaf))) (.alt 7 (.alt 1 (.alt 4 (.alt 5 (.alt 6 (.alt 8 .leaf .leaf) .leaf) .leaf) .leaf) (.alt 4 (.alt 1 (.alt 5 (.alt 6 (.alt 8 .leaf .leaf) .leaf) .leaf) (.alt 5 (.alt 1 (.alt 6 (.alt 8 .leaf .leaf) .leaf) .leaf) .leaf)) .leaf)) .leaf))) (.alt 7 (.alt 1 (.alt 3 (.alt 4 (.alt 5 (.alt 6 (.alt 8 .leaf .leaf) .leaf) .leaf) .leaf) .leaf) (.alt 3 (.alt 1 (.alt 4 (.alt 5 (.alt 6 (.alt 8 .leaf .leaf) .leaf) .leaf) .leaf) (.alt 4 (.alt 1 (.alt 5 (.alt 6 (.alt 8 .leaf .leaf) .leaf) .leaf) (.alt 5 (.alt 1 (.alt 6 (.alt 8 .leaf .leaf) .leaf) .leaf) .leaf)) .leaf)) .leaf)) .leaf))) (.alt 7 (.alt 1 (.alt 2 (.alt 3 (.alt 4 (.alt 5 (.alt 6 (.alt 8 .leaf .leaf) .leaf) .leaf) .leaf) .leaf) .leaf) (.alt 2 (.alt 1 (.alt 3 (.alt 4 (.alt 5 (.alt 6 (.alt 8 .leaf .leaf) .leaf) .leaf) .leaf) .leaf) (.alt 3 (.alt 1 (.alt 4 (.alt 5 (.alt 6 (.alt 8 .leaf .leaf) .leaf) .leaf) .leaf) (.alt 4 (.alt 1 (.alt 5 (.alt 6 (.alt 8 .leaf .leaf) .leaf) .leaf) (.alt 5 (.alt 1 (.alt 6 (.alt 8 .leaf .leaf) .leaf) .leaf) .leaf)) .leaf)) .leaf)) .leaf)) .leaf))) (.alt 2 (.alt 0 (.alt 1 (.alt 3 (.alt 4 (.alt 5 (.alt 6 (.alt 7 (.alt 8 .leaf .leaf) .leaf) (.alt 7 (.alt 6 (.alt 8 .leaf .leaf) .leaf) .leaf)) (.alt 7 (.alt 5 (.alt 6 (.alt 8 .leaf .leaf) .leaf) .leaf) .leaf)) (.alt 7 (.alt 4 (.alt 5 (.alt 6 (.alt 8 .leaf .leaf) .leaf) .leaf) .leaf) .leaf)) (.alt 7 (.alt 3 (.alt 4 (.alt 5 (.alt 6 (.alt 8 .leaf .leaf) .leaf) .leaf) .leaf) .leaf) .leaf)) (.alt 3 (.alt 1 (.alt 4 (.alt 5 (.alt 6 (.alt 7 (.alt 8 .leaf .leaf) .leaf) (.alt 7 (.alt 6 (.alt 8 .leaf .leaf) .leaf) .leaf)) (.alt 7 (.alt 5 (.alt 6 (.alt 8 .leaf .leaf) .leaf) .leaf) .leaf)) (.alt 7 (.alt 4 (.alt 5 (.alt 6 (.alt 8 .leaf .leaf) .leaf) .leaf) .leaf) .leaf)) (.alt 4 (.alt 1 (.alt 5 (.alt 6 (.alt 7 (.alt 8 .leaf .leaf) .leaf) (.alt 7 (.alt 6 (.alt 8 .leaf .leaf) .leaf) .leaf)) (.alt 7 (.alt 5 (.alt 6 (.alt 8 .leaf .leaf) .leaf) .leaf) .leaf)) (.alt 5 (.alt 1 (.alt 6 (.alt 7 (.alt 8 .leaf .leaf) .leaf) (.alt 7 (.alt 6 (.alt 8 .leaf .leaf) .leaf) .leaf)) (.alt 7 (.alt 1 (.alt 6 (.alt 8 .leaf .leaf) .leaf) .leaf) .leaf)) (.alt 7 (.alt 1 (.alt 5 (.alt 6 (.alt 8 .leaf .leaf) .leaf) .leaf) (.alt 5 (.alt 1 (.alt 6 (.alt 8 .leaf .leaf) .leaf) .leaf) .leaf)) .leaf))) (.alt 7 (.alt 1 (.alt 4 (.alt 5 (.alt 6 (.alt 8 .leaf .leaf) .leaf) .leaf) .leaf) (.alt 4 (.alt 1 (.alt 5 (.alt 6 (.alt 8 .leaf .leaf) .leaf) .leaf) (.alt 5 (.alt 1 (.alt 6 (.alt 8 .leaf .leaf) .leaf) .leaf) .leaf)) .leaf)) .leaf))) (.alt 7 (.alt 1 (.alt 3 (.alt 4 (.alt 5 (.alt 6 (.alt 8 .leaf .leaf) .leaf) .leaf) .leaf) .leaf) (.alt 3 (.alt 1 (.alt 4 (.alt 5 (.alt 6 (.alt 8 .leaf .leaf) .leaf) .leaf) .leaf) (.alt 4 (.alt 1 (.alt 5 (.alt 6 (.alt 8 .leaf .leaf) .leaf) .leaf) (.alt 5 (.alt 1 (.alt 6 (.alt 8 .leaf .leaf) .leaf) .leaf) .leaf)) .leaf)) .leaf)) .leaf))) (.alt 3 (.alt 0 (.alt 1 (.alt 4 (.alt 5 (.alt 6 (.alt 7 (.alt 8 .leaf .leaf) .leaf) (.alt 7 (.alt 6 (.alt 8 .leaf .leaf) .leaf) .leaf)) (.alt 7 (.alt 5 (.alt 6 (.alt 8 .leaf .leaf) .leaf) .leaf) .leaf)) (.alt 7 (.alt 4 (.alt 5 (.alt 6 (.alt 8 .leaf .leaf) .leaf) .leaf) .leaf) .leaf)) (.alt 4 (.alt 1 (.alt 5 (.alt 6 (.alt 7 (.alt 8 .leaf .leaf) .leaf) (.alt 7 (.alt 6 (.alt 8 .leaf .leaf) .leaf) .leaf)) (.alt 7 (.alt 5 (.alt 6 (.alt 8 .leaf .leaf) .leaf) .leaf) .leaf)) (.alt 5 (.alt 1 (.alt 6 (.alt 7 (.alt 8 .leaf .leaf) .leaf) (.alt 7 (.alt 6 (.alt 8 .leaf .leaf) .leaf) .leaf)) (.alt 7 (.alt 1 (.alt 6 (.alt 8 .leaf .leaf) .leaf) .leaf) .leaf)) (.alt 7 (.alt 1 (.alt 5 (.alt 6 (.alt 8 .leaf .leaf) .leaf) .leaf) (.alt 5 (.alt 1 (.alt 6 (.alt 8 .leaf .leaf) .leaf) .leaf) .leaf)) .leaf))) (.alt 7 (.alt 1 (.alt 4 (.alt 5 (.alt 6 (.alt 8 .leaf .leaf) .leaf) .leaf) .leaf) (.alt 4 (.alt 1 (.alt 5 (.alt 6 (.alt 8 .leaf .leaf) .leaf) .leaf) (.alt 5 (.alt 1 (.alt 6 (.alt 8 .leaf .leaf) .leaf) .leaf) .leaf)) .leaf)) .leaf))) (.alt 4 (.alt 0 (.alt 1 (.alt 5 (.alt 6 (.alt 7 (.alt 8 .leaf .leaf) .leaf) (.alt 7 (.alt 6 (.alt 8 .leaf .leaf) .leaf) .leaf)) (.alt 7 (.alt 5 (.alt 6 (.alt 8 .leaf .leaf) .leaf) .leaf) .leaf)) (.alt 5 (.alt 1 (.alt 6 (.alt 7 (.alt 8 .leaf .leaf) .leaf) (.alt 7 (.alt 6 (.alt 8 .leaf .leaf) .leaf) .leaf)) (.alt 7 (.alt 1 (.alt 6 (.alt 8 .leaf .leaf) .leaf) .leaf) .leaf)) (.alt 7 (.alt 1 (.alt 5 (.alt 6 (.alt 8 .leaf .leaf) .leaf) .leaf) (.alt 5 (.alt 1 (.alt 6 (.alt 8 .leaf .leaf) .leaf) .leaf) .leaf)) .leaf))) (.alt 5 (.alt 0 (.alt 1 (.alt 6 (.alt 7 (.alt 8 .leaf .leaf) .leaf) (.alt 7 (.alt 6 (.alt 8 .leaf .leaf) .leaf) .leaf)) (.alt 7 (.alt 1 (.alt 6 (.alt 8 .leaf .leaf) .leaf) .leaf) .leaf)) (.alt 7 (.alt 0 (.alt 1 (.alt 6 (.alt 8 .leaf .leaf) .leaf) .leaf) .leaf) .leaf)) (.alt 7 (.alt 0 (.alt 1 (.alt 5 (.alt 6 (.alt 8 .leaf .leaf) .leaf) .leaf) (.alt 5 (.alt 1 (.alt 6 (.alt 8 .leaf .leaf) .leaf) .leaf) .leaf)) (.alt 5 (.alt 0 (.alt 1 (.alt 6 (.alt 8 .leaf .leaf) .leaf) .leaf) .leaf) .leaf)) .leaf))) (.alt 7 (.alt 0 (.alt 1 (.alt 4 (.alt 5 (.alt 6 (.alt 8 .leaf .leaf) .leaf) .leaf) .leaf) (.alt 4 (.alt 1 (.alt 5 (.alt 6 (.alt 8 .leaf .leaf) .leaf) .leaf) (.alt 5 (.alt 1 (.alt 6 (.alt 8 .leaf .leaf) .leaf) .leaf) .leaf)) .leaf)) (.alt 4 (.alt 0 (.alt 1 (.alt 5 (.alt 6 (.alt 8 .leaf .leaf) .leaf) .leaf) (.alt 5 (.alt 1 (.alt 6 (.alt 8 .leaf .leaf) .leaf) .leaf) .leaf)) (.alt 5 (.alt 0 (.alt 1 (.alt 6 (.alt 8 .leaf .leaf) .leaf) .leaf) .leaf) .leaf)) .leaf)) .leaf))) (.alt 7 (.alt 0 (.alt 1 (.alt 3 (.alt 4 (.alt 5 (.alt 6 (.alt 8 .leaf .leaf) .leaf) .leaf) .leaf) .leaf) (.alt 3 (.alt 1 (.alt 4 (.alt 5 (.alt 6 (.alt 8 .leaf .leaf) .leaf) .leaf) .leaf) (.alt 4 (.alt 1 (.alt 5 (.alt 6 (.alt 8 .leaf .leaf) .leaf) .leaf) (.alt 5 (.alt 1 (.alt 6 (.alt 8 .leaf .leaf) .leaf) .leaf) .leaf)) .leaf)) .leaf)) (.alt 3 (.alt 0 (.alt 1 (.alt 4 (.alt 5 (.alt 6 (.alt 8 .leaf .leaf) .leaf) .leaf) .leaf) (.alt 4 (.alt 1 (.alt 5 (.alt 6 (.alt 8 .leaf .leaf) .leaf) .leaf) (.alt 5 (.alt 1 (.alt 6 (.alt 8 .leaf .leaf) .leaf) .leaf) .leaf)) .leaf)) (.alt 4 (.alt 0 (.alt 1 (.alt 5 (.alt 6 (.alt 8 .leaf .leaf) .leaf) .leaf) (.alt 5 (.alt 1 (.alt 6 (.alt 8 .leaf .leaf) .leaf) .leaf) .leaf)) (.alt 5 (.alt 0 (.alt 1 (.alt 6 (.alt 8 .leaf .leaf) .leaf) .leaf) .leaf) .leaf)) .leaf)) .leaf)) .leaf))) (.alt 7 (.alt 0 (.alt 1 (.alt 2 (.alt 3 (.alt 4 (.alt 5 (.alt 6 (.alt 8 .leaf .leaf) .leaf) .leaf) .leaf) .leaf) .leaf) (.alt 2 (.alt 1 (.alt 3 (.alt 4 (.alt 5 (.alt 6 (.alt 8 .leaf .leaf) .leaf) .leaf) .leaf) .leaf) (.alt 3 (.alt 1 (.alt 4 (.alt 5 (.alt 6 (.alt 8 .leaf .leaf) .leaf) .leaf) .leaf) (.alt 4 (.alt 1 (.alt 5 (.alt 6 (.alt 8 .leaf .leaf) .leaf) .leaf) (.alt 5 (.alt 1 (.alt 6 (.alt 8 .leaf .leaf) .leaf) .leaf) .leaf)) .leaf)) .leaf)) .leaf)) (.alt 2 (.alt 0 (.alt 1 (.alt 3 (.alt 4 (.alt 5 (.alt 6 (.alt 8 .leaf .leaf) .leaf) .leaf) .leaf) .leaf) (.alt 3 (.alt 1 (.alt 4 (.alt 5 (.alt 6 (.alt 8 .leaf .leaf) .leaf) .leaf) .leaf) (.alt 4 (.alt 1 (.alt 5 (.alt 6 (.alt 8 .leaf .leaf) .leaf) .leaf) (.alt 5 (.alt 1 (.alt 6 (.alt 8 .leaf .leaf) .leaf) .leaf) .leaf)) .leaf)) .leaf)) (.alt 3 (.alt 0 (.alt 1 (.alt 4 (.alt 5 (.alt 6 (.alt 8 .leaf .leaf) .leaf) .leaf) .leaf) (.alt 4 (.alt 1 (.alt 5 (.alt 6 (.alt 8 .leaf .leaf) .leaf) .leaf) (.alt 5 (.alt 1 (.alt 6 (.alt 8 .leaf .leaf) .leaf) .leaf) .leaf)) .leaf)) (.alt 4 (.alt 0 (.alt 1 (.alt 5 (.alt 6 (.alt 8 .leaf .leaf) .leaf) .leaf) (.alt 5 (.alt 1 (.alt 6 (.alt 8 .leaf .leaf) .leaf) .leaf) .leaf)) (.alt 5 (.alt 0 (.alt 1 (.alt 6 (.alt 8 .leaf .leaf) .leaf) .leaf) .leaf) .leaf)) .leaf)) .leaf)) .leaf)) .leaf))) ?pstate ?qstate (by kernel_rfl) ?tree ?first ?second
  case tree =>
    repeat' ((try conv => whnf); first
      | with_reducible exact True.intro
      | with_reducible exact TWL.fst
      | with_reducible exact TWL.snd
      | with_reducible refine need_intro (by simp; omega) ?_
      | with_reducible refine And.intro ?_ ?_
      | with_reducible refine TWL.step E_ok ?_)
  case first =>
    conv => whnf
    conv => whnf
    refine AWL.run E_ok Tryz.func13 2000 ?_
    conv => whnf
    refine AWL.loop (κ := Nat) [9, 17, 18, 19, 21, 22, 23, 97, 98, 99, 100, 101, 102, 103, 104, 105, 106, 107, 108, 109, 110, 111, 112, 113, 114, 115, 116, 117, 118, 119, 120, 121, 122, 123, 124, 125, 126, 127, 128, 129, 130, 131, 132, 133, 134, 135, 136, 137, 138, 139, 140, 141, 142, 143, 144, 145, 146, 147, 148] (fun k => [(97, .d (.int .i64 k))]) (fun k => [(3, .arr 0 (39, 5) (((signZ z (ordK keys) frm upto).sets.take k).map Signed.enc ++ List.replicate (z.sets.length - k) (DV.agg [.str [], .int .i64 0, .int .i64 0, .nilsl, .nilsl])))]) (fun k => k ≤ z.sets.length) (fun k => z.sets.length - k) 0 (Nat.zero_le _) ?_ ?_
    · conv => whnf
      repeat (first | exact trivial | (refine And.intro (by first | with_reducible rfl | exact congrArg (DV.int .i64) (by omega) | exact congrArg (DV.int .i64) (wrap64 (by omega) (by omega)) | exact congrArg (DV.int .i64) ((wrap64 (by omega) (by omega)).trans (by omega))) ?_; conv => whnf))
      refine And.intro (by simp) ?_
      conv => whnf
      repeat (first | exact trivial | (refine And.intro (by first | with_reducible rfl | exact congrArg (DV.int .i64) (by omega) | exact congrArg (DV.int .i64) (wrap64 (by omega) (by omega)) | exact congrArg (DV.int .i64) ((wrap64 (by omega) (by omega)).trans (by omega))) ?_; conv => whnf))
    intro i hi IH
    refine AWL.head E_ok Tryz.func13 2000 ?_
    conv => whnf
    refine caseB_split (fun h9 => ?_) (fun h9 => ?_)
    · have hlt : i < z.sets.length := by simpa using h9
      obtain ⟨s, hs⟩ := some_of_lt hlt
      obtain ⟨o, ho⟩ := some_of_lt (l := ownZ z) (k := i) (by rw [ownZ_len]; exact hlt)
      have hnext := signZ_at (ord := ordK keys) (frm := frm) (upto := upto) hs ho
      have hsm := List.mem_of_getElem? hs
      have hfs : s.set.Fits := hf.sets s hsm
      have hlens := setOK_lens (hsets s hsm)
      have hcl := cloneData_p s.set.data (by intro h0; rw [h0] at hlens; simp at hlens) (by omega)
      have htl : (((signZ z (ordK keys) frm upto).sets.take i).map Signed.enc ++ List.replicate (z.sets.length - i) (DV.agg [.str [], .int .i64 0, .int .i64 0, .nilsl, .nilsl])).length = z.sets.length := by
        rw [List.length_append, List.length_map, List.length_take, hsl, List.length_replicate]
        omega
      have hset : ∀ x : Signed, (signZ z (ordK keys) frm upto).sets[i]? = some x → (((signZ z (ordK keys) frm upto).sets.take i).map Signed.enc ++ List.replicate (z.sets.length - i) (DV.agg [.str [], .int .i64 0, .int .i64 0, .nilsl, .nilsl])).set i x.enc = ((signZ z (ordK keys) frm upto).sets.take (i + 1)).map Signed.enc ++ List.replicate (z.sets.length - (i + 1)) (DV.agg [.str [], .int .i64 0, .int .i64 0, .nilsl, .nilsl]) := fun x hx => set_rep hx (by rw [hsl]) hlt
      have hrep : At1 (((signZ z (ordK keys) frm upto).sets.take i).map Signed.enc ++ List.replicate (z.sets.length - i) (DV.agg [.str [], .int .i64 0, .int .i64 0, .nilsl, .nilsl])) (i : Int) (DV.agg [.str [], .int .i64 0, .int .i64 0, .nilsl, .nilsl]) := at_rep (by rw [hsl]) hlt
      conv => whnf
      refine AWL.run E_ok Tryz.func13 2000 ?_
      conv => whnf
      refine elemP_at (e := s.enc) (at_map hs) rfl ?_
      conv => whnf
      refine AWL.run E_ok Tryz.func13 2000 ?_
      conv => whnf
      with_reducible refine callP_eq (hcl) ?_
      conv => whnf
      refine AWL.run E_ok Tryz.func13 2000 ?_
      conv => whnf
      refine elemP_at (e := .bool o) (at_map ho) rfl ?_
      refine AWL.adoptCell 6 4 (43, 6) (by decide) rfl rfl ?_
      conv => whnf
      conv => whnf
      refine AWL.run E_ok Tryz.func13 2000 ?_
      conv => whnf
      cases o
      · refine caseB_false ?_
        refine AWL.freeze 7 ?_
        conv => whnf
        conv => whnf
        refine AWL.run E_ok Tryz.func13 2000 ?_
        conv => whnf
        refine need_intro ⟨by omega, by rw [htl]; omega⟩ ?_
        conv => whnf
        refine AWL.run E_ok Tryz.func13 2000 ?_
        conv => whnf
        refine elemP_at (e := DV.agg [.str [], .int .i64 0, .int .i64 0, .nilsl, .nilsl]) hrep rfl ?_
        conv => whnf
        refine AWL.run E_ok Tryz.func13 2000 ?_
        conv => whnf
        refine AWL.back (IH (i + 1) (by omega) (by omega)) ?_
        conv => whnf
        repeat (first | exact trivial | (refine And.intro (by first | with_reducible rfl | exact congrArg (DV.int .i64) (by omega) | exact congrArg (DV.int .i64) (wrap64 (by omega) (by omega)) | exact congrArg (DV.int .i64) ((wrap64 (by omega) (by omega)).trans (by omega))) ?_; conv => whnf))
        refine And.intro (hset _ hnext) ?_
        conv => whnf
        repeat (first | exact trivial | (refine And.intro (by first | with_reducible rfl | exact congrArg (DV.int .i64) (by omega) | exact congrArg (DV.int .i64) (wrap64 (by omega) (by omega)) | exact congrArg (DV.int .i64) ((wrap64 (by omega) (by omega)).trans (by omega))) ?_; conv => whnf))
      · refine caseB_true ?_
        conv => whnf
        refine AWL.run E_ok Tryz.func13 2000 ?_
        conv => whnf
        refine AWL.loop (κ := Nat) [9, 21, 22, 23, 117, 118, 119, 120, 121, 122, 123, 124, 125, 126, 127, 128, 129, 130, 131, 132, 133, 134, 135, 136, 137, 138, 139, 140, 141, 142] (fun k => [(117, .d (.int .i64 k))]) (fun k => [(6, .cells [.d (.str s.set.name), .d (.int .i64 s.set.type), .d (.int .i64 s.set.life), .d (encData s.set.data), .own 7 1]), (7, .arr 1 (43, 6) ((((ordK keys).take k).map (fun k => sigOf s.set z.apex k frm upto)).map Sig.enc))]) (fun k => k ≤ (ordK keys).length) (fun k => (ordK keys).length - k) 0 (Nat.zero_le _) ?_ ?_
        · conv => whnf
          repeat (first | exact trivial | (refine And.intro (by first | with_reducible rfl | exact congrArg (DV.int .i64) (by omega) | exact congrArg (DV.int .i64) (wrap64 (by omega) (by omega)) | exact congrArg (DV.int .i64) ((wrap64 (by omega) (by omega)).trans (by omega))) ?_; conv => whnf))
          refine And.intro (by simp) ?_
          conv => whnf
          repeat (first | exact trivial | (refine And.intro (by first | with_reducible rfl | exact congrArg (DV.int .i64) (by omega) | exact congrArg (DV.int .i64) (wrap64 (by omega) (by omega)) | exact congrArg (DV.int .i64) ((wrap64 (by omega) (by omega)).trans (by omega))) ?_; conv => whnf))
        intro k hk IH2
        refine AWL.head E_ok Tryz.func13 2000 ?_
        conv => whnf
        refine caseB_split (fun h10 => ?_) (fun h10 => ?_)
        · have hkt : k < (ordK keys).length := by simpa using h10
          obtain ⟨x, hx⟩ := some_of_lt hkt
          have hxk : keyOK x = true := List.all_eq_true.1 hkeys x (ordK_mem.1 (List.mem_of_getElem? hx))
          have hso := signOK_zone hz hsm hxk hw
          have hsign := sign_p s.set z.apex x frm upto hfs hf.apex
          simp only [signR, signE, hso, if_true] at hsign
          conv => whnf
          refine AWL.run E_ok Tryz.func13 2000 ?_
          conv => whnf
          refine elemP_at (e := x.enc) (at_map hx) rfl ?_
          conv => whnf
          refine AWL.run E_ok Tryz.func13 2000 ?_
          conv => whnf
          with_reducible refine callP_eq (hsign) ?_
          conv => whnf
          refine AWL.run E_ok Tryz.func13 2000 ?_
          conv => whnf
          refine caseB_no rfl ?_
          conv => whnf
          refine AWL.run E_ok Tryz.func13 2000 ?_
          conv => whnf
          refine need_intro ⟨by simp; omega, by simp [DV.cells]⟩ ?_
          conv => whnf
          refine AWL.run E_ok Tryz.func13 2000 ?_
          conv => whnf
          refine AWL.back (IH2 (k + 1) (by omega) (by omega)) ?_
          conv => whnf
          repeat (first | exact trivial | (refine And.intro (by first | with_reducible rfl | exact congrArg (DV.int .i64) (by omega) | exact congrArg (DV.int .i64) (wrap64 (by omega) (by omega)) | exact congrArg (DV.int .i64) ((wrap64 (by omega) (by omega)).trans (by omega))) ?_; conv => whnf))
          refine And.intro (by rw [take_next hx]; simp [sigOf]) ?_
          conv => whnf
          repeat (first | exact trivial | (refine And.intro (by first | with_reducible rfl | exact congrArg (DV.int .i64) (by omega) | exact congrArg (DV.int .i64) (wrap64 (by omega) (by omega)) | exact congrArg (DV.int .i64) ((wrap64 (by omega) (by omega)).trans (by omega))) ?_; conv => whnf))
        · have hke : (ordK keys).length ≤ k := by simpa using h10
          rw [List.take_of_length_le hke]
          refine AWL.freeze 7 ?_
          conv => whnf
          conv => whnf
          refine AWL.run E_ok Tryz.func13 2000 ?_
          conv => whnf
          refine need_intro ⟨by omega, by rw [htl]; omega⟩ ?_
          conv => whnf
          refine AWL.run E_ok Tryz.func13 2000 ?_
          conv => whnf
          refine elemP_at (e := DV.agg [.str [], .int .i64 0, .int .i64 0, .nilsl, .nilsl]) hrep rfl ?_
          conv => whnf
          refine AWL.run E_ok Tryz.func13 2000 ?_
          conv => whnf
          refine AWL.back (IH (i + 1) (by omega) (by omega)) ?_
          conv => whnf
          repeat (first | exact trivial | (refine And.intro (by first | with_reducible rfl | exact congrArg (DV.int .i64) (by omega) | exact congrArg (DV.int .i64) (wrap64 (by omega) (by omega)) | exact congrArg (DV.int .i64) ((wrap64 (by omega) (by omega)).trans (by omega))) ?_; conv => whnf))
          refine And.intro (hset _ hnext) ?_
          conv => whnf
          repeat (first | exact trivial | (refine And.intro (by first | with_reducible rfl | exact congrArg (DV.int .i64) (by omega) | exact congrArg (DV.int .i64) (wrap64 (by omega) (by omega)) | exact congrArg (DV.int .i64) ((wrap64 (by omega) (by omega)).trans (by omega))) ?_; conv => whnf))
    · have hge : z.sets.length ≤ i := by simpa using h9
      rw [List.take_of_length_le (by rw [hsl]; exact hge), show z.sets.length - i = 0 by omega, List.replicate_zero, List.append_nil]
      conv => whnf
      refine AWL.run E_ok Tryz.func13 2000 ?_
      conv => whnf
      rfl
  case second =>
    conv => whnf
    conv => whnf
    refine AWL.run E_ok Tryz.func13 2000 ?_
    conv => whnf
    refine AWL.loop (κ := Nat) [9, 17, 18, 19, 21, 22, 23, 97, 98, 99, 100, 101, 102, 103, 104, 105, 106, 107, 108, 109, 110, 111, 112, 113, 114, 115, 116, 117, 118, 119, 120, 121, 122, 123, 124, 125, 126, 127, 128, 129, 130, 131, 132, 133, 134, 135, 136, 137, 138, 139, 140, 141, 142, 143, 144, 145, 146, 147, 148] (fun k => [(97, .d (.int .i64 k))]) (fun k => [(4, .arr 0 (39, 5) (((signZ z (ordK keys) frm upto).sets.take k).map Signed.enc ++ List.replicate (z.sets.length - k) (DV.agg [.str [], .int .i64 0, .int .i64 0, .nilsl, .nilsl])))]) (fun k => k ≤ z.sets.length) (fun k => z.sets.length - k) 0 (Nat.zero_le _) ?_ ?_
    · conv => whnf
      repeat (first | exact trivial | (refine And.intro (by first | with_reducible rfl | exact congrArg (DV.int .i64) (by omega) | exact congrArg (DV.int .i64) (wrap64 (by omega) (by omega)) | exact congrArg (DV.int .i64) ((wrap64 (by omega) (by omega)).trans (by omega))) ?_; conv => whnf))
      refine And.intro (by simp) ?_
      conv => whnf
      repeat (first | exact trivial | (refine And.intro (by first | with_reducible rfl | exact congrArg (DV.int .i64) (by omega) | exact congrArg (DV.int .i64) (wrap64 (by omega) (by omega)) | exact congrArg (DV.int .i64) ((wrap64 (by omega) (by omega)).trans (by omega))) ?_; conv => whnf))
    intro i hi IH
    refine AWL.head E_ok Tryz.func13 2000 ?_
    conv => whnf
    refine caseB_split (fun h9 => ?_) (fun h9 => ?_)
    · have hlt : i < z.sets.length := by simpa using h9
      obtain ⟨s, hs⟩ := some_of_lt hlt
      obtain ⟨o, ho⟩ := some_of_lt (l := ownZ z) (k := i) (by rw [ownZ_len]; exact hlt)
      have hnext := signZ_at (ord := ordK keys) (frm := frm) (upto := upto) hs ho
      have hsm := List.mem_of_getElem? hs
      have hfs : s.set.Fits := hf.sets s hsm
      have hlens := setOK_lens (hsets s hsm)
      have hcl := cloneData_p s.set.data (by intro h0; rw [h0] at hlens; simp at hlens) (by omega)
      have htl : (((signZ z (ordK keys) frm upto).sets.take i).map Signed.enc ++ List.replicate (z.sets.length - i) (DV.agg [.str [], .int .i64 0, .int .i64 0, .nilsl, .nilsl])).length = z.sets.length := by
        rw [List.length_append, List.length_map, List.length_take, hsl, List.length_replicate]
        omega
      have hset : ∀ x : Signed, (signZ z (ordK keys) frm upto).sets[i]? = some x → (((signZ z (ordK keys) frm upto).sets.take i).map Signed.enc ++ List.replicate (z.sets.length - i) (DV.agg [.str [], .int .i64 0, .int .i64 0, .nilsl, .nilsl])).set i x.enc = ((signZ z (ordK keys) frm upto).sets.take (i + 1)).map Signed.enc ++ List.replicate (z.sets.length - (i + 1)) (DV.agg [.str [], .int .i64 0, .int .i64 0, .nilsl, .nilsl]) := fun x hx => set_rep hx (by rw [hsl]) hlt
      have hrep : At1 (((signZ z (ordK keys) frm upto).sets.take i).map Signed.enc ++ List.replicate (z.sets.length - i) (DV.agg [.str [], .int .i64 0, .int .i64 0, .nilsl, .nilsl])) (i : Int) (DV.agg [.str [], .int .i64 0, .int .i64 0, .nilsl, .nilsl]) := at_rep (by rw [hsl]) hlt
      conv => whnf
      refine AWL.run E_ok Tryz.func13 2000 ?_
      conv => whnf
      refine elemP_at (e := s.enc) (at_map hs) rfl ?_
      conv => whnf
      refine AWL.run E_ok Tryz.func13 2000 ?_
      conv => whnf
      with_reducible refine callP_eq (hcl) ?_
      conv => whnf
      refine AWL.run E_ok Tryz.func13 2000 ?_
      conv => whnf
      refine elemP_at (e := .bool o) (at_map ho) rfl ?_
      refine AWL.adoptCell 6 4 (43, 6) (by decide) rfl rfl ?_
      conv => whnf
      conv => whnf
      refine AWL.run E_ok Tryz.func13 2000 ?_
      conv => whnf
      cases o
      · refine caseB_false ?_
        refine AWL.freeze 7 ?_
        conv => whnf
        conv => whnf
        refine AWL.run E_ok Tryz.func13 2000 ?_
        conv => whnf
        refine need_intro ⟨by omega, by rw [htl]; omega⟩ ?_
        conv => whnf
        refine AWL.run E_ok Tryz.func13 2000 ?_
        conv => whnf
        refine elemP_at (e := DV.agg [.str [], .int .i64 0, .int .i64 0, .nilsl, .nilsl]) hrep rfl ?_
        conv => whnf
        refine AWL.run E_ok Tryz.func13 2000 ?_
        conv => whnf
        refine AWL.back (IH (i + 1) (by omega) (by omega)) ?_
        conv => whnf
        repeat (first | exact trivial | (refine And.intro (by first | with_reducible rfl | exact congrArg (DV.int .i64) (by omega) | exact congrArg (DV.int .i64) (wrap64 (by omega) (by omega)) | exact congrArg (DV.int .i64) ((wrap64 (by omega) (by omega)).trans (by omega))) ?_; conv => whnf))
        refine And.intro (hset _ hnext) ?_
        conv => whnf
        repeat (first | exact trivial | (refine And.intro (by first | with_reducible rfl | exact congrArg (DV.int .i64) (by omega) | exact congrArg (DV.int .i64) (wrap64 (by omega) (by omega)) | exact congrArg (DV.int .i64) ((wrap64 (by omega) (by omega)).trans (by omega))) ?_; conv => whnf))
      · refine caseB_true ?_
        conv => whnf
        refine AWL.run E_ok Tryz.func13 2000 ?_
        conv => whnf
        refine AWL.loop (κ := Nat) [9, 21, 22, 23, 117, 118, 119, 120, 121, 122, 123, 124, 125, 126, 127, 128, 129, 130, 131, 132, 133, 134, 135, 136, 137, 138, 139, 140, 141, 142] (fun k => [(117, .d (.int .i64 k))]) (fun k => [(6, .cells [.d (.str s.set.name), .d (.int .i64 s.set.type), .d (.int .i64 s.set.life), .d (encData s.set.data), .own 7 1]), (7, .arr 1 (43, 6) ((((ordK keys).take k).map (fun k => sigOf s.set z.apex k frm upto)).map Sig.enc))]) (fun k => k ≤ (ordK keys).length) (fun k => (ordK keys).length - k) 0 (Nat.zero_le _) ?_ ?_
        · conv => whnf
          repeat (first | exact trivial | (refine And.intro (by first | with_reducible rfl | exact congrArg (DV.int .i64) (by omega) | exact congrArg (DV.int .i64) (wrap64 (by omega) (by omega)) | exact congrArg (DV.int .i64) ((wrap64 (by omega) (by omega)).trans (by omega))) ?_; conv => whnf))
          refine And.intro (by simp) ?_
          conv => whnf
          repeat (first | exact trivial | (refine And.intro (by first | with_reducible rfl | exact congrArg (DV.int .i64) (by omega) | exact congrArg (DV.int .i64) (wrap64 (by omega) (by omega)) | exact congrArg (DV.int .i64) ((wrap64 (by omega) (by omega)).trans (by omega))) ?_; conv => whnf))
        intro k hk IH2
        refine AWL.head E_ok Tryz.func13 2000 ?_
        conv => whnf
        refine caseB_split (fun h10 => ?_) (fun h10 => ?_)
        · have hkt : k < (ordK keys).length := by simpa using h10
          obtain ⟨x, hx⟩ := some_of_lt hkt
          have hxk : keyOK x = true := List.all_eq_true.1 hkeys x (ordK_mem.1 (List.mem_of_getElem? hx))
          have hso := signOK_zone hz hsm hxk hw
          have hsign := sign_p s.set z.apex x frm upto hfs hf.apex
          simp only [signR, signE, hso, if_true] at hsign
          conv => whnf
          refine AWL.run E_ok Tryz.func13 2000 ?_
          conv => whnf
          refine elemP_at (e := x.enc) (at_map hx) rfl ?_
          conv => whnf
          refine AWL.run E_ok Tryz.func13 2000 ?_
          conv => whnf
          with_reducible refine callP_eq (hsign) ?_
          conv => whnf
          refine AWL.run E_ok Tryz.func13 2000 ?_
          conv => whnf
          refine caseB_no rfl ?_
          conv => whnf
          refine AWL.run E_ok Tryz.func13 2000 ?_
          conv => whnf
          refine need_intro ⟨by simp; omega, by simp [DV.cells]⟩ ?_
          conv => whnf
          refine AWL.run E_ok Tryz.func13 2000 ?_
          conv => whnf
          refine AWL.back (IH2 (k + 1) (by omega) (by omega)) ?_
          conv => whnf
          repeat (first | exact trivial | (refine And.intro (by first | with_reducible rfl | exact congrArg (DV.int .i64) (by omega) | exact congrArg (DV.int .i64) (wrap64 (by omega) (by omega)) | exact congrArg (DV.int .i64) ((wrap64 (by omega) (by omega)).trans (by omega))) ?_; conv => whnf))
          refine And.intro (by rw [take_next hx]; simp [sigOf]) ?_
          conv => whnf
          repeat (first | exact trivial | (refine And.intro (by first | with_reducible rfl | exact congrArg (DV.int .i64) (by omega) | exact congrArg (DV.int .i64) (wrap64 (by omega) (by omega)) | exact congrArg (DV.int .i64) ((wrap64 (by omega) (by omega)).trans (by omega))) ?_; conv => whnf))
        · have hke : (ordK keys).length ≤ k := by simpa using h10
          rw [List.take_of_length_le hke]
          refine AWL.freeze 7 ?_
          conv => whnf
          conv => whnf
          refine AWL.run E_ok Tryz.func13 2000 ?_
          conv => whnf
          refine need_intro ⟨by omega, by rw [htl]; omega⟩ ?_
          conv => whnf
          refine AWL.run E_ok Tryz.func13 2000 ?_
          conv => whnf
          refine elemP_at (e := DV.agg [.str [], .int .i64 0, .int .i64 0, .nilsl, .nilsl]) hrep rfl ?_
          conv => whnf
          refine AWL.run E_ok Tryz.func13 2000 ?_
          conv => whnf
          refine AWL.back (IH (i + 1) (by omega) (by omega)) ?_
          conv => whnf
          repeat (first | exact trivial | (refine And.intro (by first | with_reducible rfl | exact congrArg (DV.int .i64) (by omega) | exact congrArg (DV.int .i64) (wrap64 (by omega) (by omega)) | exact congrArg (DV.int .i64) ((wrap64 (by omega) (by omega)).trans (by omega))) ?_; conv => whnf))
          refine And.intro (hset _ hnext) ?_
          conv => whnf
          repeat (first | exact trivial | (refine And.intro (by first | with_reducible rfl | exact congrArg (DV.int .i64) (by omega) | exact congrArg (DV.int .i64) (wrap64 (by omega) (by omega)) | exact congrArg (DV.int .i64) ((wrap64 (by omega) (by omega)).trans (by omega))) ?_; conv => whnf))
    · have hge : z.sets.length ≤ i := by simpa using h9
      rw [List.take_of_length_le (by rw [hsl]; exact hge), show z.sets.length - i = 0 by omega, List.replicate_zero, List.append_nil]
      conv => whnf
      refine AWL.run E_ok Tryz.func13 2000 ?_
      conv => whnf
      rfl
theorem all_p (z : Zone) (keys : List Key) (frm upto : Int) (hf : z.Fits) (hkl : keys.length ≤ 1000) : PCalls E 13 [z.enc, .sl (keys.map Key.enc), .int .i64 frm, .int .i64 upto] (· = .tup [(allZ z keys frm upto).enc, .int .i64 (allE z keys frm upto)]) :=
  .norm ((all_raw z keys frm upto hf hkl).mono fun r e => by subst e; exact allD_norm z keys frm upto)

end Go.Proofs.YtebielkakdhelaaGreatDoor.P
