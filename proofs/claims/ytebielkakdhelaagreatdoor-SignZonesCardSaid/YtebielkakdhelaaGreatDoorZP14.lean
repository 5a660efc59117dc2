/- Contracts by the engine: the reference implementation's zones, fourth part: what is behind cuts, own sets, valid zones. Conditions: lengths that Go allows. -/
import Derived.Test.YtebielkakdhelaaGreatDoorZP13
set_option linter.unusedVariables false
set_option linter.unusedSimpArgs false
namespace Go.Proofs.YtebielkakdhelaaGreatDoor.P
open Go Go.Eng
set_option maxRecDepth 100000
set_option maxHeartbeats 4000000

/-- How many cuts are not behind a name. -/
def adv (cuts : List Text) (n : Text) (k : Nat) : Nat := k + ((cuts.drop k).takeWhile fun c => decide (ordN c n ≤ 0)).length
theorem adv_yes {cuts : List Text} {n c : Text} {k : Nat} (h : cuts[k]? = some c) (ho : ordN c n ≤ 0) : adv cuts n k = adv cuts n (k + 1) := by
  have hk := lt_of_getElem? h
  have e1 : cuts[k] = c := by simpa [hk] using h
  unfold adv
  rw [List.drop_eq_getElem_cons hk, e1, List.takeWhile_cons_of_pos (by simpa using ho)]
  simp
  omega
theorem adv_no {cuts : List Text} {n c : Text} {k : Nat} (h : cuts[k]? = some c) (ho : ¬ ordN c n ≤ 0) : adv cuts n k = k := by
  have hk := lt_of_getElem? h
  have e1 : cuts[k] = c := by simpa [hk] using h
  unfold adv
  rw [List.drop_eq_getElem_cons hk, e1, List.takeWhile_cons_of_neg (by simpa using ho)]
  simp
theorem adv_end {cuts : List Text} {n : Text} {k : Nat} (h : cuts.length ≤ k) : adv cuts n k = k := by
  unfold adv
  rw [List.drop_of_length_le h]
  simp
theorem adv_le {cuts : List Text} {n : Text} {k : Nat} (h : k ≤ cuts.length) : adv cuts n k ≤ cuts.length := by
  unfold adv
  have h1 : ((cuts.drop k).takeWhile fun c => decide (ordN c n ≤ 0)).length ≤ (cuts.drop k).length := (List.takeWhile_prefix _).length_le
  simp at h1 ⊢
  omega
/-- The cut that a name is behind. -/
def behAt (cuts : List Text) (n : Text) (k : Nat) : Text := if k = 0 then [] else match cuts[k - 1]? with
  | some c => if Nm.under n c then c else []
  | none => []
def behL (cuts : List Text) : Nat → List Text → List Text
  | _, [] => []
  | k, n :: ns => behAt cuts n (adv cuts n k) :: behL cuts (adv cuts n k) ns
theorem behL_len (cuts : List Text) : ∀ (k : Nat) (ns : List Text), (behL cuts k ns).length = ns.length
  | _, [] => rfl
  | k, n :: ns => by simp [behL, behL_len cuts _ ns]
/-- What each set is behind. -/
def behindZ (z : Zone) : List Text := behL (highL (cutsL z.apex z.sets)) 0 (z.sets.map (·.set.name))
theorem behindZ_len (z : Zone) : (behindZ z).length = z.sets.length := by simp [behindZ, behL_len]

theorem take_rep {α : Type} {B : List α} {e x : α} {i n : Nat} (hB : B.length = n) (h : B[i]? = some x) : (B.take i ++ List.replicate (n - i) e).set i x = B.take (i + 1) ++ List.replicate (n - (i + 1)) e := by
  have hi := lt_of_getElem? h
  rw [take_next h, List.set_append_right _ _ (by simp; omega)]
  simp only [List.length_take, List.append_assoc]
  congr 1
  rw [show n - i = (n - (i + 1)) + 1 by omega, List.replicate_succ]
  simp [Nat.min_eq_left (Nat.le_of_lt hi)]
theorem take_rep_same {α : Type} {B : List α} {e : α} {i n : Nat} (hB : B.length = n) (h : B[i]? = some e) : B.take i ++ List.replicate (n - i) e = B.take (i + 1) ++ List.replicate (n - (i + 1)) e := by
  have hi := lt_of_getElem? h
  rw [take_next h, List.append_assoc]
  congr 1
  rw [show n - i = (n - (i + 1)) + 1 by omega, List.replicate_succ]
  rfl
theorem rep_at {α : Type} {B : List α} {e : α} {i n : Nat} (hB : B.length = n) (hi : i < n) : (B.take i ++ List.replicate (n - i) e)[i]? = some e := by
  rw [List.getElem?_append_right (by simp; omega)]
  simp only [List.length_take]
  rw [show i - min i B.length = 0 by omega]
  rw [List.getElem?_replicate, if_pos (by omega)]

theorem rbehind_p (z : Zone) (hl : z.sets.length ≤ 1000000) (hn : ∀ s ∈ z.sets, s.set.name.length ≤ 1000) : PCalls E 59 [z.enc] (· = .sl ((behindZ z).map .str)) := by
  have hcn : ∀ c ∈ highL (cutsL z.apex z.sets), c.length ≤ 1000 := fun c hc => by
    obtain ⟨s, h1, rfl, -⟩ := cutsL_mem (highL_mem c hc)
    exact hn s h1
  have hcl : (highL (cutsL z.apex z.sets)).length ≤ z.sets.length := Nat.le_trans (highL_len _) (cutsL_len _ _)
  have hBl := behindZ_len z
  have hB0 : behindZ z = behL (highL (cutsL z.apex z.sets)) 0 (z.sets.map (·.set.name)) := rfl
  generalize behindZ z = B at *
  refine PCalls.run E_ok (fn := Tryz.f59) Tryz.func59 (body := Tryz.f59.body.getD .skip) rfl (by decide) 2000 ?_
  conv => whnf
  with_reducible refine callP_eq (rhighest_p z (by omega) hn) ?_
  conv => whnf
  refine AWL.run E_ok Tryz.func59 2000 ?_
  conv => whnf
  generalize highL (cutsL z.apex z.sets) = cuts at *
  obtain ⟨apex, l⟩ := z
  simp only at *
  refine need_intro ?_ ?_
  · simp; omega
  · conv => whnf
    refine AWL.run E_ok Tryz.func59 2000 ?_
    conv => whnf
    refine AWL.loop (κ := Nat × Nat) [5, 6, 7, 14, 15, 16, 17, 18, 19, 20, 21, 22, 23, 24, 25, 26, 27, 28, 29, 30, 31, 32, 33, 34, 35, 36, 37, 38, 39, 40, 41, 42, 43, 44, 45, 46, 47, 48, 49, 50, 51, 52, 53, 54, 55, 56, 57, 58, 59, 60, 61] (fun k => [(6, .d (.int .i64 k.1)), (5, .d (.int .i64 k.2)), (4, .own 1 0)]) (fun k => [(1, .arr 0 (9, 1) ((B.take k.1 ++ List.replicate (l.length - k.1) []).map .str))]) (fun k => k.1 ≤ l.length ∧ k.2 ≤ cuts.length ∧ B.drop k.1 = behL cuts k.2 ((l.drop k.1).map (·.set.name))) (fun k => l.length - k.1) (0, 0) ⟨Nat.zero_le _, Nat.zero_le _, by simpa using hB0⟩ ?_ ?_
    · conv => whnf
      repeat (first | exact trivial | (refine And.intro (by first | with_reducible rfl | exact congrArg (DV.int .i64) (by omega) | exact congrArg (DV.int .i64) (wrap64 (by omega) (by omega)) | exact congrArg (DV.int .i64) ((wrap64 (by omega) (by omega)).trans (by omega))) ?_; conv => whnf))
      refine And.intro (by simp) ?_
      conv => whnf
      repeat (first | exact trivial | (refine And.intro (by first | with_reducible rfl | exact congrArg (DV.int .i64) (by omega) | exact congrArg (DV.int .i64) (wrap64 (by omega) (by omega)) | exact congrArg (DV.int .i64) ((wrap64 (by omega) (by omega)).trans (by omega))) ?_; conv => whnf))
    · rintro ⟨i, k⟩ hk IH
      simp only at hk
      refine AWL.head E_ok Tryz.func59 2000 ?_
      conv => whnf
      refine caseB_split (fun h5 => ?_) (fun h5 => ?_)
      · have hlt : i < l.length := by simpa using h5
        obtain ⟨x, hx⟩ := some_of_lt hlt
        have hxl := hn x (List.mem_of_getElem? hx)
        have hcons : (l.drop i).map (·.set.name) = x.set.name :: (l.drop (i + 1)).map (·.set.name) := by
          have e1 : l[i] = x := by simpa [hlt] using hx
          rw [List.drop_eq_getElem_cons hlt, e1]
          rfl
        obtain ⟨-, hk2, hkB⟩ := hk
        rw [hcons, behL] at hkB
        have hBi : B[i]? = some (behAt cuts x.set.name (adv cuts x.set.name k)) := by
          have := congrArg (fun l => l[0]?) hkB
          simpa using this
        have hBd : B.drop (i + 1) = behL cuts (adv cuts x.set.name k) ((l.drop (i + 1)).map (·.set.name)) := by
          have := congrArg List.tail hkB
          simpa using this
        have hal := adv_le (n := x.set.name) hk2
        conv => whnf
        refine AWL.run E_ok Tryz.func59 2000 ?_
        conv => whnf
        refine elemP_at (at_map hx) rfl ?_
        conv => whnf
        refine AWL.run E_ok Tryz.func59 2000 ?_
        conv => whnf
        refine AWL.loop (κ := Nat) [5, 28, 29, 30, 31, 32, 33, 34, 35, 36, 37, 38, 39, 40, 41, 42] (fun j => [(5, .d (.int .i64 j))]) (fun _ => []) (fun j => j ≤ cuts.length ∧ adv cuts x.set.name k = adv cuts x.set.name j) (fun j => cuts.length - j) k ⟨hk2, rfl⟩ ?_ ?_
        · conv => whnf
          repeat (first | exact trivial | (refine And.intro (by first | with_reducible rfl | exact congrArg (DV.int .i64) (by omega) | exact congrArg (DV.int .i64) (wrap64 (by omega) (by omega)) | exact congrArg (DV.int .i64) ((wrap64 (by omega) (by omega)).trans (by omega))) ?_; conv => whnf))
        · intro j hj IH2
          have leave : ∀ (hjj : adv cuts x.set.name k = j), True := fun _ => trivial
          refine AWL.head E_ok Tryz.func59 2000 ?_
          conv => whnf
          refine caseB_split (fun h6 => ?_) (fun h6 => ?_)
          · have hlt2 : j < cuts.length := by simpa using h6
            obtain ⟨c, hc⟩ := some_of_lt hlt2
            have hcl2 := hcn c (List.mem_of_getElem? hc)
            conv => whnf
            refine AWL.run E_ok Tryz.func59 2000 ?_
            conv => whnf
            refine elemP_at (at_map hc) rfl ?_
            conv => whnf
            refine AWL.run E_ok Tryz.func59 2000 ?_
            conv => whnf
            with_reducible refine callP_eq (rorder_p _ _ hcl2 hxl) ?_
            conv => whnf
            refine AWL.run E_ok Tryz.func59 2000 ?_
            conv => whnf
            refine caseB_split (fun h7 => ?_) (fun h7 => ?_)
            · conv => whnf
              refine AWL.run E_ok Tryz.func59 2000 ?_
              conv => whnf
              refine AWL.back (IH2 (j + 1) ⟨by omega, by rw [hj.2]; exact adv_yes hc (by simpa using h7)⟩ (by omega)) ?_
              conv => whnf
              repeat (first | exact trivial | (refine And.intro (by first | with_reducible rfl | exact congrArg (DV.int .i64) (by omega) | exact congrArg (DV.int .i64) (wrap64 (by omega) (by omega)) | exact congrArg (DV.int .i64) ((wrap64 (by omega) (by omega)).trans (by omega))) ?_; conv => whnf))
            · have hadv : adv cuts x.set.name k = j := by rw [hj.2]; exact adv_no hc (by simpa using h7)
              rw [hadv] at hBi hBd
              conv => whnf
              refine AWL.run E_ok Tryz.func59 2000 ?_
              conv => whnf
              rcases Nat.eq_zero_or_pos j with hj0 | hj0
              · have hb0 : behAt cuts x.set.name j = [] := by simp [behAt, hj0]
                rw [hb0] at hBi
                refine caseB_no (by simp; omega) ?_
                conv => whnf
                refine AWL.run E_ok Tryz.func59 2000 ?_
                conv => whnf
                refine caseB_false ?_
                conv => whnf
                refine AWL.run E_ok Tryz.func59 2000 ?_
                conv => whnf
                refine AWL.back (IH (i + 1, j) ⟨by simp only; omega, by simp only; omega, hBd⟩ (by simp only; omega)) ?_
                conv => whnf
                repeat (first | exact trivial | (refine And.intro (by first | with_reducible rfl | exact congrArg (DV.int .i64) (by omega) | exact congrArg (DV.int .i64) (wrap64 (by omega) (by omega)) | exact congrArg (DV.int .i64) ((wrap64 (by omega) (by omega)).trans (by omega))) ?_; conv => whnf))
                refine And.intro (by rw [take_rep_same hBl hBi]) ?_
                conv => whnf
                repeat (first | exact trivial | (refine And.intro (by first | with_reducible rfl | exact congrArg (DV.int .i64) (by omega) | exact congrArg (DV.int .i64) (wrap64 (by omega) (by omega)) | exact congrArg (DV.int .i64) ((wrap64 (by omega) (by omega)).trans (by omega))) ?_; conv => whnf))
              · obtain ⟨c, hc⟩ := some_of_lt (l := cuts) (k := j - 1) (by omega)
                have hcl3 := hcn c (List.mem_of_getElem? hc)
                have hb0 : behAt cuts x.set.name j = if Nm.under x.set.name c then c else [] := by simp [behAt, hc]; omega
                rw [hb0] at hBi
                refine caseB_yes (by simp; omega) ?_
                conv => whnf
                refine AWL.run E_ok Tryz.func59 2000 ?_
                conv => whnf
                refine elemP_at (at_prev hc hj0 (by omega)) rfl ?_
                conv => whnf
                refine AWL.run E_ok Tryz.func59 2000 ?_
                conv => whnf
                with_reducible refine callP_eq (rin_p _ _ hxl hcl3) ?_
                conv => whnf
                refine AWL.run E_ok Tryz.func59 2000 ?_
                conv => whnf
                cases hu : Nm.under x.set.name c
                · rw [hu] at hBi
                  refine caseB_false ?_
                  conv => whnf
                  refine AWL.run E_ok Tryz.func59 2000 ?_
                  conv => whnf
                  refine AWL.back (IH (i + 1, j) ⟨by simp only; omega, by simp only; omega, hBd⟩ (by simp only; omega)) ?_
                  conv => whnf
                  repeat (first | exact trivial | (refine And.intro (by first | with_reducible rfl | exact congrArg (DV.int .i64) (by omega) | exact congrArg (DV.int .i64) (wrap64 (by omega) (by omega)) | exact congrArg (DV.int .i64) ((wrap64 (by omega) (by omega)).trans (by omega))) ?_; conv => whnf))
                  refine And.intro (by rw [take_rep_same hBl (by simpa using hBi)]) ?_
                  conv => whnf
                  repeat (first | exact trivial | (refine And.intro (by first | with_reducible rfl | exact congrArg (DV.int .i64) (by omega) | exact congrArg (DV.int .i64) (wrap64 (by omega) (by omega)) | exact congrArg (DV.int .i64) ((wrap64 (by omega) (by omega)).trans (by omega))) ?_; conv => whnf))
                · rw [hu] at hBi
                  refine caseB_true ?_
                  conv => whnf
                  refine AWL.run E_ok Tryz.func59 2000 ?_
                  conv => whnf
                  refine elemP_at (at_prev hc hj0 (by omega)) rfl ?_
                  conv => whnf
                  refine AWL.run E_ok Tryz.func59 2000 ?_
                  conv => whnf
                  refine need_intro ⟨by omega, by simp; omega⟩ ?_
                  conv => whnf
                  refine AWL.run E_ok Tryz.func59 2000 ?_
                  conv => whnf
                  refine elemP_intro (.str []) (by omega) (by simp only [Int.toNat_natCast, List.getElem?_map]; rw [rep_at hBl hlt]; rfl) rfl ?_
                  conv => whnf
                  refine AWL.run E_ok Tryz.func59 2000 ?_
                  conv => whnf
                  refine AWL.back (IH (i + 1, j) ⟨by simp only; omega, by simp only; omega, hBd⟩ (by simp only; omega)) ?_
                  conv => whnf
                  repeat (first | exact trivial | (refine And.intro (by first | with_reducible rfl | exact congrArg (DV.int .i64) (by omega) | exact congrArg (DV.int .i64) (wrap64 (by omega) (by omega)) | exact congrArg (DV.int .i64) ((wrap64 (by omega) (by omega)).trans (by omega))) ?_; conv => whnf))
                  refine And.intro (by rw [← take_rep (e := []) hBl (by simpa using hBi)]; simp [List.map_set]) ?_
                  conv => whnf
                  repeat (first | exact trivial | (refine And.intro (by first | with_reducible rfl | exact congrArg (DV.int .i64) (by omega) | exact congrArg (DV.int .i64) (wrap64 (by omega) (by omega)) | exact congrArg (DV.int .i64) ((wrap64 (by omega) (by omega)).trans (by omega))) ?_; conv => whnf))
          · have hadv : adv cuts x.set.name k = j := by rw [hj.2]; exact adv_end (by simpa using h6)
            rw [hadv] at hBi hBd
            conv => whnf
            refine AWL.run E_ok Tryz.func59 2000 ?_
            conv => whnf
            refine caseB_false ?_
            conv => whnf
            refine AWL.run E_ok Tryz.func59 2000 ?_
            conv => whnf
            rcases Nat.eq_zero_or_pos j with hj0 | hj0
            · have hb0 : behAt cuts x.set.name j = [] := by simp [behAt, hj0]
              rw [hb0] at hBi
              refine caseB_no (by simp; omega) ?_
              conv => whnf
              refine AWL.run E_ok Tryz.func59 2000 ?_
              conv => whnf
              refine caseB_false ?_
              conv => whnf
              refine AWL.run E_ok Tryz.func59 2000 ?_
              conv => whnf
              refine AWL.back (IH (i + 1, j) ⟨by simp only; omega, by simp only; omega, hBd⟩ (by simp only; omega)) ?_
              conv => whnf
              repeat (first | exact trivial | (refine And.intro (by first | with_reducible rfl | exact congrArg (DV.int .i64) (by omega) | exact congrArg (DV.int .i64) (wrap64 (by omega) (by omega)) | exact congrArg (DV.int .i64) ((wrap64 (by omega) (by omega)).trans (by omega))) ?_; conv => whnf))
              refine And.intro (by rw [take_rep_same hBl hBi]) ?_
              conv => whnf
              repeat (first | exact trivial | (refine And.intro (by first | with_reducible rfl | exact congrArg (DV.int .i64) (by omega) | exact congrArg (DV.int .i64) (wrap64 (by omega) (by omega)) | exact congrArg (DV.int .i64) ((wrap64 (by omega) (by omega)).trans (by omega))) ?_; conv => whnf))
            · obtain ⟨c, hc⟩ := some_of_lt (l := cuts) (k := j - 1) (by omega)
              have hcl3 := hcn c (List.mem_of_getElem? hc)
              have hb0 : behAt cuts x.set.name j = if Nm.under x.set.name c then c else [] := by simp [behAt, hc]; omega
              rw [hb0] at hBi
              refine caseB_yes (by simp; omega) ?_
              conv => whnf
              refine AWL.run E_ok Tryz.func59 2000 ?_
              conv => whnf
              refine elemP_at (at_prev hc hj0 (by omega)) rfl ?_
              conv => whnf
              refine AWL.run E_ok Tryz.func59 2000 ?_
              conv => whnf
              with_reducible refine callP_eq (rin_p _ _ hxl hcl3) ?_
              conv => whnf
              refine AWL.run E_ok Tryz.func59 2000 ?_
              conv => whnf
              cases hu : Nm.under x.set.name c
              · rw [hu] at hBi
                refine caseB_false ?_
                conv => whnf
                refine AWL.run E_ok Tryz.func59 2000 ?_
                conv => whnf
                refine AWL.back (IH (i + 1, j) ⟨by simp only; omega, by simp only; omega, hBd⟩ (by simp only; omega)) ?_
                conv => whnf
                repeat (first | exact trivial | (refine And.intro (by first | with_reducible rfl | exact congrArg (DV.int .i64) (by omega) | exact congrArg (DV.int .i64) (wrap64 (by omega) (by omega)) | exact congrArg (DV.int .i64) ((wrap64 (by omega) (by omega)).trans (by omega))) ?_; conv => whnf))
                refine And.intro (by rw [take_rep_same hBl (by simpa using hBi)]) ?_
                conv => whnf
                repeat (first | exact trivial | (refine And.intro (by first | with_reducible rfl | exact congrArg (DV.int .i64) (by omega) | exact congrArg (DV.int .i64) (wrap64 (by omega) (by omega)) | exact congrArg (DV.int .i64) ((wrap64 (by omega) (by omega)).trans (by omega))) ?_; conv => whnf))
              · rw [hu] at hBi
                refine caseB_true ?_
                conv => whnf
                refine AWL.run E_ok Tryz.func59 2000 ?_
                conv => whnf
                refine elemP_at (at_prev hc hj0 (by omega)) rfl ?_
                conv => whnf
                refine AWL.run E_ok Tryz.func59 2000 ?_
                conv => whnf
                refine need_intro ⟨by omega, by simp; omega⟩ ?_
                conv => whnf
                refine AWL.run E_ok Tryz.func59 2000 ?_
                conv => whnf
                refine elemP_intro (.str []) (by omega) (by simp only [Int.toNat_natCast, List.getElem?_map]; rw [rep_at hBl hlt]; rfl) rfl ?_
                conv => whnf
                refine AWL.run E_ok Tryz.func59 2000 ?_
                conv => whnf
                refine AWL.back (IH (i + 1, j) ⟨by simp only; omega, by simp only; omega, hBd⟩ (by simp only; omega)) ?_
                conv => whnf
                repeat (first | exact trivial | (refine And.intro (by first | with_reducible rfl | exact congrArg (DV.int .i64) (by omega) | exact congrArg (DV.int .i64) (wrap64 (by omega) (by omega)) | exact congrArg (DV.int .i64) ((wrap64 (by omega) (by omega)).trans (by omega))) ?_; conv => whnf))
                refine And.intro (by rw [← take_rep (e := []) hBl (by simpa using hBi)]; simp [List.map_set]) ?_
                conv => whnf
                repeat (first | exact trivial | (refine And.intro (by first | with_reducible rfl | exact congrArg (DV.int .i64) (by omega) | exact congrArg (DV.int .i64) (wrap64 (by omega) (by omega)) | exact congrArg (DV.int .i64) ((wrap64 (by omega) (by omega)).trans (by omega))) ?_; conv => whnf))
      · have hge : l.length ≤ i := by simpa using h5
        conv => whnf
        refine AWL.run E_ok Tryz.func59 2000 ?_
        conv => whnf
        simp only [show l.length - i = 0 by omega, List.replicate_zero, List.append_nil]
        rw [List.take_of_length_le (by omega)]

end Go.Proofs.YtebielkakdhelaaGreatDoor.P
