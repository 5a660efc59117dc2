/- Contracts by the engine: package zone, third part: the layout of a zone. Conditions: lengths that Go allows. -/
import Derived.Test.YtebielkakdhelaaGreatDoorZP18
import Derived.Test.YtebielkakdhelaaGreatDoorZM4
set_option linter.unusedVariables false
set_option linter.unusedSimpArgs false
namespace Go.Proofs.YtebielkakdhelaaGreatDoor.P
open Go Go.Eng
set_option maxRecDepth 100000
set_option maxHeartbeats 4000000

/-- The cuts as a map. -/
def cutMap (apex : Text) (l : List Signed) : List (DV × DV) := l.foldl (fun es s => if isCut apex s then putD (.str s.set.name) (.bool true) es else es) []
theorem cutMap_next {apex : Text} {l : List Signed} {k : Nat} {x : Signed} (h : l[k]? = some x) : cutMap apex (l.take (k + 1)) = if isCut apex x then putD (.str x.set.name) (.bool true) (cutMap apex (l.take k)) else cutMap apex (l.take k) := by
  rw [take_next h, cutMap, List.foldl_append]
  rfl
theorem keyEq_str (a b : Text) : keyEq (.str a) (.str b) = (a == b) := rfl
def StrKeys (es : List (DV × DV)) : Prop := ∀ p ∈ es, ∃ s, p.1 = DV.str s
theorem strKeys_put {n : Text} {v : DV} : ∀ {es : List (DV × DV)}, StrKeys es → StrKeys (putD (.str n) v es)
  | [], _, p, hp => by simp [putD] at hp; subst hp; exact ⟨_, rfl⟩
  | q :: es, h, p, hp => by
    unfold putD at hp
    split at hp
    · rcases List.mem_cons.1 hp with rfl | hp
      · exact ⟨_, rfl⟩
      · exact h p (List.mem_cons_of_mem _ hp)
    · rcases List.mem_cons.1 hp with rfl | hp
      · exact h _ (List.mem_cons_self ..)
      · exact strKeys_put (fun r hr => h r (List.mem_cons_of_mem _ hr)) p hp
theorem findD_put {n m : Text} {v : DV} : ∀ {es : List (DV × DV)}, StrKeys es → findD (.str m) (putD (.str n) v es) = if m == n then some v else findD (.str m) es
  | [], _ => by simp [putD, findD, keyEq_str]
  | q :: es, h => by
    obtain ⟨s, hs⟩ := h q (List.mem_cons_self ..)
    obtain ⟨q1, q2⟩ := q
    simp only at hs
    subst hs
    unfold putD
    simp only [keyEq_str]
    by_cases e : n = s
    · subst e
      simp only [beq_self_eq_true, if_true, findD, keyEq_str]
      by_cases e2 : m = n
      · simp [e2]
      · simp [e2]
    · have ih := findD_put (n := n) (m := m) (v := v) (es := es) (fun r hr => h r (List.mem_cons_of_mem _ hr))
      have e' : (n == s) = false := by simpa using e
      simp only [e', Bool.false_eq_true, if_false, findD, keyEq_str, ih]
      by_cases e2 : m = s
      · subst e2
        have : (m == n) = false := by simpa using fun h => e h.symm
        simp [this]
      · simp [e2]
theorem cutMap_ok (apex : Text) (l : List Signed) : StrKeys (cutMap apex l) ∧ ∀ n, findD (.str n) (cutMap apex l) = if (cutsL apex l).contains n then some (.bool true) else none := by
  have main : ∀ (l : List Signed) (es : List (DV × DV)) (C : List Text), StrKeys es → (∀ n, findD (.str n) es = if C.contains n then some (.bool true) else none) →
      StrKeys (l.foldl (fun es s => if isCut apex s then putD (.str s.set.name) (.bool true) es else es) es) ∧ ∀ n, findD (.str n) (l.foldl (fun es s => if isCut apex s then putD (.str s.set.name) (.bool true) es else es) es) = if (C ++ cutsL apex l).contains n then some (.bool true) else none := by
    intro l
    induction l with
    | nil => intro es C h1 h2; exact ⟨h1, by simpa [cutsL] using h2⟩
    | cons s l ih =>
      intro es C h1 h2
      cases hc : isCut apex s
      · have e : cutsL apex (s :: l) = cutsL apex l := by simp [cutsL, hc]
        simp only [List.foldl_cons, hc, Bool.false_eq_true, if_false, e]
        exact ih es C h1 h2
      · have e : cutsL apex (s :: l) = s.set.name :: cutsL apex l := by simp [cutsL, hc]
        simp only [List.foldl_cons, hc, if_true, e]
        have := ih (putD (.str s.set.name) (.bool true) es) (C ++ [s.set.name]) (strKeys_put h1) (fun n => by
          rw [findD_put h1, h2 n]
          by_cases h : n = s.set.name
          · simp [h]
          · simp [h])
        simpa using this
  have := main l [] [] (fun p hp => by simp at hp) (fun n => by simp [findD])
  simpa [cutMap] using this

/-- The cut that a name is behind, as one goes on. -/
def layS (C : List Text) (cut n : Text) : Text := if (if cut != [] && !Nm.under n cut then [] else cut) == [] && C.contains n then n else (if cut != [] && !Nm.under n cut then [] else cut)
def layL (C : List Text) : Text → List Text → List Text
  | _, [] => []
  | cut, n :: ns => layS C cut n :: layL C (layS C cut n) ns
theorem layL_len (C : List Text) : ∀ (k : Text) (ns : List Text), (layL C k ns).length = ns.length
  | _, [] => rfl
  | k, n :: ns => by simp [layL, layL_len C _ ns]
def layZ (z : Zone) : List Text := layL (cutsL z.apex z.sets) [] (z.sets.map (·.set.name))
theorem layZ_len (z : Zone) : (layZ z).length = z.sets.length := by simp [layZ, layL_len]
theorem layS_ok {C : List Text} {cut n : Text} (hn : Nm.valid n = true) (hc : cut = [] ∨ Nm.valid cut = true) : layS C cut n = [] ∨ Nm.valid (layS C cut n) = true := by
  cases h : (cut != [] && !Nm.under n cut)
  · simp only [layS, h, Bool.false_eq_true, if_false]
    split
    · exact .inr hn
    · exact hc
  · simp only [layS, h, if_true]
    split
    · exact .inr hn
    · exact .inl rfl

theorem lay_p (z : Zone) (hl : z.sets.length ≤ 1000000) (hv : ∀ s ∈ z.sets, Nm.valid s.set.name = true) : PCalls E 62 [z.enc] (· = layEnc z (layZ z)) := by
  have hBl := layZ_len z
  have hB0 : layZ z = layL (cutsL z.apex z.sets) [] (z.sets.map (·.set.name)) := rfl
  generalize layZ z = B at *
  obtain ⟨apex, l⟩ := z
  simp only at *
  refine PCalls.run E_ok (fn := Tryz.f62) Tryz.func62 (body := Tryz.f62.body.getD .skip) rfl (by decide) 2000 ?_
  conv => whnf
  conv => whnf
  refine AWL.run E_ok Tryz.func62 2000 ?_
  conv => whnf
  refine AWL.loop (κ := Nat) [5, 18, 19, 20, 21, 22, 23, 24, 25, 26, 27, 28, 29, 30, 31, 32, 33, 34, 35, 36, 37, 38, 39] (fun k => [(18, .d (.int .i64 k)), (3, .map 2)]) (fun k => [(2, .map (cutMap apex (l.take k)))]) (fun k => k ≤ l.length) (fun k => l.length - k) 0 (Nat.zero_le _) ?_ ?_
  · conv => whnf
    repeat (first | exact trivial | (refine And.intro (by first | with_reducible rfl | exact congrArg (DV.int .i64) (by omega) | exact rfl | exact congrArg (DV.int .i64) (wrap64 (by omega) (by omega)) | exact congrArg (DV.int .i64) ((wrap64 (by omega) (by omega)).trans (by omega))) ?_; conv => whnf))
  · intro k hk IH
    refine AWL.head E_ok Tryz.func62 2000 ?_
    conv => whnf
    refine caseB_split (fun h5 => ?_) (fun h5 => ?_)
    · have hlt : k < l.length := by simpa using h5
      obtain ⟨x, hx⟩ := some_of_lt hlt
      have hnext := cutMap_next (apex := apex) hx
      have hkeys := (cutMap_ok apex (l.take k)).1
      conv => whnf
      refine AWL.run E_ok Tryz.func62 2000 ?_
      conv => whnf
      repeat' (first | with_reducible refine elemP_at (at_map hx) rfl ?_ | with_reducible refine caseB_true ?_ | with_reducible refine caseB_false ?_ | with_reducible refine caseB_yes (by decide) ?_ | with_reducible refine caseB_no (by decide) ?_ | with_reducible refine caseB_yes (by assumption) ?_ | with_reducible refine caseB_no (by assumption) ?_ | with_reducible refine caseB_split (fun _ => ?_) (fun _ => ?_) | ((conv => whnf); (with_reducible refine AWL.run E_ok Tryz.func62 2000 ?_); (conv => whnf); fail_if_success (with_reducible refine AWL.of ?_)) | ((conv => whnf); (with_reducible refine DWL.run E_ok 2000 ?_); (conv => whnf); fail_if_success (with_reducible refine DWL.is ?_)) | ((conv => whnf); (with_reducible refine SWL.run E_ok 2000 ?_); (conv => whnf); fail_if_success (with_reducible refine SWL.is ?_)))
      all_goals first
        | (refine need_intro ⟨⟨_, rfl⟩, hkeys⟩ ?_
           have hc : isCut apex x = true := by simp_all [isCut])
        | (have hc : isCut apex x = false := by simp_all [isCut])
      all_goals
        rw [hc] at hnext
        conv => whnf
        refine AWL.run E_ok Tryz.func62 2000 ?_
        conv => whnf
        refine AWL.back (IH (k + 1) (by omega) (by omega)) ?_
        conv => whnf
        repeat (first | exact trivial | (refine And.intro (by first | with_reducible rfl | exact congrArg (DV.int .i64) (by omega) | exact congrArg (DV.int .i64) (wrap64 (by omega) (by omega)) | exact congrArg (DV.int .i64) ((wrap64 (by omega) (by omega)).trans (by omega))) ?_; conv => whnf))
        refine And.intro (by rw [hnext]; simp) ?_
        conv => whnf
        repeat (first | exact trivial | (refine And.intro (by first | with_reducible rfl | exact congrArg (DV.int .i64) (by omega) | exact congrArg (DV.int .i64) (wrap64 (by omega) (by omega)) | exact congrArg (DV.int .i64) ((wrap64 (by omega) (by omega)).trans (by omega))) ?_; conv => whnf))
    · have hge : l.length ≤ k := by simpa using h5
      rw [List.take_of_length_le hge]
      conv => whnf
      refine AWL.run E_ok Tryz.func62 2000 ?_
      conv => whnf
      refine AWL.drawT E_ok E_mixed (.alt 0 (.alt 1 (.alt 2 (.alt 3 (.alt 4 (.alt 5 (.alt 6 (.alt 7 (.alt 8 .leaf .leaf) .leaf) (.alt 7 (.alt 6 (.alt 8 .leaf .leaf) .leaf) .leaf)) (.alt 7 (.alt 5 (.alt 6 (.alt 8 .leaf .leaf) .leaf) .leaf) .leaf)) (.alt 7 (.alt 4 (.alt 5 (.alt 6 (.alt 8 .leaf .leaf) .leaf) .leaf) .leaf) .leaf)) (.alt 7 (.alt 3 (.alt 4 (.alt 5 (.alt 6 (.alt 8 .leaf .leaf) .leaf) .leaf) .leaf) .leaf) .leaf)) (.alt 7 (.alt 2 (.alt 3 (.alt 4 (.alt 5 (.alt 6 (.alt 8 .leaf .leaf) .leaf) .leaf) .leaf) .leaf) .leaf) .leaf)) (.alt 7 (.alt 1 (.alt 2 (.alt 3 (.alt 4 (.alt 5 (.alt 6 (.alt 8 .leaf .leaf) .leaf) .leaf) .leaf) .leaf) .leaf) .leaf) .leaf)) (.alt 1 (.alt 0 (.alt 2 (.alt 3 (.alt 4 (.alt 5 (.alt 6 (.alt 7 (.alt 8 .leaf .leaf) .leaf) (.alt 7 (.alt 6 (.alt 8 .leaf .leaf) .leaf) .leaf)) (.alt 7 (.alt 5 (.alt 6 (.alt 8 .leaf .leaf) .leaf) .leaf) .leaf)) (.alt 7 (.alt 4 (.alt 5 (.alt 6 (.alt 8 .leaf .leaf) .leaf) .leaf) .leaf) .leaf)) (.alt 7 (.alt 3 (.alt 4 (.alt 5 (.alt 6 (.alt 8 .leaf .leaf) .leaf) .leaf) .leaf) .leaf) .leaf)) (.alt 7 (.alt 2 (.alt 3 (.alt 4 (.alt 5 (.alt 6 (.alt 8 .leaf .leaf) .leaf) .leaf) .leaf) .leaf) .leaf) .leaf)) (.alt 2 (.alt 0 (.alt 3 (.alt 4 (.alt 5 (.alt 6 (.alt 7 (.alt 8 .leaf .leaf) .leaf) (.alt 7 (.alt 6 (.alt 8 .leaf .leaf) .leaf) .leaf)) (.alt 7 (.alt 5 (.alt 6 (.alt 8 .leaf .leaf) .leaf) .leaf) .leaf)) (.alt 7 (.alt 4 (.alt 5 (.alt 6 (.alt 8 .leaf .leaf) .leaf) .leaf) .leaf) .leaf)) (.alt 7 (.alt 3 (.alt 4 (.alt 5 (.alt 6 (.alt 8 .leaf .leaf) .leaf) .leaf) .leaf) .leaf) .leaf)) (.alt 3 (.alt 0 (.alt 4 (.alt 5 (.alt 6 (.alt 7 (.alt 8 .leaf .leaf) .leaf) (.alt 7 (.alt 6 (.alt 8 .leaf .leaf) .leaf) .leaf)) (.alt 7 (.alt 5 (.alt 6 (.alt 8 .leaf .leaf) .leaf) .leaf) .leaf)) (.alt 7 (.alt 4 (.alt 5 (.alt 6 (.alt 8 .leaf .leaf) .leaf) .leaf) .leaf) .leaf)) (.alt 4 (.alt 0 (.alt 5 (.alt 6 (.alt 7 (.alt 8 .leaf .leaf) .leaf) (.alt 7 (.alt 6 (.alt 8 .leaf .leaf) .leaf) .leaf)) (.alt 7 (.alt 5 (.alt 6 (.alt 8 .leaf .leaf) .leaf) .leaf) .leaf)) (.alt 5 (.alt 0 (.alt 6 (.alt 7 (.alt 8 .leaf .leaf) .leaf) (.alt 7 (.alt 6 (.alt 8 .leaf .leaf) .leaf) .leaf)) (.alt 7 (.alt 0 (.alt 6 (.alt 8 .leaf .leaf) .leaf) .leaf) .leaf)) (.alt 7 (.alt 0 (.alt 5 (.alt 6 (.alt 8 .leaf .leaf) .leaf) .leaf) (.alt 5 (.alt 0 (.alt 6 (.alt 8 .leaf .leaf) .leaf) .leaf) .leaf)) .leaf))) (.alt 7 (.alt 0 (.alt 4 (.alt 5 (.alt 6 (.alt 8 .leaf .leaf) .leaf) .leaf) .leaf) (.alt 4 (.alt 0 (.alt 5 (.alt 6 (.alt 8 .leaf .leaf) .leaf) .leaf) (.alt 5 (.alt 0 (.alt 6 (.alt 8 .leaf .leaf) .leaf) .leaf) .leaf)) .leaf)) .leaf))) (.alt 7 (.alt 0 (.alt 3 (.alt 4 (.alt 5 (.alt 6 (.alt 8 .leaf .leaf) .leaf) .leaf) .leaf) .leaf) (.alt 3 (.alt 0 (.alt 4 (.alt 5 (.alt 6 (.alt 8 .leaf .leaf) .leaf) .leaf) .leaf) (.alt 4 (.alt 0 (.alt 5 (.alt 6 (.alt 8 .leaf .leaf) .leaf) .leaf) (.alt 5 (.alt 0 (.alt 6 (.alt 8 .leaf .leaf) .leaf) .leaf) .leaf)) .leaf)) .leaf)) .leaf))) (.alt 7 (.alt 0 (.alt 2 (.alt 3 (.alt 4 (.alt 5 (.alt 6 (.alt 8 .leaf .leaf) .leaf) .leaf) .leaf) .leaf) .leaf) (.alt 2 (.alt 0 (.alt 3 (.alt 4 (.alt 5 (.alt 6 (.alt 8 .leaf .leaf) .leaf) .leaf) .leaf) .leaf) (.alt 3 (.alt 0 (.alt 4 (.alt 5 (.alt 6 (.alt 8 .leaf .leaf) .leaf) .leaf) .leaf) (.alt 4 (.alt 0 (.alt 5 (.alt 6 (.alt 8 .leaf .leaf) .leaf) .leaf) (.alt 5 (.alt 0 (.alt 6 (.alt 8 .leaf .leaf) .leaf) .leaf) .leaf)) .leaf)) .leaf)) .leaf)) .leaf))) (.alt 7 (.alt 0 (.alt 1 (.alt 2 (.alt 3 (.alt 4 (.alt 5 (.alt 6 (.alt 8 .leaf .leaf) .leaf) .leaf) .leaf) .leaf) .leaf) .leaf) (.alt 1 (.alt 0 (.alt 2 (.alt 3 (.alt 4 (.alt 5 (.alt 6 (.alt 8 .leaf .leaf) .leaf) .leaf) .leaf) .leaf) .leaf) (.alt 2 (.alt 0 (.alt 3 (.alt 4 (.alt 5 (.alt 6 (.alt 8 .leaf .leaf) .leaf) .leaf) .leaf) .leaf) (.alt 3 (.alt 0 (.alt 4 (.alt 5 (.alt 6 (.alt 8 .leaf .leaf) .leaf) .leaf) .leaf) (.alt 4 (.alt 0 (.alt 5 (.alt 6 (.alt 8 .leaf .leaf) .leaf) .leaf) (.alt 5 (.alt 0 (.alt 6 (.alt 8 .leaf .leaf) .leaf) .leaf) .leaf)) .leaf)) .leaf)) .leaf)) .leaf)) .leaf))) ?pstate ?qstate (by kernel_rfl) ?tree ?first ?second
      case tree =>
        repeat' ((try conv => whnf); first
          | with_reducible exact True.intro
          | with_reducible exact TWL.fst
          | with_reducible exact TWL.snd
          | with_reducible refine need_intro (by simp; omega) ?_
          | with_reducible refine And.intro ?_ ?_
          | with_reducible refine TWL.step E_ok ?_)
      case first =>
        conv => whnf
        conv => whnf
        refine AWL.run E_ok Tryz.func62 2000 ?_
        conv => whnf
        refine AWL.loop (κ := Nat × Text) [7, 8, 9, 10, 11, 12, 51, 52, 53, 54, 55, 56, 57, 58, 59, 60, 61, 62, 63, 64, 65, 66, 67, 68, 69, 70, 71, 72, 73, 74, 75, 76, 77, 78, 79, 80, 81, 82] (fun k => [(51, .d (.int .i64 k.1)), (7, .d (.str k.2))]) (fun k => [(3, .arr 0 (9, 1) ((B.take k.1 ++ List.replicate (l.length - k.1) []).map .str))]) (fun k => k.1 ≤ l.length ∧ B.drop k.1 = layL (cutsL apex l) k.2 ((l.drop k.1).map (·.set.name)) ∧ (k.2 = [] ∨ Nm.valid k.2 = true)) (fun k => l.length - k.1) (0, []) ⟨Nat.zero_le _, by simpa using hB0, .inl rfl⟩ ?_ ?_
        · conv => whnf
          repeat (first | exact trivial | (refine And.intro (by first | with_reducible rfl | exact congrArg (DV.int .i64) (by omega) | exact congrArg (DV.int .i64) (wrap64 (by omega) (by omega)) | exact congrArg (DV.int .i64) ((wrap64 (by omega) (by omega)).trans (by omega))) ?_; conv => whnf))
          refine And.intro (by simp) ?_
          conv => whnf
          repeat (first | exact trivial | (refine And.intro (by first | with_reducible rfl | exact congrArg (DV.int .i64) (by omega) | exact congrArg (DV.int .i64) (wrap64 (by omega) (by omega)) | exact congrArg (DV.int .i64) ((wrap64 (by omega) (by omega)).trans (by omega))) ?_; conv => whnf))
        · rintro ⟨i, cut⟩ hk IH
          simp only at hk
          refine AWL.head E_ok Tryz.func62 2000 ?_
          conv => whnf
          refine caseB_split (fun h5 => ?_) (fun h5 => ?_)
          · have hlt : i < l.length := by simpa using h5
            obtain ⟨x, hx⟩ := some_of_lt hlt
            have hxv := hv x (List.mem_of_getElem? hx)
            have hxl := valid_len hxv
            have hcons : (l.drop i).map (·.set.name) = x.set.name :: (l.drop (i + 1)).map (·.set.name) := by
              have e1 : l[i] = x := by simpa [hlt] using hx
              rw [List.drop_eq_getElem_cons hlt, e1]
              rfl
            obtain ⟨-, hkB, hcut⟩ := hk
            rw [hcons, layL] at hkB
            have hBi : B[i]? = some (layS (cutsL apex l) cut x.set.name) := by
              have := congrArg (fun l => l[0]?) hkB
              simpa using this
            have hBd : B.drop (i + 1) = layL (cutsL apex l) (layS (cutsL apex l) cut x.set.name) ((l.drop (i + 1)).map (·.set.name)) := by
              have := congrArg List.tail hkB
              simpa using this
            have hfind := (cutMap_ok apex l).2 x.set.name
            have hkeys := (cutMap_ok apex l).1
            conv => whnf
            refine AWL.run E_ok Tryz.func62 2000 ?_
            conv => whnf
            refine elemP_at (at_map hx) rfl ?_
            conv => whnf
            refine AWL.run E_ok Tryz.func62 2000 ?_
            conv => whnf
            rcases hcut' : cut with _ | ⟨c0, cut0⟩
            · subst hcut'
              refine caseB_no (by simp) ?_
              conv => whnf
              refine AWL.run E_ok Tryz.func62 2000 ?_
              conv => whnf
              refine caseB_yes (by simp) ?_
              conv => whnf
              refine AWL.run E_ok Tryz.func62 2000 ?_
              conv => whnf
              refine lookP_intro (.bool false) (.bool false) (v := .bool ((cutsL apex l).contains x.set.name)) (f := (cutsL apex l).contains x.set.name) ⟨_, rfl⟩ hkeys (fun w => by kernel_rfl) (fun _ _ => .bool _) (by rw [hfind]; split <;> simp_all) (by rw [hfind]; split <;> simp_all) ?_
              conv => whnf
              refine AWL.run E_ok Tryz.func62 2000 ?_
              conv => whnf
              cases hcc : (cutsL apex l).contains x.set.name
              · refine caseB_false ?_
                conv => whnf
                refine AWL.run E_ok Tryz.func62 2000 ?_
                conv => whnf
                have hS : layS (cutsL apex l) ([] : Text) x.set.name = [] := by simp [layS]; intro h; exact absurd h (by simpa using hcc)
                refine need_intro ⟨by omega, by simp; omega⟩ ?_
                conv => whnf
                refine AWL.run E_ok Tryz.func62 2000 ?_
                conv => whnf
                refine elemP_intro (.str []) (by omega) (by simp only [Int.toNat_natCast, List.getElem?_map]; rw [rep_at hBl hlt]; rfl) rfl ?_
                conv => whnf
                refine AWL.run E_ok Tryz.func62 2000 ?_
                conv => whnf
                refine AWL.back (IH (i + 1, []) ⟨by simp only; omega, by rw [hS] at hBd; exact hBd, by have hq := layS_ok (C := cutsL apex l) hxv hcut; rw [hS] at hq; exact hq⟩ (by simp only; omega)) ?_
                conv => whnf
                repeat (first | exact trivial | (refine And.intro (by first | with_reducible rfl | exact congrArg (DV.int .i64) (by omega) | exact congrArg (DV.int .i64) (wrap64 (by omega) (by omega)) | exact congrArg (DV.int .i64) ((wrap64 (by omega) (by omega)).trans (by omega))) ?_; conv => whnf))
                refine And.intro (by rw [← take_rep (e := []) (x := []) hBl (by rw [hS] at hBi; exact hBi)]; simp [List.map_set]) ?_
                conv => whnf
                repeat (first | exact trivial | (refine And.intro (by first | with_reducible rfl | exact congrArg (DV.int .i64) (by omega) | exact congrArg (DV.int .i64) (wrap64 (by omega) (by omega)) | exact congrArg (DV.int .i64) ((wrap64 (by omega) (by omega)).trans (by omega))) ?_; conv => whnf))
              · refine caseB_true ?_
                conv => whnf
                refine AWL.run E_ok Tryz.func62 2000 ?_
                conv => whnf
                have hS : layS (cutsL apex l) ([] : Text) x.set.name = x.set.name := by simp [layS]; intro h; exact absurd (by simpa using hcc) h
                refine need_intro ⟨by omega, by simp; omega⟩ ?_
                conv => whnf
                refine AWL.run E_ok Tryz.func62 2000 ?_
                conv => whnf
                refine elemP_intro (.str []) (by omega) (by simp only [Int.toNat_natCast, List.getElem?_map]; rw [rep_at hBl hlt]; rfl) rfl ?_
                conv => whnf
                refine AWL.run E_ok Tryz.func62 2000 ?_
                conv => whnf
                refine AWL.back (IH (i + 1, x.set.name) ⟨by simp only; omega, by rw [hS] at hBd; exact hBd, by have hq := layS_ok (C := cutsL apex l) hxv hcut; rw [hS] at hq; exact hq⟩ (by simp only; omega)) ?_
                conv => whnf
                repeat (first | exact trivial | (refine And.intro (by first | with_reducible rfl | exact congrArg (DV.int .i64) (by omega) | exact congrArg (DV.int .i64) (wrap64 (by omega) (by omega)) | exact congrArg (DV.int .i64) ((wrap64 (by omega) (by omega)).trans (by omega))) ?_; conv => whnf))
                refine And.intro (by rw [← take_rep (e := []) (x := x.set.name) hBl (by rw [hS] at hBi; exact hBi)]; simp [List.map_set]) ?_
                conv => whnf
                repeat (first | exact trivial | (refine And.intro (by first | with_reducible rfl | exact congrArg (DV.int .i64) (by omega) | exact congrArg (DV.int .i64) (wrap64 (by omega) (by omega)) | exact congrArg (DV.int .i64) ((wrap64 (by omega) (by omega)).trans (by omega))) ?_; conv => whnf))
            · have hcv : Nm.valid cut = true := by
                rcases hcut with h | h
                · rw [hcut'] at h; cases h
                · exact h
              have hcl := valid_len hcv
              have hun := nunder_p x.set.name cut (by unfold maxLen; omega) (by unfold maxLen; omega)
              rw [under_v hxv hcv] at hun
              rw [← hcut']
              have hne : cut ≠ [] := by rw [hcut']; simp
              refine caseB_yes (by simpa using hne) ?_
              conv => whnf
              refine AWL.run E_ok Tryz.func62 2000 ?_
              conv => whnf
              with_reducible refine callP_eq (hun) ?_
              conv => whnf
              refine AWL.run E_ok Tryz.func62 2000 ?_
              conv => whnf
              cases hu : Nm.under x.set.name cut
              · refine caseB_yes rfl ?_
                conv => whnf
                refine AWL.run E_ok Tryz.func62 2000 ?_
                conv => whnf
                refine caseB_yes (by simp) ?_
                conv => whnf
                refine AWL.run E_ok Tryz.func62 2000 ?_
                conv => whnf
                refine lookP_intro (.bool false) (.bool false) (v := .bool ((cutsL apex l).contains x.set.name)) (f := (cutsL apex l).contains x.set.name) ⟨_, rfl⟩ hkeys (fun w => by kernel_rfl) (fun _ _ => .bool _) (by rw [hfind]; split <;> simp_all) (by rw [hfind]; split <;> simp_all) ?_
                conv => whnf
                refine AWL.run E_ok Tryz.func62 2000 ?_
                conv => whnf
                cases hcc : (cutsL apex l).contains x.set.name
                · refine caseB_false ?_
                  conv => whnf
                  refine AWL.run E_ok Tryz.func62 2000 ?_
                  conv => whnf
                  have hS : layS (cutsL apex l) cut x.set.name = [] := by simp [layS, hu, hne]; intro h; exact absurd h (by simpa using hcc)
                  refine need_intro ⟨by omega, by simp; omega⟩ ?_
                  conv => whnf
                  refine AWL.run E_ok Tryz.func62 2000 ?_
                  conv => whnf
                  refine elemP_intro (.str []) (by omega) (by simp only [Int.toNat_natCast, List.getElem?_map]; rw [rep_at hBl hlt]; rfl) rfl ?_
                  conv => whnf
                  refine AWL.run E_ok Tryz.func62 2000 ?_
                  conv => whnf
                  refine AWL.back (IH (i + 1, []) ⟨by simp only; omega, by rw [hS] at hBd; exact hBd, by have hq := layS_ok (C := cutsL apex l) hxv hcut; rw [hS] at hq; exact hq⟩ (by simp only; omega)) ?_
                  conv => whnf
                  repeat (first | exact trivial | (refine And.intro (by first | with_reducible rfl | exact congrArg (DV.int .i64) (by omega) | exact congrArg (DV.int .i64) (wrap64 (by omega) (by omega)) | exact congrArg (DV.int .i64) ((wrap64 (by omega) (by omega)).trans (by omega))) ?_; conv => whnf))
                  refine And.intro (by rw [← take_rep (e := []) (x := []) hBl (by rw [hS] at hBi; exact hBi)]; simp [List.map_set]) ?_
                  conv => whnf
                  repeat (first | exact trivial | (refine And.intro (by first | with_reducible rfl | exact congrArg (DV.int .i64) (by omega) | exact congrArg (DV.int .i64) (wrap64 (by omega) (by omega)) | exact congrArg (DV.int .i64) ((wrap64 (by omega) (by omega)).trans (by omega))) ?_; conv => whnf))
                · refine caseB_true ?_
                  conv => whnf
                  refine AWL.run E_ok Tryz.func62 2000 ?_
                  conv => whnf
                  have hS : layS (cutsL apex l) cut x.set.name = x.set.name := by simp [layS, hu, hne]; intro h; exact absurd (by simpa using hcc) h
                  refine need_intro ⟨by omega, by simp; omega⟩ ?_
                  conv => whnf
                  refine AWL.run E_ok Tryz.func62 2000 ?_
                  conv => whnf
                  refine elemP_intro (.str []) (by omega) (by simp only [Int.toNat_natCast, List.getElem?_map]; rw [rep_at hBl hlt]; rfl) rfl ?_
                  conv => whnf
                  refine AWL.run E_ok Tryz.func62 2000 ?_
                  conv => whnf
                  refine AWL.back (IH (i + 1, x.set.name) ⟨by simp only; omega, by rw [hS] at hBd; exact hBd, by have hq := layS_ok (C := cutsL apex l) hxv hcut; rw [hS] at hq; exact hq⟩ (by simp only; omega)) ?_
                  conv => whnf
                  repeat (first | exact trivial | (refine And.intro (by first | with_reducible rfl | exact congrArg (DV.int .i64) (by omega) | exact congrArg (DV.int .i64) (wrap64 (by omega) (by omega)) | exact congrArg (DV.int .i64) ((wrap64 (by omega) (by omega)).trans (by omega))) ?_; conv => whnf))
                  refine And.intro (by rw [← take_rep (e := []) (x := x.set.name) hBl (by rw [hS] at hBi; exact hBi)]; simp [List.map_set]) ?_
                  conv => whnf
                  repeat (first | exact trivial | (refine And.intro (by first | with_reducible rfl | exact congrArg (DV.int .i64) (by omega) | exact congrArg (DV.int .i64) (wrap64 (by omega) (by omega)) | exact congrArg (DV.int .i64) ((wrap64 (by omega) (by omega)).trans (by omega))) ?_; conv => whnf))
              · have hS : layS (cutsL apex l) cut x.set.name = cut := by simp [layS, hu, hne]
                refine caseB_no rfl ?_
                conv => whnf
                refine AWL.run E_ok Tryz.func62 2000 ?_
                conv => whnf
                refine caseB_no (by simpa using hne) ?_
                conv => whnf
                refine AWL.run E_ok Tryz.func62 2000 ?_
                conv => whnf
                refine caseB_false ?_
                conv => whnf
                refine AWL.run E_ok Tryz.func62 2000 ?_
                conv => whnf
                refine need_intro ⟨by omega, by simp; omega⟩ ?_
                conv => whnf
                refine AWL.run E_ok Tryz.func62 2000 ?_
                conv => whnf
                refine elemP_intro (.str []) (by omega) (by simp only [Int.toNat_natCast, List.getElem?_map]; rw [rep_at hBl hlt]; rfl) rfl ?_
                conv => whnf
                refine AWL.run E_ok Tryz.func62 2000 ?_
                conv => whnf
                refine AWL.back (IH (i + 1, cut) ⟨by simp only; omega, by rw [hS] at hBd; exact hBd, by have hq := layS_ok (C := cutsL apex l) hxv hcut; rw [hS] at hq; exact hq⟩ (by simp only; omega)) ?_
                conv => whnf
                repeat (first | exact trivial | (refine And.intro (by first | with_reducible rfl | exact congrArg (DV.int .i64) (by omega) | exact congrArg (DV.int .i64) (wrap64 (by omega) (by omega)) | exact congrArg (DV.int .i64) ((wrap64 (by omega) (by omega)).trans (by omega))) ?_; conv => whnf))
                refine And.intro (by rw [← take_rep (e := []) (x := cut) hBl (by rw [hS] at hBi; exact hBi)]; simp [List.map_set]) ?_
                conv => whnf
                repeat (first | exact trivial | (refine And.intro (by first | with_reducible rfl | exact congrArg (DV.int .i64) (by omega) | exact congrArg (DV.int .i64) (wrap64 (by omega) (by omega)) | exact congrArg (DV.int .i64) ((wrap64 (by omega) (by omega)).trans (by omega))) ?_; conv => whnf))
          · have hge : l.length ≤ i := by simpa using h5
            conv => whnf
            refine AWL.run E_ok Tryz.func62 2000 ?_
            conv => whnf
            simp only [show l.length - i = 0 by omega, List.replicate_zero, List.append_nil]
            rw [List.take_of_length_le (by omega)]
      case second =>
        conv => whnf
        conv => whnf
        refine AWL.run E_ok Tryz.func62 2000 ?_
        conv => whnf
        refine AWL.loop (κ := Nat × Text) [7, 8, 9, 10, 11, 12, 51, 52, 53, 54, 55, 56, 57, 58, 59, 60, 61, 62, 63, 64, 65, 66, 67, 68, 69, 70, 71, 72, 73, 74, 75, 76, 77, 78, 79, 80, 81, 82] (fun k => [(51, .d (.int .i64 k.1)), (7, .d (.str k.2))]) (fun k => [(4, .arr 0 (9, 1) ((B.take k.1 ++ List.replicate (l.length - k.1) []).map .str))]) (fun k => k.1 ≤ l.length ∧ B.drop k.1 = layL (cutsL apex l) k.2 ((l.drop k.1).map (·.set.name)) ∧ (k.2 = [] ∨ Nm.valid k.2 = true)) (fun k => l.length - k.1) (0, []) ⟨Nat.zero_le _, by simpa using hB0, .inl rfl⟩ ?_ ?_
        · conv => whnf
          repeat (first | exact trivial | (refine And.intro (by first | with_reducible rfl | exact congrArg (DV.int .i64) (by omega) | exact congrArg (DV.int .i64) (wrap64 (by omega) (by omega)) | exact congrArg (DV.int .i64) ((wrap64 (by omega) (by omega)).trans (by omega))) ?_; conv => whnf))
          refine And.intro (by simp) ?_
          conv => whnf
          repeat (first | exact trivial | (refine And.intro (by first | with_reducible rfl | exact congrArg (DV.int .i64) (by omega) | exact congrArg (DV.int .i64) (wrap64 (by omega) (by omega)) | exact congrArg (DV.int .i64) ((wrap64 (by omega) (by omega)).trans (by omega))) ?_; conv => whnf))
        · rintro ⟨i, cut⟩ hk IH
          simp only at hk
          refine AWL.head E_ok Tryz.func62 2000 ?_
          conv => whnf
          refine caseB_split (fun h5 => ?_) (fun h5 => ?_)
          · have hlt : i < l.length := by simpa using h5
            obtain ⟨x, hx⟩ := some_of_lt hlt
            have hxv := hv x (List.mem_of_getElem? hx)
            have hxl := valid_len hxv
            have hcons : (l.drop i).map (·.set.name) = x.set.name :: (l.drop (i + 1)).map (·.set.name) := by
              have e1 : l[i] = x := by simpa [hlt] using hx
              rw [List.drop_eq_getElem_cons hlt, e1]
              rfl
            obtain ⟨-, hkB, hcut⟩ := hk
            rw [hcons, layL] at hkB
            have hBi : B[i]? = some (layS (cutsL apex l) cut x.set.name) := by
              have := congrArg (fun l => l[0]?) hkB
              simpa using this
            have hBd : B.drop (i + 1) = layL (cutsL apex l) (layS (cutsL apex l) cut x.set.name) ((l.drop (i + 1)).map (·.set.name)) := by
              have := congrArg List.tail hkB
              simpa using this
            have hfind := (cutMap_ok apex l).2 x.set.name
            have hkeys := (cutMap_ok apex l).1
            conv => whnf
            refine AWL.run E_ok Tryz.func62 2000 ?_
            conv => whnf
            refine elemP_at (at_map hx) rfl ?_
            conv => whnf
            refine AWL.run E_ok Tryz.func62 2000 ?_
            conv => whnf
            rcases hcut' : cut with _ | ⟨c0, cut0⟩
            · subst hcut'
              refine caseB_no (by simp) ?_
              conv => whnf
              refine AWL.run E_ok Tryz.func62 2000 ?_
              conv => whnf
              refine caseB_yes (by simp) ?_
              conv => whnf
              refine AWL.run E_ok Tryz.func62 2000 ?_
              conv => whnf
              refine lookP_intro (.bool false) (.bool false) (v := .bool ((cutsL apex l).contains x.set.name)) (f := (cutsL apex l).contains x.set.name) ⟨_, rfl⟩ hkeys (fun w => by kernel_rfl) (fun _ _ => .bool _) (by rw [hfind]; split <;> simp_all) (by rw [hfind]; split <;> simp_all) ?_
              conv => whnf
              refine AWL.run E_ok Tryz.func62 2000 ?_
              conv => whnf
              cases hcc : (cutsL apex l).contains x.set.name
              · refine caseB_false ?_
                conv => whnf
                refine AWL.run E_ok Tryz.func62 2000 ?_
                conv => whnf
                have hS : layS (cutsL apex l) ([] : Text) x.set.name = [] := by simp [layS]; intro h; exact absurd h (by simpa using hcc)
                refine need_intro ⟨by omega, by simp; omega⟩ ?_
                conv => whnf
                refine AWL.run E_ok Tryz.func62 2000 ?_
                conv => whnf
                refine elemP_intro (.str []) (by omega) (by simp only [Int.toNat_natCast, List.getElem?_map]; rw [rep_at hBl hlt]; rfl) rfl ?_
                conv => whnf
                refine AWL.run E_ok Tryz.func62 2000 ?_
                conv => whnf
                refine AWL.back (IH (i + 1, []) ⟨by simp only; omega, by rw [hS] at hBd; exact hBd, by have hq := layS_ok (C := cutsL apex l) hxv hcut; rw [hS] at hq; exact hq⟩ (by simp only; omega)) ?_
                conv => whnf
                repeat (first | exact trivial | (refine And.intro (by first | with_reducible rfl | exact congrArg (DV.int .i64) (by omega) | exact congrArg (DV.int .i64) (wrap64 (by omega) (by omega)) | exact congrArg (DV.int .i64) ((wrap64 (by omega) (by omega)).trans (by omega))) ?_; conv => whnf))
                refine And.intro (by rw [← take_rep (e := []) (x := []) hBl (by rw [hS] at hBi; exact hBi)]; simp [List.map_set]) ?_
                conv => whnf
                repeat (first | exact trivial | (refine And.intro (by first | with_reducible rfl | exact congrArg (DV.int .i64) (by omega) | exact congrArg (DV.int .i64) (wrap64 (by omega) (by omega)) | exact congrArg (DV.int .i64) ((wrap64 (by omega) (by omega)).trans (by omega))) ?_; conv => whnf))
              · refine caseB_true ?_
                conv => whnf
                refine AWL.run E_ok Tryz.func62 2000 ?_
                conv => whnf
                have hS : layS (cutsL apex l) ([] : Text) x.set.name = x.set.name := by simp [layS]; intro h; exact absurd (by simpa using hcc) h
                refine need_intro ⟨by omega, by simp; omega⟩ ?_
                conv => whnf
                refine AWL.run E_ok Tryz.func62 2000 ?_
                conv => whnf
                refine elemP_intro (.str []) (by omega) (by simp only [Int.toNat_natCast, List.getElem?_map]; rw [rep_at hBl hlt]; rfl) rfl ?_
                conv => whnf
                refine AWL.run E_ok Tryz.func62 2000 ?_
                conv => whnf
                refine AWL.back (IH (i + 1, x.set.name) ⟨by simp only; omega, by rw [hS] at hBd; exact hBd, by have hq := layS_ok (C := cutsL apex l) hxv hcut; rw [hS] at hq; exact hq⟩ (by simp only; omega)) ?_
                conv => whnf
                repeat (first | exact trivial | (refine And.intro (by first | with_reducible rfl | exact congrArg (DV.int .i64) (by omega) | exact congrArg (DV.int .i64) (wrap64 (by omega) (by omega)) | exact congrArg (DV.int .i64) ((wrap64 (by omega) (by omega)).trans (by omega))) ?_; conv => whnf))
                refine And.intro (by rw [← take_rep (e := []) (x := x.set.name) hBl (by rw [hS] at hBi; exact hBi)]; simp [List.map_set]) ?_
                conv => whnf
                repeat (first | exact trivial | (refine And.intro (by first | with_reducible rfl | exact congrArg (DV.int .i64) (by omega) | exact congrArg (DV.int .i64) (wrap64 (by omega) (by omega)) | exact congrArg (DV.int .i64) ((wrap64 (by omega) (by omega)).trans (by omega))) ?_; conv => whnf))
            · have hcv : Nm.valid cut = true := by
                rcases hcut with h | h
                · rw [hcut'] at h; cases h
                · exact h
              have hcl := valid_len hcv
              have hun := nunder_p x.set.name cut (by unfold maxLen; omega) (by unfold maxLen; omega)
              rw [under_v hxv hcv] at hun
              rw [← hcut']
              have hne : cut ≠ [] := by rw [hcut']; simp
              refine caseB_yes (by simpa using hne) ?_
              conv => whnf
              refine AWL.run E_ok Tryz.func62 2000 ?_
              conv => whnf
              with_reducible refine callP_eq (hun) ?_
              conv => whnf
              refine AWL.run E_ok Tryz.func62 2000 ?_
              conv => whnf
              cases hu : Nm.under x.set.name cut
              · refine caseB_yes rfl ?_
                conv => whnf
                refine AWL.run E_ok Tryz.func62 2000 ?_
                conv => whnf
                refine caseB_yes (by simp) ?_
                conv => whnf
                refine AWL.run E_ok Tryz.func62 2000 ?_
                conv => whnf
                refine lookP_intro (.bool false) (.bool false) (v := .bool ((cutsL apex l).contains x.set.name)) (f := (cutsL apex l).contains x.set.name) ⟨_, rfl⟩ hkeys (fun w => by kernel_rfl) (fun _ _ => .bool _) (by rw [hfind]; split <;> simp_all) (by rw [hfind]; split <;> simp_all) ?_
                conv => whnf
                refine AWL.run E_ok Tryz.func62 2000 ?_
                conv => whnf
                cases hcc : (cutsL apex l).contains x.set.name
                · refine caseB_false ?_
                  conv => whnf
                  refine AWL.run E_ok Tryz.func62 2000 ?_
                  conv => whnf
                  have hS : layS (cutsL apex l) cut x.set.name = [] := by simp [layS, hu, hne]; intro h; exact absurd h (by simpa using hcc)
                  refine need_intro ⟨by omega, by simp; omega⟩ ?_
                  conv => whnf
                  refine AWL.run E_ok Tryz.func62 2000 ?_
                  conv => whnf
                  refine elemP_intro (.str []) (by omega) (by simp only [Int.toNat_natCast, List.getElem?_map]; rw [rep_at hBl hlt]; rfl) rfl ?_
                  conv => whnf
                  refine AWL.run E_ok Tryz.func62 2000 ?_
                  conv => whnf
                  refine AWL.back (IH (i + 1, []) ⟨by simp only; omega, by rw [hS] at hBd; exact hBd, by have hq := layS_ok (C := cutsL apex l) hxv hcut; rw [hS] at hq; exact hq⟩ (by simp only; omega)) ?_
                  conv => whnf
                  repeat (first | exact trivial | (refine And.intro (by first | with_reducible rfl | exact congrArg (DV.int .i64) (by omega) | exact congrArg (DV.int .i64) (wrap64 (by omega) (by omega)) | exact congrArg (DV.int .i64) ((wrap64 (by omega) (by omega)).trans (by omega))) ?_; conv => whnf))
                  refine And.intro (by rw [← take_rep (e := []) (x := []) hBl (by rw [hS] at hBi; exact hBi)]; simp [List.map_set]) ?_
                  conv => whnf
                  repeat (first | exact trivial | (refine And.intro (by first | with_reducible rfl | exact congrArg (DV.int .i64) (by omega) | exact congrArg (DV.int .i64) (wrap64 (by omega) (by omega)) | exact congrArg (DV.int .i64) ((wrap64 (by omega) (by omega)).trans (by omega))) ?_; conv => whnf))
                · refine caseB_true ?_
                  conv => whnf
                  refine AWL.run E_ok Tryz.func62 2000 ?_
                  conv => whnf
                  have hS : layS (cutsL apex l) cut x.set.name = x.set.name := by simp [layS, hu, hne]; intro h; exact absurd (by simpa using hcc) h
                  refine need_intro ⟨by omega, by simp; omega⟩ ?_
                  conv => whnf
                  refine AWL.run E_ok Tryz.func62 2000 ?_
                  conv => whnf
                  refine elemP_intro (.str []) (by omega) (by simp only [Int.toNat_natCast, List.getElem?_map]; rw [rep_at hBl hlt]; rfl) rfl ?_
                  conv => whnf
                  refine AWL.run E_ok Tryz.func62 2000 ?_
                  conv => whnf
                  refine AWL.back (IH (i + 1, x.set.name) ⟨by simp only; omega, by rw [hS] at hBd; exact hBd, by have hq := layS_ok (C := cutsL apex l) hxv hcut; rw [hS] at hq; exact hq⟩ (by simp only; omega)) ?_
                  conv => whnf
                  repeat (first | exact trivial | (refine And.intro (by first | with_reducible rfl | exact congrArg (DV.int .i64) (by omega) | exact congrArg (DV.int .i64) (wrap64 (by omega) (by omega)) | exact congrArg (DV.int .i64) ((wrap64 (by omega) (by omega)).trans (by omega))) ?_; conv => whnf))
                  refine And.intro (by rw [← take_rep (e := []) (x := x.set.name) hBl (by rw [hS] at hBi; exact hBi)]; simp [List.map_set]) ?_
                  conv => whnf
                  repeat (first | exact trivial | (refine And.intro (by first | with_reducible rfl | exact congrArg (DV.int .i64) (by omega) | exact congrArg (DV.int .i64) (wrap64 (by omega) (by omega)) | exact congrArg (DV.int .i64) ((wrap64 (by omega) (by omega)).trans (by omega))) ?_; conv => whnf))
              · have hS : layS (cutsL apex l) cut x.set.name = cut := by simp [layS, hu, hne]
                refine caseB_no rfl ?_
                conv => whnf
                refine AWL.run E_ok Tryz.func62 2000 ?_
                conv => whnf
                refine caseB_no (by simpa using hne) ?_
                conv => whnf
                refine AWL.run E_ok Tryz.func62 2000 ?_
                conv => whnf
                refine caseB_false ?_
                conv => whnf
                refine AWL.run E_ok Tryz.func62 2000 ?_
                conv => whnf
                refine need_intro ⟨by omega, by simp; omega⟩ ?_
                conv => whnf
                refine AWL.run E_ok Tryz.func62 2000 ?_
                conv => whnf
                refine elemP_intro (.str []) (by omega) (by simp only [Int.toNat_natCast, List.getElem?_map]; rw [rep_at hBl hlt]; rfl) rfl ?_
                conv => whnf
                refine AWL.run E_ok Tryz.func62 2000 ?_
                conv => whnf
                refine AWL.back (IH (i + 1, cut) ⟨by simp only; omega, by rw [hS] at hBd; exact hBd, by have hq := layS_ok (C := cutsL apex l) hxv hcut; rw [hS] at hq; exact hq⟩ (by simp only; omega)) ?_
                conv => whnf
                repeat (first | exact trivial | (refine And.intro (by first | with_reducible rfl | exact congrArg (DV.int .i64) (by omega) | exact congrArg (DV.int .i64) (wrap64 (by omega) (by omega)) | exact congrArg (DV.int .i64) ((wrap64 (by omega) (by omega)).trans (by omega))) ?_; conv => whnf))
                refine And.intro (by rw [← take_rep (e := []) (x := cut) hBl (by rw [hS] at hBi; exact hBi)]; simp [List.map_set]) ?_
                conv => whnf
                repeat (first | exact trivial | (refine And.intro (by first | with_reducible rfl | exact congrArg (DV.int .i64) (by omega) | exact congrArg (DV.int .i64) (wrap64 (by omega) (by omega)) | exact congrArg (DV.int .i64) ((wrap64 (by omega) (by omega)).trans (by omega))) ?_; conv => whnf))
          · have hge : l.length ≤ i := by simpa using h5
            conv => whnf
            refine AWL.run E_ok Tryz.func62 2000 ?_
            conv => whnf
            simp only [show l.length - i = 0 by omega, List.replicate_zero, List.append_nil]
            rw [List.take_of_length_le (by omega)]

end Go.Proofs.YtebielkakdhelaaGreatDoor.P
