/- Contracts by the engine: the reference implementation's zones, first part. Conditions: lengths that Go allows. -/
import Derived.Test.YtebielkakdhelaaGreatDoorZP10
set_option linter.unusedVariables false
set_option linter.unusedSimpArgs false
namespace Go.Proofs.YtebielkakdhelaaGreatDoor.P
open Go Go.Eng
set_option maxRecDepth 100000
set_option maxHeartbeats 4000000

/-- An element at an index. -/
def At1 (l : List DV) (n : Int) (e : DV) : Prop := 0 ≤ n ∧ l[n.toNat]? = some e
theorem elemP_at {l : List DV} {sz : Nat} {n : Int} {K : DV → Prop} {e : DV} (h : At1 l n e) (hs : e.cells.length = sz) (k : K e) : elemP l sz n K := elemP_intro e h.1 h.2 hs k
theorem at_map {α : Type} {f : α → DV} {l : List α} {k : Nat} {x : α} (h : l[k]? = some x) : At1 (l.map f) (k : Int) (f x) := ⟨by omega, elem_map h⟩
theorem at_zero {α : Type} {f : α → DV} {l : List α} {x : α} (h : l[0]? = some x) : At1 (l.map f) 0 (f x) := ⟨by omega, by simp [h]⟩
theorem at_prev {α : Type} {f : α → DV} {l : List α} {k : Nat} {x : α} (h : l[k - 1]? = some x) (h0 : 0 < k) (hb : k ≤ 4294967296) : At1 (l.map f) (IntKind.i64.wrap ((k : Int) - 1)) (f x) := by
  have : IntKind.i64.wrap ((k : Int) - 1) = ((k - 1 : Nat) : Int) := by rw [wrap64 (by omega) (by omega)]; omega
  rw [this]
  exact at_map h
theorem at_next {α : Type} {f : α → DV} {l : List α} {k : Nat} {x : α} (h : l[k + 1]? = some x) (hb : k ≤ 4294967296) : At1 (l.map f) (IntKind.i64.wrap ((k : Int) + 1)) (f x) := by
  have : IntKind.i64.wrap ((k : Int) + 1) = ((k + 1 : Nat) : Int) := by rw [wrap64 (by omega) (by omega)]; omega
  rw [this]
  exact at_map h

/-- Each element is right, and stands as it should behind the one before it. -/
def chain {α : Type} (ok : α → Bool) (rel : α → α → Bool) : Option α → List α → Bool
  | _, [] => true
  | p, x :: l => ok x && (match p with | none => true | some q => rel q x) && chain ok rel (some x) l
def prevA {α : Type} (l : List α) (k : Nat) : Option α := if k = 0 then none else l[k - 1]?
theorem chain_next {α : Type} {ok : α → Bool} {rel : α → α → Bool} {l : List α} {k : Nat} {x : α} (hx : l[k]? = some x) : chain ok rel (prevA l k) (l.drop k) = (ok x && (match prevA l k with | none => true | some q => rel q x) && chain ok rel (prevA l (k + 1)) (l.drop (k + 1))) := by
  have hk := lt_of_getElem? hx
  rw [List.drop_eq_getElem_cons hk]
  have e1 : l[k] = x := by simpa [hk] using hx
  have e2 : prevA l (k + 1) = some x := by simp [prevA, hx]
  rw [e1, e2]
  rfl
theorem prevA_some {α : Type} {l : List α} {k : Nat} (h0 : 0 < k) (hk : k ≤ l.length) : ∃ q, l[k - 1]? = some q ∧ prevA l k = some q := by
  obtain ⟨q, hq⟩ := some_of_lt (l := l) (k := k - 1) (by omega)
  exact ⟨q, hq, by simp [prevA, hq]; omega⟩

/-- A signature in form. -/
def sigZ (apex : Text) (g0 g : Sig) : Bool := (g.zone == apex) && decide (1 ≤ g.key) && decide (g.key ≤ 1000000) && decide (1 ≤ g.alg) && decide (g.alg ≤ 3) && (g.frm == g0.frm) && (g.upto == g0.upto) && decide (0 ≤ g.frm) && decide (g.frm ≤ g.upto) && decide (g.upto ≤ 20000000)
def keyLt (q g : Sig) : Bool := decide (q.key < g.key)
def sigsB (l : List Sig) (apex : Text) : Bool := decide ((l.length : Int) ≤ 6) && chain (sigZ apex (l.headD sig0)) keyLt none l
theorem head_at {l : List Sig} {k : Nat} (h : k < l.length) : l[0]? = some (l.headD sig0) := by
  cases l with
  | nil => simp at h
  | cons x l => rfl

theorem rsigs_p (l : List Sig) (apex : Text) : PCalls E 113 [encSigs l, .str apex] (· = .bool (sigsB l apex)) := by
  unfold sigsB
  have hg : ∃ g0, g0 = l.headD sig0 := ⟨_, rfl⟩
  obtain ⟨g0, hg⟩ := hg
  rw [← hg]
  refine PCalls.run E_ok (fn := Tryz.f113) Tryz.func113 (body := Tryz.f113.body.getD .skip) rfl (by decide) 2000 ?_
  conv => whnf
  refine caseB_split (fun h1 => ?_) (fun h1 => ?_)
  · conv => whnf
    refine AWL.run E_ok Tryz.func113 2000 ?_
    conv => whnf
    simp only [List.length_map] at h1
    rw [decide_eq_false (by simp at h1; omega), Bool.false_and]
  · have h6 : l.length ≤ 6 := by simp at h1; omega
    rw [decide_eq_true (by omega), Bool.true_and]
    conv => whnf
    refine AWL.run E_ok Tryz.func113 2000 ?_
    conv => whnf
    refine AWL.loop (κ := Nat) [4, 5, 6, 10, 11, 12, 13, 14, 15, 16, 17, 18, 19, 20, 21, 22, 23, 24, 25, 26, 27, 28, 29, 30, 31, 32, 33, 34, 35, 36, 37, 38, 39, 40, 41, 42, 43, 44, 45, 46, 47, 48, 49, 50, 51, 52, 53, 54, 55, 56, 57, 58, 59, 60, 61, 62, 63, 64, 65, 66, 67, 68, 69, 70, 71, 72, 73, 74, 75, 76, 77, 78, 79, 80, 81, 82, 83, 84, 85, 86, 87, 88, 89, 90, 91] (fun k => [(5, .d (.int .i64 k))]) (fun _ => []) (fun k => k ≤ l.length ∧ chain (sigZ apex g0) keyLt none l = chain (sigZ apex g0) keyLt (prevA l k) (l.drop k)) (fun k => l.length - k) 0 ⟨Nat.zero_le _, rfl⟩ ?_ ?_
    · conv => whnf
      repeat (first | exact trivial | (refine And.intro (by first | with_reducible rfl | exact congrArg (DV.int .i64) (by omega) | exact congrArg (DV.int .i64) (wrap64 (by omega) (by omega)) | exact congrArg (DV.int .i64) ((wrap64 (by omega) (by omega)).trans (by omega))) ?_; conv => whnf))
    · intro k hk IH
      refine AWL.head E_ok Tryz.func113 2000 ?_
      conv => whnf
      refine caseB_split (fun h5 => ?_) (fun h5 => ?_)
      · have hlt : k < l.length := by simpa using h5
        obtain ⟨x, hx⟩ := some_of_lt hlt
        have h0 := head_at hlt
        rw [← hg] at h0
        have hnext := chain_next (ok := sigZ apex g0) (rel := keyLt) hx
        rw [← hk.2] at hnext
        conv => whnf
        refine AWL.run E_ok Tryz.func113 2000 ?_
        conv => whnf
        refine elemP_at (at_map hx) rfl ?_
        conv => whnf
        refine AWL.run E_ok Tryz.func113 2000 ?_
        conv => whnf
        refine AWL.draw E_ok E_mixed 57 2000 (by kernel_rfl) ?_
        conv => whnf
        rcases Nat.eq_zero_or_pos k with hk0 | hk0
        · have hpq : prevA l k = none := by simp [prevA, hk0]
          rw [hpq] at hnext
          dsimp only at hnext
          rw [Bool.and_true] at hnext
          repeat' (first | with_reducible refine elemP_at (at_map hx) rfl ?_ | with_reducible refine elemP_at (at_zero h0) rfl ?_ | with_reducible refine caseB_true ?_ | with_reducible refine caseB_false ?_ | with_reducible refine caseB_yes (by decide) ?_ | with_reducible refine caseB_no (by decide) ?_ | with_reducible refine caseB_yes (by assumption) ?_ | with_reducible refine caseB_no (by assumption) ?_ | with_reducible refine caseB_split (fun _ => ?_) (fun _ => ?_) | ((conv => whnf); (with_reducible refine AWL.run E_ok Tryz.func113 2000 ?_); (conv => whnf); fail_if_success (with_reducible refine AWL.of ?_)) | ((conv => whnf); (with_reducible refine DWL.run E_ok 2000 ?_); (conv => whnf); fail_if_success (with_reducible refine DWL.is ?_)) | ((conv => whnf); (with_reducible refine SWL.run E_ok 2000 ?_); (conv => whnf); fail_if_success (with_reducible refine SWL.is ?_)))
          all_goals first
            | (have hno : sigZ apex g0 x = false := by clear hnext hk IH hg; simp_all [sigZ, keyLt, prevA] <;> (intros; omega)
               rw [hnext, hno, Bool.false_and]
               done)
            | (exfalso; clear hnext hk IH hg; simp_all; done)
            | skip
          all_goals
            conv => whnf
            refine AWL.run E_ok Tryz.func113 2000 ?_
            conv => whnf
            refine AWL.back (IH (k + 1) ⟨by omega, by rw [hnext, show sigZ apex g0 x = true by clear hnext hk IH hg; simp_all [sigZ, keyLt, prevA] <;> omega, Bool.true_and]⟩ (by omega)) ?_
            conv => whnf
            repeat (first | exact trivial | (refine And.intro (by first | with_reducible rfl | exact congrArg (DV.int .i64) (by omega) | exact congrArg (DV.int .i64) (wrap64 (by omega) (by omega)) | exact congrArg (DV.int .i64) ((wrap64 (by omega) (by omega)).trans (by omega))) ?_; conv => whnf))
        · obtain ⟨q, hq, hpq⟩ := prevA_some hk0 hk.1
          rw [hpq] at hnext
          repeat' (first | with_reducible refine elemP_at (at_map hx) rfl ?_ | with_reducible refine elemP_at (at_zero h0) rfl ?_ | with_reducible refine elemP_at (at_prev hq hk0 (by omega)) rfl ?_ | with_reducible refine caseB_true ?_ | with_reducible refine caseB_false ?_ | with_reducible refine caseB_yes (by decide) ?_ | with_reducible refine caseB_no (by decide) ?_ | with_reducible refine caseB_yes (by assumption) ?_ | with_reducible refine caseB_no (by assumption) ?_ | with_reducible refine caseB_split (fun _ => ?_) (fun _ => ?_) | ((conv => whnf); (with_reducible refine AWL.run E_ok Tryz.func113 2000 ?_); (conv => whnf); fail_if_success (with_reducible refine AWL.of ?_)) | ((conv => whnf); (with_reducible refine DWL.run E_ok 2000 ?_); (conv => whnf); fail_if_success (with_reducible refine DWL.is ?_)) | ((conv => whnf); (with_reducible refine SWL.run E_ok 2000 ?_); (conv => whnf); fail_if_success (with_reducible refine SWL.is ?_)))
          all_goals first
            | (have hno : (sigZ apex g0 x && keyLt q x) = false := by clear hnext hk IH hg; simp_all [sigZ, keyLt, prevA] <;> (intros; omega)
               rw [hnext, hno, Bool.false_and]
               done)
            | (exfalso; clear hnext hk IH hg; simp_all; done)
            | skip
          all_goals
            conv => whnf
            refine AWL.run E_ok Tryz.func113 2000 ?_
            conv => whnf
            refine AWL.back (IH (k + 1) ⟨by omega, by rw [hnext, show (sigZ apex g0 x && keyLt q x) = true by clear hnext hk IH hg; simp_all [sigZ, keyLt, prevA] <;> omega, Bool.true_and]⟩ (by omega)) ?_
            conv => whnf
            repeat (first | exact trivial | (refine And.intro (by first | with_reducible rfl | exact congrArg (DV.int .i64) (by omega) | exact congrArg (DV.int .i64) (wrap64 (by omega) (by omega)) | exact congrArg (DV.int .i64) ((wrap64 (by omega) (by omega)).trans (by omega))) ?_; conv => whnf))
      · have hge : l.length ≤ k := by simpa using h5
        conv => whnf
        refine AWL.run E_ok Tryz.func113 2000 ?_
        conv => whnf
        rw [hk.2, List.drop_of_length_le hge]
        rfl

/-- Where a set may stand. -/
def placedB (t : Int) (apex : Bool) : Bool := if apex then t != 3 && t != 6 else t != 4 && t != 7
theorem rplaced_p (t : Int) (apex : Bool) : PCalls E 112 [.int .i64 t, .bool apex] (· = .bool (placedB t apex)) := by
  refine PCalls.run E_ok (fn := Tryz.f112) Tryz.func112 (body := Tryz.f112.body.getD .skip) rfl (by decide) 2000 ?_
  conv => whnf
  repeat' (first | with_reducible refine caseB_true ?_ | with_reducible refine caseB_false ?_ | with_reducible refine caseB_yes (by decide) ?_ | with_reducible refine caseB_no (by decide) ?_ | with_reducible refine caseB_yes (by assumption) ?_ | with_reducible refine caseB_no (by assumption) ?_ | with_reducible refine caseB_split (fun _ => ?_) (fun _ => ?_) | ((conv => whnf); (with_reducible refine AWL.run E_ok Tryz.func112 2000 ?_); (conv => whnf); fail_if_success (with_reducible refine AWL.of ?_)) | ((conv => whnf); (with_reducible refine DWL.run E_ok 2000 ?_); (conv => whnf); fail_if_success (with_reducible refine DWL.is ?_)) | ((conv => whnf); (with_reducible refine SWL.run E_ok 2000 ?_); (conv => whnf); fail_if_success (with_reducible refine SWL.is ?_)))
  all_goals simp_all [placedB]

structure Quest where
  name : Text
  type : Int
  deriving DecidableEq
@[reducible] def Quest.enc (q : Quest) : DV := .agg [.str q.name, .int .i64 q.type]
/-- Where the set of a question is. -/
def atQ (q : Quest) (s : Signed) : Bool := s.set.name == q.name && s.set.type == q.type
def atI (l : List Signed) (q : Quest) : Int := match l.findIdx? (atQ q) with
  | some i => i
  | none => -1
theorem atI_here {l : List Signed} {q : Quest} {k : Nat} {x : Signed} (h : ∀ j y, j < k → l[j]? = some y → atQ q y = false) (hx : l[k]? = some x) (hq : atQ q x = true) : atI l q = k := by
  have : l.findIdx? (atQ q) = some k := by
    rw [List.findIdx?_eq_some_iff_getElem]
    have hk := lt_of_getElem? hx
    refine ⟨hk, ?_, fun j hj => ?_⟩
    · have : l[k] = x := by simpa [hk] using hx
      rw [this]; exact hq
    · have := h j l[j] hj (by simp)
      rw [this]; decide
  rw [atI, this]
theorem atI_none {l : List Signed} {q : Quest} (h : ∀ j y, j < l.length → l[j]? = some y → atQ q y = false) : atI l q = -1 := by
  have : l.findIdx? (atQ q) = none := by
    rw [List.findIdx?_eq_none_iff]
    intro x hx
    obtain ⟨j, hj⟩ := List.getElem?_of_mem hx
    exact h j x (lt_of_getElem? hj) hj
  rw [atI, this]

theorem rat_p (z : Zone) (q : Quest) (hl : z.sets.length ≤ 2147483648) : PCalls E 111 [z.enc, q.enc] (· = .int .i64 (atI z.sets q)) := by
  obtain ⟨apex, l⟩ := z
  simp only at hl ⊢
  refine PCalls.run E_ok (fn := Tryz.f111) Tryz.func111 (body := Tryz.f111.body.getD .skip) rfl (by decide) 2000 ?_
  conv => whnf
  refine AWL.loop (κ := Nat) [4, 5, 6, 7, 8, 9, 10, 11, 12, 13, 14, 15, 16, 17, 18, 19, 20, 21, 22, 23, 24, 25, 26, 27, 28, 29, 30, 31, 32, 33, 34, 35] (fun k => [(5, .d (.int .i64 k))]) (fun _ => []) (fun k => k ≤ l.length ∧ ∀ j y, j < k → l[j]? = some y → atQ q y = false) (fun k => l.length - k) 0 ⟨Nat.zero_le _, fun j y h => by omega⟩ ?_ ?_
  · conv => whnf
    repeat (first | exact trivial | (refine And.intro (by first | with_reducible rfl | exact congrArg (DV.int .i64) (by omega) | exact congrArg (DV.int .i64) (wrap64 (by omega) (by omega)) | exact congrArg (DV.int .i64) ((wrap64 (by omega) (by omega)).trans (by omega))) ?_; conv => whnf))
  · intro k hk IH
    refine AWL.head E_ok Tryz.func111 2000 ?_
    conv => whnf
    refine caseB_split (fun h5 => ?_) (fun h5 => ?_)
    · have hlt : k < l.length := by simpa using h5
      obtain ⟨x, hx⟩ := some_of_lt hlt
      conv => whnf
      refine AWL.run E_ok Tryz.func111 2000 ?_
      conv => whnf
      refine AWL.draw E_ok E_mixed 22 2000 (by kernel_rfl) ?_
      conv => whnf
      repeat' (first | with_reducible refine elemP_at (at_map hx) rfl ?_ | with_reducible refine caseB_true ?_ | with_reducible refine caseB_false ?_ | with_reducible refine caseB_yes (by decide) ?_ | with_reducible refine caseB_no (by decide) ?_ | with_reducible refine caseB_yes (by assumption) ?_ | with_reducible refine caseB_no (by assumption) ?_ | with_reducible refine caseB_split (fun _ => ?_) (fun _ => ?_) | ((conv => whnf); (with_reducible refine AWL.run E_ok Tryz.func111 2000 ?_); (conv => whnf); fail_if_success (with_reducible refine AWL.of ?_)) | ((conv => whnf); (with_reducible refine DWL.run E_ok 2000 ?_); (conv => whnf); fail_if_success (with_reducible refine DWL.is ?_)) | ((conv => whnf); (with_reducible refine SWL.run E_ok 2000 ?_); (conv => whnf); fail_if_success (with_reducible refine SWL.is ?_)))
      all_goals first
        | (rw [atI_here hk.2 hx (by simp_all [atQ])]; done)
        | skip
      all_goals
        conv => whnf
        refine AWL.run E_ok Tryz.func111 2000 ?_
        conv => whnf
        refine AWL.back (IH (k + 1) ⟨by omega, fun j y hj hy => ?_⟩ (by omega)) ?_
        · rcases Nat.lt_or_ge j k with h | h
          · exact hk.2 j y h hy
          · obtain rfl : j = k := by omega
            rw [hx] at hy
            cases hy
            simp_all [atQ]
        · conv => whnf
          repeat (first | exact trivial | (refine And.intro (by first | with_reducible rfl | exact congrArg (DV.int .i64) (by omega) | exact congrArg (DV.int .i64) (wrap64 (by omega) (by omega)) | exact congrArg (DV.int .i64) ((wrap64 (by omega) (by omega)).trans (by omega))) ?_; conv => whnf))
    · have hge : k = l.length := by simp at h5; omega
      subst hge
      conv => whnf
      refine AWL.run E_ok Tryz.func111 2000 ?_
      conv => whnf
      rw [atI_none hk.2]

end Go.Proofs.YtebielkakdhelaaGreatDoor.P
