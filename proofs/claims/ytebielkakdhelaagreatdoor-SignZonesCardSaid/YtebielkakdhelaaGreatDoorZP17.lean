/- Names in order: the canonical order is one; name.Compare; places. Conditions: as each says. -/
import Derived.Test.YtebielkakdhelaaGreatDoorZP16
import Derived.Test.YtebielkakdhelaaGreatDoorZNameC
set_option linter.unusedVariables false
set_option linter.unusedSimpArgs false
namespace Go.Proofs.YtebielkakdhelaaGreatDoor.P
open Go Go.Eng
set_option maxRecDepth 100000
set_option maxHeartbeats 4000000

theorem u8_tri (c d : UInt8) : c < d ∨ c = d ∨ d < c := by
  rcases Nat.lt_trichotomy c.toNat d.toNat with h | h | h
  · exact .inl (UInt8.lt_iff_toNat_lt.2 h)
  · exact .inr (.inl (UInt8.toNat_inj.1 h))
  · exact .inr (.inr (UInt8.lt_iff_toNat_lt.2 h))
theorem bl_cons {c d : UInt8} {a b : Text} : Op.bytesLess (c :: a) (d :: b) = true ↔ c < d ∨ (c = d ∧ Op.bytesLess a b = true) := by
  simp [Op.bytesLess]
theorem bl_trans : ∀ {a b c : Text}, Op.bytesLess a b = true → Op.bytesLess b c = true → Op.bytesLess a c = true
  | _, [], _, h, _ => by simp [Op.bytesLess] at h
  | _, _ :: _, [], _, h => by simp [Op.bytesLess] at h
  | [], _ :: _, _ :: _, _, _ => by simp [Op.bytesLess]
  | x :: a, y :: b, z :: c, h, k => by
    rw [bl_cons] at h k ⊢
    rcases h with h | ⟨rfl, h⟩
    · rcases k with k | ⟨rfl, k⟩
      · exact .inl (UInt8.lt_trans h k)
      · exact .inl h
    · rcases k with k | ⟨rfl, k⟩
      · exact .inl k
      · exact .inr ⟨rfl, bl_trans h k⟩
theorem bl_tri : ∀ (a b : Text), Op.bytesLess a b = true ∨ a = b ∨ Op.bytesLess b a = true
  | [], [] => .inr (.inl rfl)
  | [], _ :: _ => .inl (by simp [Op.bytesLess])
  | _ :: _, [] => .inr (.inr (by simp [Op.bytesLess]))
  | c :: a, d :: b => by
    rw [bl_cons, bl_cons]
    rcases u8_tri c d with h | rfl | h
    · exact .inl (.inl h)
    · rcases bl_tri a b with h | rfl | h
      · exact .inl (.inr ⟨rfl, h⟩)
      · exact .inr (.inl rfl)
      · exact .inr (.inr (.inr ⟨rfl, h⟩))
    · exact .inr (.inr (.inl h))
theorem bl_asymm {a b : Text} (h : Op.bytesLess a b = true) : Op.bytesLess b a = false := by
  rw [← Bool.not_eq_true]
  intro k
  have := bl_trans h k
  rw [bytesLess_irrefl] at this
  cases this
theorem bl_ne {a b : Text} (h : Op.bytesLess a b = true) : a ≠ b := by
  rintro rfl
  rw [bytesLess_irrefl] at h
  cases h

theorem bytesLess_cmp : ∀ (a b : Text), Lib.compareBytes a b = if Op.bytesLess a b then -1 else if a == b then 0 else 1
  | [], [] => by simp [Lib.compareBytes, Op.bytesLess]
  | [], _ :: _ => by simp [Lib.compareBytes, Op.bytesLess]
  | _ :: _, [] => by simp [Lib.compareBytes, Op.bytesLess]
  | c :: a, d :: b => by
    simp only [Lib.compareBytes, Op.bytesLess]
    rcases u8_tri c d with h | rfl | h
    · simp [h]
    · simp [bytesLess_cmp a b]
    · have h1 : ¬ c < d := UInt8.not_lt.2 (UInt8.le_of_lt h)
      have h2 : ¬ c = d := by rintro rfl; exact absurd h (by simp)
      simp [h, h1, h2]

/-- How one label stands before another. -/
theorem cmpL_cons (x y : Text) (l m : List Text) : (Op.bytesLess x y = true ∧ cmpL (x :: l) (y :: m) = -1) ∨ (x = y ∧ cmpL (x :: l) (y :: m) = cmpL l m) ∨ (Op.bytesLess y x = true ∧ cmpL (x :: l) (y :: m) = 1) := by
  rcases bl_tri x y with h | rfl | h
  · exact .inl ⟨h, by simp [cmpL, h]⟩
  · exact .inr (.inl ⟨rfl, by simp [cmpL, bytesLess_irrefl]⟩)
  · exact .inr (.inr ⟨h, by simp [cmpL, bl_asymm h, (bl_ne h).symm]⟩)
theorem cmpL_self : ∀ (l : List Text), cmpL l l = 0
  | [] => rfl
  | x :: l => by simp [cmpL, bytesLess_irrefl, cmpL_self l]
theorem cmpL_zero : ∀ {l m : List Text}, cmpL l m = 0 → l = m
  | [], [], _ => rfl
  | [], _ :: _, h => by simp [cmpL] at h
  | _ :: _, [], h => by simp [cmpL] at h
  | x :: l, y :: m, h => by
    rcases cmpL_cons x y l m with ⟨-, e⟩ | ⟨rfl, e⟩ | ⟨-, e⟩
    · rw [e] at h; cases h
    · rw [e] at h; rw [cmpL_zero h]
    · rw [e] at h; cases h
theorem cmpL_neg : ∀ (l m : List Text), cmpL m l = - cmpL l m
  | [], [] => rfl
  | [], _ :: _ => rfl
  | _ :: _, [] => rfl
  | x :: l, y :: m => by
    rcases cmpL_cons x y l m with ⟨h, e⟩ | ⟨rfl, e⟩ | ⟨h, e⟩
    · rw [e]
      simp [cmpL, bl_asymm h, (bl_ne h).symm]
    · rw [e, ← cmpL_neg l m]
      simp [cmpL, bytesLess_irrefl]
    · rw [e]
      simp [cmpL, h]
theorem cmpL_trans : ∀ {a b c : List Text}, cmpL a b < 0 → cmpL b c < 0 → cmpL a c < 0
  | [], [], _, h, _ => by simp [cmpL] at h
  | _ :: _, [], _, h, _ => by simp [cmpL] at h
  | _, _ :: _, [], _, h => by simp [cmpL] at h
  | [], _ :: _, _ :: _, _, _ => by simp [cmpL]
  | x :: a, y :: b, z :: c, h, k => by
    rcases cmpL_cons x y a b with ⟨h1, e1⟩ | ⟨rfl, e1⟩ | ⟨h1, e1⟩
    · rcases cmpL_cons y z b c with ⟨h2, e2⟩ | ⟨rfl, e2⟩ | ⟨h2, e2⟩
      · simp [cmpL, bl_trans h1 h2]
      · simp [cmpL, h1]
      · rw [e2] at k; simp at k
    · rcases cmpL_cons x z b c with ⟨h2, e2⟩ | ⟨rfl, e2⟩ | ⟨h2, e2⟩
      · simp [cmpL, h2]
      · rw [e1] at h
        rw [e2] at k
        have := cmpL_trans h k
        rcases cmpL_cons x x a c with ⟨h3, -⟩ | ⟨-, e3⟩ | ⟨h3, -⟩
        · rw [bytesLess_irrefl] at h3; cases h3
        · rw [e3]; exact this
        · rw [bytesLess_irrefl] at h3; cases h3
      · rw [e2] at k; simp at k
    · rw [e1] at h; simp at h
/-- What stands between a list and one that begins with it begins with it. -/
theorem cmpL_between : ∀ {c m n : List Text}, cmpL c m ≤ 0 → cmpL m n ≤ 0 → c <+: n → c <+: m
  | [], _, _, _, _, _ => List.nil_prefix
  | _ :: _, [], _, h, _, _ => by simp [cmpL] at h
  | _ :: _, _ :: _, [], _, _, h => by simp at h
  | x :: c, y :: m, z :: n, h, k, hp => by
    rw [List.cons_prefix_cons] at hp
    obtain ⟨rfl, hp⟩ := hp
    rcases cmpL_cons x y c m with ⟨h1, e1⟩ | ⟨rfl, e1⟩ | ⟨h1, e1⟩
    · rcases cmpL_cons y x m n with ⟨h2, e2⟩ | ⟨rfl, e2⟩ | ⟨h2, e2⟩
      · have := bl_asymm h1; rw [h2] at this; cases this
      · rw [bytesLess_irrefl] at h1; cases h1
      · rw [e2] at k; simp at k
    · rcases cmpL_cons x x m n with ⟨h2, -⟩ | ⟨-, e2⟩ | ⟨h2, -⟩
      · rw [bytesLess_irrefl] at h2; cases h2
      · rw [List.cons_prefix_cons]
        rw [e1] at h
        rw [e2] at k
        exact ⟨rfl, cmpL_between h k hp⟩
      · rw [bytesLess_irrefl] at h2; cases h2
    · rw [e1] at h; simp at h
theorem cmpL_prefix : ∀ {c n : List Text}, c <+: n → cmpL c n ≤ 0
  | [], [], _ => by simp [cmpL]
  | [], _ :: _, _ => by simp [cmpL]
  | _ :: _, [], h => by simp at h
  | x :: c, y :: n, h => by
    rw [List.cons_prefix_cons] at h
    obtain ⟨rfl, h⟩ := h
    simp only [cmpL, bytesLess_irrefl, Bool.false_eq_true, if_false, beq_self_eq_true, if_true]
    exact cmpL_prefix h

theorem ordN_self (a : Text) : ordN a a = 0 := cmpL_self _
theorem ordN_zero {a b : Text} (h : ordN a b = 0) : a = b := labels_inj (List.reverse_inj.1 (cmpL_zero h))
theorem ordN_neg (a b : Text) : ordN b a = - ordN a b := cmpL_neg _ _
theorem ordN_trans {a b c : Text} (h : ordN a b < 0) (k : ordN b c < 0) : ordN a c < 0 := cmpL_trans h k
theorem under_iff {s z : Text} : Nm.under s z = true ↔ (Nm.labels z).reverse <+: (Nm.labels s).reverse := by
  simp [Nm.under, List.reverse_prefix]
theorem ordN_between {c m n : Text} (h : ordN c m ≤ 0) (k : ordN m n ≤ 0) (hp : Nm.under n c = true) : Nm.under m c = true := under_iff.2 (cmpL_between h k (under_iff.1 hp))
theorem ordN_under {c n : Text} (h : Nm.under n c = true) : ordN c n ≤ 0 := cmpL_prefix (under_iff.1 h)

theorem cmpB_cmpL : ∀ (l m : List Text), cmpB (l.map bs) (m.map bs) = cmpL l m
  | [], [] => rfl
  | [], _ :: _ => rfl
  | _ :: _, [] => rfl
  | x :: l, y :: m => by
    simp only [List.map_cons, cmpB, toL_bs, bytesLess_cmp]
    rw [cmpB_cmpL l m]
    rcases cmpL_cons x y l m with ⟨h, e⟩ | ⟨rfl, e⟩ | ⟨h, e⟩
    · simp [cmpL, h]
    · simp [cmpL, bytesLess_irrefl]
    · simp [cmpL, bl_asymm h, (bl_ne h).symm]
theorem cmpB_ord (a b : Text) : cmpB (Nm.back ⟨a.toArray⟩) (Nm.back ⟨b.toArray⟩) = ordN a b := by
  simp only [Nm.back, toL_mk]
  exact cmpB_cmpL _ _

theorem ncompare_p (a b : Text) (ha : Nm.valid a = true) (hb : Nm.valid b = true) : PCalls E 170 [.str a, .str b] (· = .tup [.int .i64 (ordN a b), .int .i64 0]) := by
  refine ofTexts (g := fun a b => .tup [.int .i64 (ordN a b), .int .i64 0]) a b ⟨_, Tryz.func170, rfl, by decide⟩ fun w => ?_
  have vd : ∀ (v : Int) (bad : Nat → Prop) (w : World), VD bad w (.tup [.int .i64 v, .int .i64 0]) (.tuple #[.int .i64 v, .int .i64 0]) := fun v bad w => .tup _ _ rfl fun j x u hx hu => by
    match j with
    | 0 => simp at hx hu; subst hx; subst hu; exact .int _ _
    | 1 => simp at hx hu; subst hx; subst hu; exact .int _ _
    | j + 2 => simp at hx
  by_cases he : a = b
  · subst he
    refine (compare_eq ⟨a.toArray⟩ w (by rw [toL_mk]; exact ha)).mono fun e w' ⟨h1, h2⟩ => ⟨_, h1, fun bad w => ?_, h2⟩
    rw [ordN_self]
    exact vd 0 bad w
  · refine (compare_ne ⟨a.toArray⟩ ⟨b.toArray⟩ w (by rw [toL_mk]; exact ha) (by rw [toL_mk]; exact hb) (by rw [toL_mk, toL_mk]; exact he)).mono fun e w' ⟨h1, h2⟩ => ⟨_, h1, fun bad w => ?_, h2⟩
    rw [cmpB_ord]
    exact vd _ bad w

/-- Two places, compared. -/
def cmpP (a : Text) (s : Int) (b : Text) (t : Int) : Int := if a ≠ b then ordN a b else cmpI s t
theorem cmpP_p (a : Text) (s : Int) (b : Text) (t : Int) (ha : Nm.valid a = true) (hb : Nm.valid b = true) : PCalls E 120 [.str a, .int .i64 s, .str b, .int .i64 t] (· = .int .i64 (cmpP a s b t)) := by
  refine PCalls.run E_ok (fn := Tryz.f120) Tryz.func120 (body := Tryz.f120.body.getD .skip) rfl (by decide) 2000 ?_
  conv => whnf
  repeat' (first | with_reducible refine callP_eq (ncompare_p _ _ ha hb) ?_ | with_reducible refine callP1_eq (ncompare_p _ _ ha hb) ?_ | with_reducible refine callP_eq (cmpI_p _ _) ?_ | with_reducible refine callP1_eq (cmpI_p _ _) ?_ | with_reducible refine caseB_true ?_ | with_reducible refine caseB_false ?_ | with_reducible refine caseB_yes (by decide) ?_ | with_reducible refine caseB_no (by decide) ?_ | with_reducible refine caseB_yes (by assumption) ?_ | with_reducible refine caseB_no (by assumption) ?_ | with_reducible refine caseB_split (fun _ => ?_) (fun _ => ?_) | ((conv => whnf); (with_reducible refine AWL.run E_ok Tryz.func120 2000 ?_); (conv => whnf); fail_if_success (with_reducible refine AWL.of ?_)) | ((conv => whnf); (with_reducible refine DWL.run E_ok 2000 ?_); (conv => whnf); fail_if_success (with_reducible refine DWL.is ?_)) | ((conv => whnf); (with_reducible refine SWL.run E_ok 2000 ?_); (conv => whnf); fail_if_success (with_reducible refine SWL.is ?_)))
  all_goals simp_all [cmpP]
theorem cmpP_ordS (a b : RSet) : cmpP a.name a.type b.name b.type = ordS a b := by
  unfold cmpP ordS
  by_cases h : a.name = b.name
  · simp [h, ordN_self]
  · have : ordN a.name b.name ≠ 0 := fun e => h (ordN_zero e)
    simp [h, this]

end Go.Proofs.YtebielkakdhelaaGreatDoor.P
