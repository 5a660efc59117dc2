/- Readings of arguments as the data of package api. No conditions. -/
import Derived.Test.YtklkmdoakhkikaaDoorEngR
import Derived.Test.YtklkmdoakhkikaaDoorApi
import Derived.OpenShut
namespace Go.Eng
open Go Go.RowKit
variable {E : Env} {n t : Nat} {ds : List DV}
theorem hasT_str (hk : kindT E t = .string) (h : HasT E n t ds) : ∃ l : List UInt8, ds = [.str l] ∧ l.length ≤ maxLen := by
  cases n with
  | zero => exact h.elim
  | succ n => unfold HasT at h; rw [hk] at h; exact h
theorem hasT_int {k : IntKind} (hk : kindT E t = .int k) (h : HasT E n t ds) : ∃ m, ds = [.int k m] ∧ (Lit.int k m).wf = true := by
  cases n with
  | zero => exact h.elim
  | succ n => unfold HasT at h; rw [hk] at h; exact h
theorem hasT_bool (hk : kindT E t = .bool) (h : HasT E n t ds) : ∃ b, ds = [.bool b] := by
  cases n with
  | zero => exact h.elim
  | succ n => unfold HasT at h; rw [hk] at h; exact h
theorem hasT_slice {e : Nat} (hk : kindT E t = .slice e) (h : HasT E n t ds) : ∃ l : List DV, ds = [.sl l] ∧ l.length ≤ maxLen ∧ ∀ x ∈ l, (∃ m, HasT E m e x.cells) ∧ ElemT (kindT E e) x := by
  cases n with
  | zero => exact h.elim
  | succ n =>
    unfold HasT at h
    rw [hk] at h
    obtain ⟨l, h1, h2, h3⟩ := h
    exact ⟨l, h1, h2, fun x hx => ⟨⟨n, (h3 x hx).1⟩, (h3 x hx).2⟩⟩
theorem hasT_struct {fs : List (Nat × Nat)} (hk : kindT E t = .struct fs) (h : HasT E n t ds) : ∃ m, ds.length = sizeT E t ∧ ∀ p ∈ fs, HasT E m p.2 ((ds.drop p.1).take (sizeT E p.2)) := by
  cases n with
  | zero => exact h.elim
  | succ n => unfold HasT at h; rw [hk] at h; exact ⟨n, h⟩

/-- A list of decoded elements. -/
theorem dec_list {α : Type} {e : Nat} {en : α → DV} {good : α → Prop} (hd : ∀ x : DV, (∃ m, HasT E m e x.cells) → ElemT (kindT E e) x → ∃ a, x = en a ∧ good a) : ∀ {l : List DV}, (∀ x ∈ l, (∃ m, HasT E m e x.cells) ∧ ElemT (kindT E e) x) → ∃ l' : List α, l = l'.map en ∧ ∀ a ∈ l', good a
  | [], _ => ⟨[], rfl, fun a ha => by simp at ha⟩
  | x :: l, h => by
    obtain ⟨a, rfl, ha⟩ := hd x (h x (List.mem_cons_self ..)).1 (h x (List.mem_cons_self ..)).2
    obtain ⟨l', rfl, has⟩ := dec_list hd (fun y hy => h y (List.mem_cons_of_mem _ hy))
    refine ⟨a :: l', rfl, fun b hb => ?_⟩
    rcases List.mem_cons.1 hb with rfl | hb
    · exact ha
    · exact has b hb

/-- An argument. -/
def ArgT (E : Env) (t : Nat) (x : DV) : Prop := (∃ m, HasT E m t x.cells) ∧ ElemT (kindT E t) x

theorem arg_has (hE : E.OK) {H : Type} {enc : TypeId × Value → H} {W : World} {base m : Nat} {v : Value} {d : DataW H} {p : List MemPlace} {held : Bool} (hok : okT E m t = true) (hv : Value.okWide E.P W .any base t v) (h : DataW.Trod enc E.P W 0 (fun _ => true) held t v d p) : ∃ x, VD (fun _ => False) W x v ∧ ArgT E t x := by
  obtain ⟨fuel, h⟩ := h
  obtain ⟨ds, h1, h2, h3⟩ := trod_has hE fuel m t _ _ hok h
  obtain ⟨i, hi⟩ := okT_some hok
  obtain ⟨ti, dd, g1, g2, g3, g4, -⟩ := tinfo_inv (hE.types t i hi)
  have hk : kindT E t = tk dd := by simp [kindT, at?_eq, hi, g3]
  by_cases hs : ∃ fs, dd = .struct fs
  · obtain ⟨fs, rfl⟩ := hs
    simp only [Value.okWide, g2] at hv
    obtain ⟨cs, rfl, -, -⟩ := hv
    refine ⟨.agg ds, .agg ds cs (by simpa [Value.cells] using h2.1) (fun j x v hx hv => h2.2 j x v hx (by simpa [Value.cells] using hv)), ⟨fuel, h1⟩, ?_⟩
    rw [hk]
    exact ⟨ds, rfl⟩
  · have hone : ∃ y, ds = [y] ∧ y.cells = [y] := by
      cases fuel with
      | zero => exact h1.elim
      | succ fuel =>
        unfold HasT at h1
        split at h1
        · obtain ⟨b, rfl⟩ := h1; exact ⟨_, rfl, rfl⟩
        · obtain ⟨b, rfl, -⟩ := h1; exact ⟨_, rfl, rfl⟩
        · obtain ⟨b, rfl, -⟩ := h1; exact ⟨_, rfl, rfl⟩
        · obtain ⟨b, rfl, -⟩ := h1; exact ⟨_, rfl, rfl⟩
        · rename_i fs hfs
          rw [hk] at hfs
          exact absurd (by cases dd <;> first | exact ⟨_, rfl⟩ | (cases hfs; done)) hs
        · exact h1.elim
    obtain ⟨y, rfl, hy⟩ := hone
    have hagg : ∀ cs, v ≠ .agg cs := fun cs e => by
      subst e
      have hnot : ∀ n e', dd ≠ .array n e' := fun n e' e => by
        subst e
        cases fuel with
        | zero => exact h1.elim
        | succ fuel => unfold HasT at h1; rw [hk] at h1; exact h1
      unfold Value.okWide at hv
      rw [g2] at hv
      cases dd <;> first
        | exact absurd ⟨_, rfl⟩ hs
        | exact absurd rfl (hnot _ _)
        | (simp [Cell.okWide, Cell.ok, g2] at hv; done)
    have hvc : v.cells.toList = [v] := by
      cases v <;> first | rfl | exact absurd rfl (hagg _)
    rw [hvc] at h2
    refine ⟨y, h2.2 0 y v rfl rfl, ⟨fuel, by rw [hy]; exact h1⟩, ?_⟩
    unfold ElemT
    split
    · rename_i fs hfs
      rw [hk] at hfs
      exact absurd (by cases dd <;> first | exact ⟨_, rfl⟩ | (cases hfs; done)) hs
    · exact hy

/-- All arguments. -/
def ArgsT (E : Env) : List Nat → List DV → Prop
  | [], xs => xs = []
  | t :: ts, x :: xs => ArgT E t x ∧ ArgsT E ts xs
  | _ :: _, [] => False

theorem args_has (hE : E.OK) {H : Type} {enc : TypeId × Value → H} {W : World} {base m : Nat} {held : Bool} : ∀ {ts : List Nat} {vs : List Value} {ds : List (DataW H)} {ps : List MemPlace}, ts.all (okT E m) = true →
    (∀ (j : Nat) t v, ts[j]? = some t → vs[j]? = some v → Value.okWide E.P W .any base t v) → DataW.TrodAll enc E.P W 0 (fun _ => true) held ts vs ds ps → ∃ xs, VLD (fun _ => False) W xs vs ∧ ArgsT E ts xs
  | [], vs, ds, ps, _, _, h => by
    obtain ⟨rfl, -, -⟩ := ChangeShapes.trodAll_nil h
    exact ⟨[], ⟨rfl, fun j x v hx => by simp at hx⟩, rfl⟩
  | t :: ts, vs, ds, ps, hok, hv, h => by
    obtain ⟨v, vs1, d, ds1, p, q, rfl, rfl, rfl, h1, h2⟩ := ChangeShapes.trodAll_cons h
    simp only [List.all_cons, Bool.and_eq_true] at hok
    obtain ⟨x, k1, k2⟩ := arg_has hE hok.1 (hv 0 t v rfl rfl) h1
    obtain ⟨xs, q1, q2⟩ := args_has hE hok.2 (fun j t v ht hv' => hv (j + 1) t v (by simpa using ht) (by simpa using hv')) h2
    refine ⟨x :: xs, ⟨by simp [q1.1], fun j y u hy hu => ?_⟩, k2, q2⟩
    cases j with
    | zero => simp at hy hu; subst hy; subst hu; exact k1
    | succ j => exact q1.2 j y u (by simpa using hy) (by simpa using hu)
end Go.Eng
