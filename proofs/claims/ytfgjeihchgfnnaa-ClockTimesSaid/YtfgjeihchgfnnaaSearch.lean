/- The contract of sort.Search over a closure that only makes memory. -/
import Derived.Test.YtfgjeihchgfnnaaBase
import Derived.Deep.LoopGhost
import Derived.Shelf.Abstract
namespace Go.Proofs.Ytfgjeihchgfnnaa
open Go.RowKit

/-- The first place from which on a test is true. -/
def Bound (p : Nat → Bool) (n k : Nat) : Prop := k ≤ n ∧ (∀ i, i < k → p i = false) ∧ (∀ i, k ≤ i → i < n → p i = true)
def SearchPost (p : Nat → Bool) (n : Nat) (w : World) (e : Ending) (w' : World) : Prop := (∃ k : Nat, e = .returned (.int .i64 k) ∧ Bound p n k) ∧ Ext w w'

set_option maxHeartbeats 800000 in
theorem search_any (g : Nat) (cb : Array Value) (n : Nat) (p : Nat → Bool) (w : World) (eg : ∀ args w, (callFunc g args).run Try.prog w = .ok (.enter g args) w) (hsz : n < 4611686018427387904)
    (hf : ∀ (W : World) (i : Nat), Ext w W → i < n → Calls Try.prog g (#[.int .i64 i] ++ cb) W fun e w' => e = .returned (.bool (p i)) ∧ Ext W w')
    (hmono : ∀ a b, a ≤ b → b < n → p a = true → p b = true) :
    Calls Try.prog 25 #[.int .i64 n, .func (.func g) #[] cb] w (SearchPost p n w) := by
  have HF := Lib.hid hf
  have M := Lib.hid hmono
  clear hf hmono
  go_enter Try.func25, Try.ntmps25
  go_wp2
  go_loopg [5, 6] n (fun kx s5 s6 wr => ∃ (lo hi : Nat), s5 = .int .i64 lo ∧ s6 = .int .i64 hi ∧ lo ≤ hi ∧ hi ≤ n ∧ hi - lo ≤ kx ∧ Ext w wr ∧
    Hid ((∀ t, t < lo → p t = false) ∧ (∀ t, hi ≤ t → t < n → p t = true)))
  case atStart => exact ⟨0, n, rfl, rfl, Nat.zero_le _, Nat.le_refl _, by omega, Ext.refl _, (⟨fun t ht => absurd ht (Nat.not_lt_zero _), fun t h1 h2 => by omega⟩ : (∀ t, t < 0 → p t = false) ∧ (∀ t, n ≤ t → t < n → p t = true))⟩
  case round =>
    obtain ⟨lo, hi, rfl, rfl, hlh, hin, hg, hx, I⟩ := hrel
    by_cases hlt : lo < hi
    · have hc := HF.out wr ((lo + hi) / 2) hx (by omega)
      rw [show (((lo + hi) / 2 : Nat) : Int) = ((lo : Int) + (hi : Int)) / 2 by omega] at hc
      cases hp : p ((lo + hi) / 2) <;> rw [hp] at hc
      · have HP := Lib.hid hp
        clear hp
        go_wp2_with (go_at_fn g; refine hc.mono ?_; rintro e w' ⟨rfl, hx'⟩)
        go_roundg (hi - ((lo + hi) / 2 + 1))
        case measure => omega
        case rel =>
          have I2 : Hid ((∀ t, t < (lo + hi) / 2 + 1 → p t = false) ∧ (∀ t, hi ≤ t → t < n → p t = true)) := ⟨fun t ht => (by
            cases h : p t with
            | false => rfl
            | true => have := M.out t ((lo + hi) / 2) (by omega) (by omega) h; rw [HP.out] at this; cases this), I.out.2⟩
          exact ⟨(lo + hi) / 2 + 1, hi, by rw [show ((lo : Int) + (hi : Int)) / 2 + 1 = (((lo + hi) / 2 + 1 : Nat) : Int) by omega], rfl, by omega, hin, Nat.le_refl _, hx.trans hx', I2⟩
      · have HP := Lib.hid hp
        clear hp
        go_wp2_with (go_at_fn g; refine hc.mono ?_; rintro e w' ⟨rfl, hx'⟩)
        go_roundg ((lo + hi) / 2 - lo)
        case measure => omega
        case rel =>
          have I2 : Hid ((∀ t, t < lo → p t = false) ∧ (∀ t, (lo + hi) / 2 ≤ t → t < n → p t = true)) := ⟨I.out.1, fun t ht htn => M.out ((lo + hi) / 2) t ht htn HP.out⟩
          exact ⟨lo, (lo + hi) / 2, rfl, by rw [show ((lo : Int) + (hi : Int)) / 2 = (((lo + hi) / 2 : Nat) : Int) by omega], by omega, by omega, Nat.le_refl _, hx.trans hx', I2⟩
    · obtain rfl : hi = lo := by omega
      go_wp2
      go_ret
      exact ⟨⟨hi, rfl, hin, I.out.1, I.out.2⟩, hx⟩

theorem Bound.unique {p : Nat → Bool} {n k l : Nat} (h : Bound p n k) (g : Bound p n l) : k = l := by
  obtain ⟨h1, h2, h3⟩ := h
  obtain ⟨g1, g2, g3⟩ := g
  rcases Nat.lt_trichotomy k l with hlt | heq | hlt
  · have a := h3 k (Nat.le_refl _) (by omega); have b := g2 k hlt; rw [a] at b; cases b
  · exact heq
  · have a := g3 l (Nat.le_refl _) (by omega); have b := h2 l hlt; rw [a] at b; cases b

theorem Bound.mono {p : Nat → Bool} {n k : Nat} (h : Bound p n k) : ∀ a b, a ≤ b → b < n → p a = true → p b = true := by
  intro a b hab hb ha
  obtain ⟨h1, h2, h3⟩ := h
  by_cases hk : k ≤ b
  · exact h3 b hk hb
  · rw [h2 a (by omega)] at ha; cases ha

theorem Bound.exists_of_mono (p : Nat → Bool) (n : Nat) (h : ∀ a b, a ≤ b → b < n → p a = true → p b = true) : ∃ k, Bound p n k := by
  induction n with
  | zero => exact ⟨0, Nat.le_refl _, fun i hi => by omega, fun i _ hi => by omega⟩
  | succ n ih =>
    obtain ⟨k, h1, h2, h3⟩ := ih (fun a b hab hb => h a b hab (by omega))
    by_cases hk : k = n
    · subst hk
      cases hp : p k
      · exact ⟨k + 1, Nat.le_refl _, fun i hi => by
          by_cases e : i = k
          · subst e; exact hp
          · exact h2 i (by omega), fun i _ _ => by omega⟩
      · exact ⟨k, by omega, h2, fun i a b => by obtain rfl : i = k := by omega
                                                exact hp⟩
    · refine ⟨k, by omega, h2, fun i a b => ?_⟩
      by_cases e : i < n
      · exact h3 i a e
      · exact h k i a b (h3 k (Nat.le_refl _) (by omega))

/-- sort.Search at a known answer. -/
theorem search_at (g : Nat) (cb : Array Value) (n k : Nat) (p : Nat → Bool) (w : World) (eg : ∀ args w, (callFunc g args).run Try.prog w = .ok (.enter g args) w) (hsz : n < 4611686018427387904)
    (hf : ∀ (W : World) (i : Nat), Ext w W → i < n → Calls Try.prog g (#[.int .i64 i] ++ cb) W fun e w' => e = .returned (.bool (p i)) ∧ Ext W w') (hk : Bound p n k) :
    Calls Try.prog 25 #[.int .i64 n, .func (.func g) #[] cb] w fun e w' => e = .returned (.int .i64 k) ∧ Ext w w' :=
  (search_any g cb n p w eg hsz hf hk.mono).mono fun _ _ ⟨⟨l, he, hl⟩, hx⟩ => by
    rw [hk.unique hl]; exact ⟨he, hx⟩

end Go.Proofs.Ytfgjeihchgfnnaa
