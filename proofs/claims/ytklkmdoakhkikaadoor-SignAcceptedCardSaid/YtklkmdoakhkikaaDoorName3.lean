/- The contract of name's valid, which ranges over the labels. -/
import Derived.Test.YtklkmdoakhkikaaDoorName2
import Derived.RangeFuncFrom
namespace Go.Proofs.YtklkmdoakhkikaaDoor
open Go.RowKit Go.Shelf

attribute [local go_sem] Oper.semAt_some

/-- Labels, from the last one on, of which only the one at the end may be the star. -/
def Nm.Good (tot : Nat) (X : List ByteArray) : Prop := X.length ≤ 8 ∧ ∀ i x, X[i]? = some x → Nm.label (toL x) = true ∨ (i + 1 = tot ∧ toL x = [42])
/-- The last one is the star. -/
def Nm.star (X : List ByteArray) : Bool := match X.getLast? with
  | some x => decide (toL x = [42])
  | none => false

theorem Nm.valid_back (s : ByteArray) (hr : ¬ toL s = [46]) (hs : s.size ≤ 60) : Nm.valid (toL s) = true ↔ Nm.Good (Nm.back s).length (Nm.back s) := by
  rw [Nm.valid_short _ hr (by rw [show (toL s).length = s.size from Nm.len s]; exact hs), Nm.parts_iff]
  have hb : Nm.back s = (Nm.split (toL s)).reverse.map bs := by simp [Nm.back, Nm.labels, hr]
  rw [hb]
  generalize Nm.split (toL s) = ls
  simp only [Nm.Good, List.length_map, List.length_reverse]
  refine and_congr_right fun _ => ?_
  constructor
  · intro h i x hx
    rw [List.getElem?_map, Option.map_eq_some_iff] at hx
    obtain ⟨y, hy, rfl⟩ := hx
    have hi : i < ls.length := by simpa using (List.getElem?_eq_some_iff.1 hy).1
    rw [List.getElem?_reverse hi] at hy
    have := h (ls.length - 1 - i) (by omega)
    simp only [Nm.okAt, hy, Bool.or_eq_true, Bool.and_eq_true, decide_eq_true_eq] at this
    rw [toL_bs]
    rcases this with h | ⟨h1, h2⟩
    · exact .inl h
    · exact .inr ⟨by omega, h2⟩
  · intro h i hi
    obtain ⟨y, hy⟩ : ∃ y, ls[i]? = some y := ⟨_, List.getElem?_eq_getElem hi⟩
    have hx : (ls.reverse.map bs)[ls.length - 1 - i]? = some (bs y) := by
      rw [List.getElem?_map, List.getElem?_reverse (by omega), show ls.length - 1 - (ls.length - 1 - i) = i by omega, hy]; rfl
    have := h _ _ hx
    rw [toL_bs] at this
    simp only [Nm.okAt, hy, Bool.or_eq_true, Bool.and_eq_true, decide_eq_true_eq]
    rcases this with h | ⟨h1, h2⟩
    · exact .inl h
    · exact .inr ⟨by omega, h2⟩

theorem Nm.label_star : Nm.label [42] = false := by decide

/-- A further label that may stand there. -/
theorem Nm.good_snoc {pre : List ByteArray} {x : ByteArray} (h : Nm.Good pre.length pre) (hst : Nm.star pre = false) (hc : pre.length + 1 ≤ 8) (hx : Nm.label (toL x) = true ∨ toL x = [42]) : Nm.Good (pre ++ [x]).length (pre ++ [x]) := by
  refine ⟨by simpa using hc, fun i y hy => ?_⟩
  by_cases hi : i < pre.length
  · rw [List.getElem?_append_left hi] at hy
    rcases h.2 i y hy with h1 | ⟨h1, h2⟩
    · exact .inl h1
    · exfalso
      have : pre.getLast? = some y := by rw [List.getLast?_eq_getElem?, ← hy]; congr 1; omega
      simp [Nm.star, this, h2] at hst
  · have hi' : i = pre.length := by
      have := (List.getElem?_eq_some_iff.1 hy).1
      simp at this; omega
    subst hi'
    rw [List.getElem?_append_right (Nat.le_refl _)] at hy
    simp at hy
    subst hy
    rcases hx with h1 | h1
    · exact .inl h1
    · exact .inr ⟨by simp, h1⟩
/-- One that may not. -/
theorem Nm.bad_snoc {pre X : List ByteArray} {x : ByteArray} (hp : pre ++ [x] <+: X) (h : Nm.star pre = true ∨ 8 < pre.length + 1 ∨ (Nm.label (toL x) = false ∧ ¬ toL x = [42])) : ¬ Nm.Good X.length X := by
  rintro ⟨g1, g2⟩
  obtain ⟨t, rfl⟩ := hp
  rcases h with h | h | ⟨h1, h2⟩
  · unfold Nm.star at h
    split at h
    · rename_i y hy
      rw [List.getLast?_eq_getElem?] at hy
      have hlt := (List.getElem?_eq_some_iff.1 hy).1
      have := g2 (pre.length - 1) y (by rw [List.append_assoc, List.getElem?_append_left hlt]; exact hy)
      rcases this with e | ⟨e, _⟩
      · rw [of_decide_eq_true h] at e; rw [Nm.label_star] at e; cases e
      · simp at e; omega
    · cases h
  · simp at g1; omega
  · have := g2 pre.length x (by simp)
    rcases this with e | ⟨_, e⟩
    · rw [h1] at e; cases e
    · exact h2 e
theorem Nm.star_snoc (pre : List ByteArray) (x : ByteArray) : Nm.star (pre ++ [x]) = decide (toL x = [42]) := by simp [Nm.star]

/-- What the loop keeps. -/
def Nm.Inv (w : World) (pre : List ByteArray) (W : World) : Prop :=
  Nm.Good pre.length pre ∧ W.cell? ⟨w.heap.size, 0, none⟩ = some (.bool false) ∧ W.frozen? ⟨w.heap.size, 0, none⟩ = false ∧
  W.cell? ⟨w.heap.size + 1, 0, none⟩ = some (.int .i64 pre.length) ∧ W.frozen? ⟨w.heap.size + 1, 0, none⟩ = false ∧
  W.cell? ⟨w.heap.size + 1 + 1, 0, none⟩ = some (.bool (Nm.star pre)) ∧ W.frozen? ⟨w.heap.size + 1 + 1, 0, none⟩ = false
def Nm.InvX (s : ByteArray) (w : World) (c : Code) (pre : List ByteArray) (W : World) : Prop :=
  c = .ret ∧ (pre <+: Nm.back s → ¬ Nm.Good (Nm.back s).length (Nm.back s)) ∧ W.cell? ⟨w.heap.size, 0, none⟩ = some (.bool false)

set_option maxRecDepth 100000 in
set_option maxHeartbeats 2000000 in
theorem tvalid_long (s : ByteArray) (w : World) (hs : s.size ≤ maxLen) (h : toL s = [46] ∨ 60 < s.size) :
    Calls Tryd.prog 41 #[.string s] w fun e w' => e = .returned (.bool (Nm.valid (toL s))) ∧ Ext w w' := by
  unfold maxLen at hs
  by_cases hr : toL s = [46]
  · have hb : (s.toList == [46]) = true := by rw [ByteArray.toList_eq]; simp only [beq_iff_eq]; exact hr
    have HV : Hid (Nm.valid (toL s) = true) := by show Nm.valid (toL s) = true; simp [Nm.valid, hr]
    clear hr h
    refine (callsIn_wide (n := 3)).1 ?_
    refine callsIn_of_wp_marks Tryd.func41 rfl trivial ?_ rfl
    simp only [Tryd.ntmps41, List.size_toArray, List.length_cons, List.length_nil, Nat.reduceAdd, Nat.reduceSub, Array.replicate_succ, Array.replicate_zero, List.push_toArray, List.append_toArray, List.nil_append, List.cons_append]
    gi_wp2
    exact ⟨.bool true, by simp [results, Tryd.results41, go_sem], by rw [HV.out], (Ext.refl _).alloc _⟩
  · have hb : (s.toList == [46]) = false := by rw [ByteArray.toList_eq]; simp only [beq_eq_false_iff_ne]; exact hr
    have h60 : 60 < s.size := by rcases h with h | h; exact absurd h hr; exact h
    have HV : Hid (Nm.valid (toL s) = false) := Nm.valid_long (toL s) hr (by rw [show (toL s).length = s.size from Nm.len s]; exact h60)
    clear hr h
    refine (callsIn_wide (n := 3)).1 ?_
    refine callsIn_of_wp_marks Tryd.func41 rfl trivial ?_ rfl
    simp only [Tryd.ntmps41, List.size_toArray, List.length_cons, List.length_nil, Nat.reduceAdd, Nat.reduceSub, Array.replicate_succ, Array.replicate_zero, List.push_toArray, List.append_toArray, List.nil_append, List.cons_append]
    gi_wp2
    exact ⟨.bool false, by simp [results, Tryd.results41, go_sem], by rw [HV.out], (Ext.refl _).alloc _⟩

theorem set_other {W : World} {b1 b2 : Nat} {u : Value} (h : b1 ≠ b2) : (W.setCell ⟨b1, 0, none⟩ u).cell? ⟨b2, 0, none⟩ = W.cell? ⟨b2, 0, none⟩ :=
  World.cell?_of_block (Below.heap_setCell W ⟨b1, 0, none⟩ u b2 (fun e => h e.symm))
theorem set_same {W : World} {a : Addr} {u v : Value} (h : W.cell? a = some v) : (W.setCell a u).cell? a = some u := World.cell?_setCell_same' _ _ _ (by rw [h]; rfl)
theorem cell_kept' {W W' : World} {a : Addr} {v : Value} {row : Option Nat} (h : W.cell? a = some v) (hg : W.grownBy W' row) (hr : ∀ r, row = some r → ∃ o : Obj, W.heap[r]? = some o ∧ o.isCells = false) : W'.cell? a = some v := Go.cell_kept h hg hr

set_option maxRecDepth 100000 in
set_option maxHeartbeats 4000000 in
theorem tvalid_short (s : ByteArray) (w : World) (hr : ¬ toL s = [46]) (h60 : s.size ≤ 60) :
    Calls Tryd.prog 41 #[.string s] w fun e w' => e = .returned (.bool (Nm.valid (toL s))) ∧ Ext w w' := by
  have hb : (s.toList == [46]) = false := by rw [ByteArray.toList_eq]; simp only [beq_eq_false_iff_ne]; exact hr
  have HV := Lib.hid (Nm.valid_back s hr h60)
  have hlt : decide (60 < (s.size : Int)) = false := by simp; omega
  clear hr
  refine (callsIn_wide (n := 5)).1 ?_
  refine callsIn_of_wp_marks Tryd.func41 rfl trivial ?_ rfl
  simp only [Tryd.ntmps41, List.size_toArray, List.length_cons, List.length_nil, Nat.reduceAdd, Nat.reduceSub, Array.replicate_succ, Array.replicate_zero, List.push_toArray, List.append_toArray, List.nil_append, List.cons_append]
  gi_wp2
  have c0 : (((w.alloc (.cells #[.bool false] 4)).alloc (.cells #[.int .i64 0] 3)).alloc (.cells #[.bool false] 4)).cell? ⟨w.heap.size, 0, none⟩ = some (.bool false) := cell_kept _ (cell_kept _ (cell_box _ _ _))
  have c1 : (((w.alloc (.cells #[.bool false] 4)).alloc (.cells #[.int .i64 0] 3)).alloc (.cells #[.bool false] 4)).cell? ⟨w.heap.size + 1, 0, none⟩ = some (.int .i64 0) := cell_kept _ (by have := cell_box (w.alloc (.cells #[.bool false] 4)) (.int .i64 0) 3; rwa [World.size_alloc] at this)
  have c2 : (((w.alloc (.cells #[.bool false] 4)).alloc (.cells #[.int .i64 0] 3)).alloc (.cells #[.bool false] 4)).cell? ⟨w.heap.size + 1 + 1, 0, none⟩ = some (.bool false) := by have := cell_box ((w.alloc (.cells #[.bool false] 4)).alloc (.cells #[.int .i64 0] 3)) (.bool false) 4; rwa [World.size_alloc, World.size_alloc] at this
  have f0 : ∀ b, w.heap.size ≤ b → (((w.alloc (.cells #[.bool false] 4)).alloc (.cells #[.int .i64 0] 3)).alloc (.cells #[.bool false] 4)).frozen? ⟨b, 0, none⟩ = false := fun b hb => by
    rw [frozen?_alloc_cells, frozen?_alloc_cells, frozen?_alloc_cells]; exact frozen_fresh w b 0 hb
  have hB0 : Below w.heap.size w (((w.alloc (.cells #[.bool false] 4)).alloc (.cells #[.int .i64 0] 3)).alloc (.cells #[.bool false] 4)) := ((((Ext.refl w).alloc _).alloc _).alloc _).below
  refine range_bound rfl (by omega) (gf := 60) (fb := #[.string s]) (lb := #[]) rfl trivial (enters_of Tryd.func60 (by kernel_rfl) rfl)
    (backwards_in 4 (by omega) s (by unfold maxLen; omega) _) (fun _ _ => trivial) (fun _ _ _ _ _ _ _ _ => trivial) (Below.refl _ _) (fun _ => rfl)
    (fun pre W => Nm.Inv w pre W ∧ Below w.heap.size w W)
    (fun c pre W => Nm.InvX s w c pre W ∧ Below w.heap.size w W)
    (OwnFrom.and (Own.from (fun pre A B row hs hg hr => ⟨hs.1, cell_kept' hs.2.1 hg hr, (frozen_kept hs.2.1 hg hr).trans hs.2.2.1, cell_kept' hs.2.2.2.1 hg hr, (frozen_kept hs.2.2.2.1 hg hr).trans hs.2.2.2.2.1, cell_kept' hs.2.2.2.2.2.1 hg hr, (frozen_kept hs.2.2.2.2.2.1 hg hr).trans hs.2.2.2.2.2.2⟩) _) (ownFrom_below (Nat.le_refl _) (by simp; omega)))
    (fun c => OwnFrom.and (Own.from (fun pre A B row hs hg hr => ⟨hs.1, hs.2.1, cell_kept' hs.2.2 hg hr⟩) _) (ownFrom_below (Nat.le_refl _) (by simp; omega)))
    ⟨⟨⟨by simp, by simp⟩, c0, f0 _ (by omega), c1, f0 _ (by omega), c2, f0 _ (by omega)⟩, hB0⟩
    (fun x => { tmps := #[.string s, undef, .pointer (some ⟨w.heap.size, 0, none⟩), .pointer (some ⟨w.heap.size + 1, 0, none⟩), .pointer (some ⟨w.heap.size + 1 + 1, 0, none⟩), .string x, .string s, .bool false, .string s, .int .i64 s.size, .bool false, .string s, .func (.func 60) #[.string s] #[], .string x, undef, undef, undef, undef, undef, undef, undef, undef, undef, undef, undef, undef, undef, undef, undef, undef], defers := [] }) ?assign ?body ?done ?stop
  case assign =>
    intro l x W K hK
    gi_wp2
    exact hK
  case body =>
    rintro l pre x W ⟨⟨hG, k0, g0, k1, g1, k2, g2⟩, hB⟩ hlen
    have HG := Lib.hid hG
    have h8 := hG.1
    clear hG c0 c1 c2 f0 hB0
    have eStar : (x.toList == [42]) = decide (toL x = [42]) := by rw [ByteArray.toList_eq, Bool.eq_iff_iff]; simp only [beq_iff_eq, decide_eq_true_eq]
    have ESt := Lib.hid eStar
    clear eStar
    clear hlen
    have leave : ∀ W', KeepsOthers W W' → W'.cell? ⟨w.heap.size, 0, none⟩ = some (.bool false) → Below w.heap.size w W' →
        (Nm.star pre = true ∨ 8 < pre.length + 1 ∨ (Nm.label (toL x) = false ∧ ¬ toL x = [42])) → KeepsOthers W W' ∧ Nm.InvX s w .ret (pre ++ [x]) W' ∧ Below w.heap.size w W' :=
      fun W' h1 h2 h3 h4 => ⟨h1, ⟨rfl, fun hp => Nm.bad_snoc hp h4, h2⟩, h3⟩
    have LV := Lib.hid leave
    have goon : ∀ (st : Bool), Nm.star (pre ++ [x]) = st → Nm.star pre = false → pre.length + 1 ≤ 8 → (Nm.label (toL x) = true ∨ toL x = [42]) →
        Nm.Inv w (pre ++ [x]) ((W.setCell ⟨w.heap.size + 1, 0, none⟩ (.int .i64 ((pre.length : Int) + 1))).setCell ⟨w.heap.size + 1 + 1, 0, none⟩ (.bool st)) ∧
        Below w.heap.size w ((W.setCell ⟨w.heap.size + 1, 0, none⟩ (.int .i64 ((pre.length : Int) + 1))).setCell ⟨w.heap.size + 1 + 1, 0, none⟩ (.bool st)) :=
      fun st h1 h2 h3 h4 => ⟨⟨Nm.good_snoc HG.out h2 h3 h4,
        by rw [set_other (by omega), set_other (by omega)]; exact k0, by rw [World.frozen?_setCell, World.frozen?_setCell]; exact g0,
        by rw [set_other (by omega), set_same k1]; simp, by rw [World.frozen?_setCell, World.frozen?_setCell]; exact g1,
        by rw [set_same (v := .bool (Nm.star pre)) (by rw [set_other (by omega)]; exact k2), h1], by rw [World.frozen?_setCell, World.frozen?_setCell]; exact g2⟩,
        (hB.setCell (p := ⟨w.heap.size + 1, 0, none⟩) (by simp) _).setCell (p := ⟨w.heap.size + 1 + 1, 0, none⟩) (by simp; omega) _⟩
    have GO := Lib.hid goon
    clear leave goon
    cases hst : Nm.star pre
    · have HST := Lib.hid hst
      rw [hst] at k2
      clear hst
      by_cases hc : pre.length + 1 ≤ 8
      · cases hx : (x.toList == [42])
        · have HX : Hid (¬ toL x = [42]) := by have := ESt.out; rw [hx] at this; exact of_decide_eq_false this.symm
          cases hl : Nm.label (toL x)
          · have HL := Lib.hid hl
            clear hl
            gi_wp2_with (refine ⟨trivial, ?_⟩; gi_at_call 61; refine (CallsIn.inRound l (callsIn_wide.2 (isLabel_any x _))).mono ?_; rintro e w' ⟨rfl, rfl⟩; rw [HL.out])
            refine LV.out _ (((KeepsOthers.setCell _ _ _).trans (KeepsOthers.setCell _ _ _)).trans (KeepsOthers.setCell _ _ _)) ?_ ?_ (.inr (.inr ⟨HL.out, HX.out⟩))
            · exact set_same (v := .bool false) (by rw [set_other (by omega), set_other (by omega)]; exact k0)
            · exact ((hB.setCell (p := ⟨w.heap.size + 1, 0, none⟩) (by simp) _).setCell (p := ⟨w.heap.size + 1 + 1, 0, none⟩) (by simp; omega) _).setCell (p := ⟨w.heap.size, 0, none⟩) (Nat.le_refl _) _
          · have HL := Lib.hid hl
            clear hl
            gi_wp2_with (refine ⟨trivial, ?_⟩; gi_at_call 61; refine (CallsIn.inRound l (callsIn_wide.2 (isLabel_any x _))).mono ?_; rintro e w' ⟨rfl, rfl⟩; rw [HL.out])
            exact ⟨(KeepsOthers.setCell _ _ _).trans (KeepsOthers.setCell _ _ _), trivial, GO.out false (by rw [Nm.star_snoc]; exact decide_eq_false HX.out) HST.out hc (.inl HL.out)⟩
        · have HX : Hid (toL x = [42]) := by show toL x = [42]; have := ESt.out; rw [hx] at this; exact of_decide_eq_true this.symm
          gi_wp2_with fail
          refine ⟨trivial, ?_⟩
          gi_wp2_with fail
          exact ⟨(KeepsOthers.setCell _ _ _).trans (KeepsOthers.setCell _ _ _), trivial, GO.out true (by rw [Nm.star_snoc]; exact decide_eq_true HX.out) HST.out hc (.inr HX.out)⟩
      · gi_wp2_with fail
        refine LV.out _ ((KeepsOthers.setCell _ _ _).trans (KeepsOthers.setCell _ _ _)) ?_ ?_ (.inr (.inl (by omega)))
        · exact set_same (v := .bool false) (by rw [set_other (by omega)]; exact k0)
        · exact (hB.setCell (p := ⟨w.heap.size + 1, 0, none⟩) (by simp) _).setCell (p := ⟨w.heap.size, 0, none⟩) (Nat.le_refl _) _
    · have HST := Lib.hid hst
      rw [hst] at k2
      clear hst
      gi_wp2_with fail
      refine LV.out _ ((KeepsOthers.setCell _ _ _).trans (KeepsOthers.setCell _ _ _)) ?_ ?_ (.inl HST.out)
      · exact set_same (v := .bool false) (by rw [set_other (by omega)]; exact k0)
      · exact (hB.setCell (p := ⟨w.heap.size + 1, 0, none⟩) (by simp) _).setCell (p := ⟨w.heap.size, 0, none⟩) (Nat.le_refl _) _
  case done =>
    rintro D ys W hD hys ⟨⟨hG, k0, g0, k1, g1, k2, g2⟩, hB⟩ hK
    have HY : Hid (ys = Nm.back s) := hys
    have HG := Lib.hid hG
    clear hys hG c0 c1 c2 f0 hB0
    gi_wp2
    have hK' := (KeepsOthers.setCell W ⟨w.heap.size, 0, none⟩ (.bool true)).same D _ hK rfl
    refine ⟨by simp, .inl ⟨_, _, rfl, run_takeDeferred hK', ?_⟩⟩
    have hc5 := cell_kept' (World.cell?_setCell_same' W ⟨w.heap.size, 0, none⟩ (.bool true) (by rw [k0]; rfl)) (grownBy_putObj' _ D (.deferred none)) (fun r e => by cases e; exact ⟨_, hK', rfl⟩)
    have hv : Nm.valid (toL s) = true := by rw [HV.out, ← HY.out]; exact HG.out
    refine ⟨.bool true, ?_, by rw [hv], Ext.ofBelow ((hB.setCell (p := ⟨w.heap.size, 0, none⟩) (Nat.le_refl _) _).trans (belowK_b (w := w) (Nat.le_refl _) _ D _ _ (by simp at hD; omega) hK' rfl rfl))⟩
    simp [results, Tryd.results41, go_sem, hc5]
  case stop =>
    rintro D c pre W hD hpre ⟨⟨rfl, hbad, hcr⟩, hB⟩ hK
    have HP : Hid (pre <+: Nm.back s) := hpre
    have HBad := Lib.hid hbad
    clear hpre hbad c0 c1 c2 f0 hB0
    gi_wp2
    refine ⟨by simp, .inl ⟨_, _, rfl, run_takeDeferred hK, ?_⟩⟩
    have hc5 := cell_kept' hcr (grownBy_putObj' _ D (.deferred none)) (fun r e => by cases e; exact ⟨_, hK, rfl⟩)
    have hv : Nm.valid (toL s) = false := by rw [← Bool.not_eq_true, HV.out]; exact HBad.out HP.out
    refine ⟨.bool false, ?_, by rw [hv], Ext.ofBelow (hB.trans (belowK_b (w := w) (Nat.le_refl _) W D _ _ (by simp at hD; omega) hK rfl rfl))⟩
    simp [results, Tryd.results41, go_sem, hc5]

/-- Whether a text is a name. -/
theorem tvalid_any (s : ByteArray) (w : World) (hs : s.size ≤ maxLen) :
    Calls Tryd.prog 41 #[.string s] w fun e w' => e = .returned (.bool (Nm.valid (toL s))) ∧ Ext w w' := by
  by_cases h : toL s = [46] ∨ 60 < s.size
  · exact tvalid_long s w hs h
  · rw [not_or] at h; exact tvalid_short s w h.1 (by omega)

set_option maxHeartbeats 400000 in
theorem nvalid_any (s : ByteArray) (w : World) (hs : s.size ≤ maxLen) :
    Calls Tryd.prog 21 #[.string s] w fun e w' => e = .returned (.bool (Nm.valid (toL s))) ∧ Ext w w' := by
  go_enter Tryd.func21, Tryd.ntmps21
  go_wp2_with fail
  refine (tvalid_any s _ hs).mono ?_
  rintro e w1 ⟨rfl, hx⟩
  go_wp2_with fail
  go_ret
  exact ⟨rfl, hx⟩

end Go.Proofs.YtklkmdoakhkikaaDoor
