/- The engine, part G: package-level tables that read as data of numbers, bools and texts. No conditions. -/
import Derived.Test.YtklkmdoakhkikaaDoorDec
namespace Go.Eng
open Go Go.RowKit

def litC {H : Type} : Nat → DataW H → Option (List Value)
  | 0, _ => none
  | _ + 1, .lit (.int k n) => some [.int k n]
  | _ + 1, .lit (.bool b) => some [.bool b]
  | _ + 1, .lit (.string s) => some [.string ⟨s.toArray⟩]
  | n + 1, .agg ps => (ps.mapM (litC n)).map List.flatten
  | _ + 1, _ => none

/-- A type of numbers, bools, texts, structs and arrays. -/
def okA (E : Env) : Nat → Nat → Bool
  | 0, _ => false
  | m + 1, t => match at? E.T t with
    | none => false
    | some i => match i.k with
      | .bool => Nat.beq i.size 1
      | .int _ => Nat.beq i.size 1
      | .string => Nat.beq i.size 1
      | .array n e => Nat.beq i.size (n * sizeT E e) && okA E m e
      | .struct fs => tileB E 0 fs i.size && fs.all fun p => okA E m p.2
      | _ => false
theorem okA_some {E : Env} {m t : Nat} (h : okA E m t = true) : ∃ i, E.T[t]? = some i := by
  cases m with
  | zero => cases h
  | succ m =>
    unfold okA at h
    split at h
    · cases h
    · rename_i i hi; rw [at?_eq] at hi; exact ⟨i, hi⟩
theorem okA_size {E : Env} (hE : E.OK) {m t : Nat} (h : okA E m t = true) : sizeT E t = E.P.cellsOf t := by
  obtain ⟨i, hi⟩ := okA_some h
  exact sizeT_eq hE hi

section
variable {H : Type}
/-- Parts one behind the other. -/
theorem parts_lit {n : Nat} {cs : List Value} : ∀ {L : List (Nat × Nat)} {xs : List (DataW H × List MemPlace)} {o tot : Nat}, xs.length = L.length → cs.length = tot →
    (∀ (i : Nat) (p : Nat × Nat), L[i]? = some p → p.1 = o + ((L.take i).map (·.2)).sum ∧ p.1 + p.2 ≤ tot) → o + (L.map (·.2)).sum = tot →
    (∀ (i : Nat) (p : Nat × Nat) (y : DataW H × List MemPlace), L[i]? = some p → xs[i]? = some y → litC n y.1 = some ((cs.drop p.1).take p.2)) →
    ∃ ls, (xs.map (·.1)).mapM (litC n) = some ls ∧ ls.flatten = cs.drop o
  | [], [], o, tot, _, hc, _, hs, _ => ⟨[], rfl, by rw [List.drop_of_length_le (by simp at hs; omega)]; rfl⟩
  | p :: L, y :: xs, o, tot, hl, hc, ho, hs, hx => by
    have h0 := ho 0 p rfl
    simp at h0
    have hy := hx 0 p y rfl rfl
    simp only [List.map_cons, List.sum_cons] at hs
    obtain ⟨ls, k1, k2⟩ := parts_lit (n := n) (cs := cs) (L := L) (xs := xs) (o := o + p.2) (tot := tot) (by simpa using hl) hc (fun i q hq => by
      have := ho (i + 1) q (by simpa using hq)
      simp only [List.take_succ_cons, List.map_cons, List.sum_cons] at this
      omega) (by omega) (fun i q z hq hz => hx (i + 1) q z (by simpa using hq) (by simpa using hz))
    refine ⟨(cs.drop p.1).take p.2 :: ls, ?_, ?_⟩
    · simp only [List.map_cons, List.mapM_cons, hy, k1]
      rfl
    · rw [List.flatten_cons, k2, h0.1, ← List.drop_drop, List.take_append_drop]
  | [], _ :: _, _, _, h, _, _, _, _ => by simp at h
  | _ :: _, [], _, _, h, _, _, _, _ => by simp at h

variable {E : Env} {enc : TypeId × Value → H} {w : World} {held : Bool} {sp : Nat → Bool}
theorem tile_sum : ∀ {fs : List (Nat × Nat)} {o tot : Nat}, tileB E o fs tot = true → o + ((fs.map fun p => (p.1, sizeT E p.2)).map (·.2)).sum = tot ∧
    ∀ (i : Nat) (p : Nat × Nat), (fs.map fun p => (p.1, sizeT E p.2))[i]? = some p → p.1 = o + (((fs.map fun p => (p.1, sizeT E p.2)).take i).map (·.2)).sum ∧ p.1 + p.2 ≤ tot
  | [], o, tot, h => ⟨by simpa using Nat.eq_of_beq_eq_true h, fun i p hp => by simp at hp⟩
  | q :: fs, o, tot, h => by
    have hle := (tile_le h).2 q (List.mem_cons_self ..)
    simp only [tileB, Bool.and_eq_true] at h
    obtain ⟨h1, h2⟩ := h
    have h1 := Nat.eq_of_beq_eq_true h1
    obtain ⟨k1, k2⟩ := tile_sum h2
    refine ⟨by simp only [List.map_cons, List.sum_cons]; omega, fun i p hp => ?_⟩
    cases i with
    | zero => simp at hp; subst hp; simp; omega
    | succ i =>
      have := k2 i p (by simpa using hp)
      simp only [List.map_cons, List.take_succ_cons, List.sum_cons]
      omega

theorem lit_cells (hE : E.OK) : ∀ (fuel m t : Nat) (cs : List Value) (x : DataW H × List MemPlace), okA E m t = true → DataW.trod enc E.P w 0 sp held fuel t cs = some x → litC fuel x.1 = some cs := by
  intro fuel
  induction fuel with
  | zero => intro m t cs x _ h; simp [DataW.trod] at h
  | succ fuel ih =>
    intro m t cs x hok h
    cases m with
    | zero => cases hok
    | succ m =>
      unfold okA at hok
      split at hok
      · cases hok
      rename_i i hi
      have hsz : sizeT E t = i.size := by simp [sizeT, hi]
      rw [at?_eq] at hi
      obtain ⟨ti, d, g1, g2, g3, g4, -⟩ := tinfo_inv (hE.types t i hi)
      split at hok
      · rename_i hik
        have hd : d = .bool := by rw [hik] at g3; cases d <;> first | rfl | cases g3
        subst hd
        obtain ⟨b, rfl, rfl⟩ := DataW.trod_bool g2 h
        rfl
      · rename_i k hik
        obtain rfl := tk_int (hik.symm.trans g3)
        obtain ⟨n, rfl, rfl, hw⟩ := DataW.trod_int g2 h
        rfl
      · rename_i hik
        obtain rfl := tk_string (hik.symm.trans g3)
        obtain ⟨s, rfl, rfl, hl⟩ := DataW.trod_string g2 h
        rfl
      · rename_i n e hik
        obtain rfl := tk_array (hik.symm.trans g3)
        simp only [Bool.and_eq_true] at hok
        obtain ⟨hs, hoke⟩ := hok
        have hs := Nat.eq_of_beq_eq_true hs
        obtain ⟨xs, k, hk, rfl, hlen, hxl, hf⟩ := DataW.trod_array g2 h
        cases hk
        have hse := okA_size hE hoke
        rw [← sizeT_eq hE hi, hsz, hs] at hlen
        rw [← hse] at hf
        have hL : ∀ (i : Nat) (p : Nat × Nat), ((List.range n).map fun i => (i * sizeT E e, sizeT E e))[i]? = some p → i < n ∧ p = (i * sizeT E e, sizeT E e) := fun i p hp => by
          have hi : i < n := by have := lt_of_getElem? hp; simpa using this
          simp [hi] at hp
          exact ⟨hi, hp.symm⟩
        have hsum : ∀ k, (((List.range n).map fun i => (i * sizeT E e, sizeT E e)).take k).map (·.2) = List.replicate (min k n) (sizeT E e) := fun k => by
          apply List.ext_getElem
          · simp
          · intro j h1 h2; simp
        obtain ⟨ls, k1, k2⟩ := parts_lit (n := fuel) (cs := cs) (L := (List.range n).map fun i => (i * sizeT E e, sizeT E e)) (xs := xs) (o := 0) (tot := n * sizeT E e) (by simp [hxl]) hlen (fun i p hp => by
          obtain ⟨h1, rfl⟩ := hL i p hp
          rw [hsum, List.sum_replicate_nat, Nat.min_eq_left (by omega)]
          refine ⟨by simp, ?_⟩
          have : (i + 1) * sizeT E e ≤ n * sizeT E e := Nat.mul_le_mul_right _ h1
          rw [Nat.add_mul, Nat.one_mul] at this
          exact this) (by
            have := hsum n
            rw [List.take_of_length_le (by simp)] at this
            rw [this, List.sum_replicate_nat, Nat.min_self, Nat.zero_add]) (fun i p y hp hy => by
          obtain ⟨h1, rfl⟩ := hL i p hp
          have := hf i h1
          rw [hy] at this
          exact ih m e _ _ hoke this)
        rw [List.drop_zero] at k2
        simp only [litC, k1, Option.map_some, k2]
      · rename_i fs hik
        obtain ⟨fl, rfl, rfl⟩ := tk_struct (hik.symm.trans g3)
        simp only [Bool.and_eq_true] at hok
        obtain ⟨htile, hall⟩ := hok
        obtain ⟨xs, n, hn, rfl, hlen, hxl, hf⟩ := DataW.trod_struct g2 h
        cases hn
        rw [← sizeT_eq hE hi, hsz] at hlen
        obtain ⟨s1, s2⟩ := tile_sum htile
        obtain ⟨ls, k1, k2⟩ := parts_lit (n := fuel) (cs := cs) (xs := xs) (by simp [hxl]) hlen s2 s1 (fun i p y hp hy => by
          simp only [List.map_map, List.getElem?_map, Option.map_eq_some_iff] at hp
          obtain ⟨f, hfi, rfl⟩ := hp
          have hokf := List.all_eq_true.1 hall (f.offset, f.type) (List.mem_map.2 ⟨f, List.mem_of_getElem? hfi, rfl⟩)
          have := hf i f (by simpa using hfi)
          rw [hy, ← okA_size hE hokf] at this
          exact ih m _ _ _ hokf this)
        rw [List.drop_zero] at k2
        simp only [litC, k1, Option.map_some, k2]
      · cases hok
end

/-- Values as written out. -/
def litEq : List DV → List Value → Bool
  | [], [] => true
  | .int k n :: l, .int k' m :: r => IntKind.same k k' && decide (n = m) && litEq l r
  | .bool a :: l, .bool b :: r => (a == b) && litEq l r
  | .str a :: l, .string b :: r => decide (b = ⟨a.toArray⟩) && litEq l r
  | _, _ => false
theorem litEq_vld {bad : Nat → Prop} {w : World} : ∀ {ds : List DV} {vs : List Value}, litEq ds vs = true → VLD bad w ds vs
  | [], [], _ => ⟨rfl, fun j x v hx => by simp at hx⟩
  | d :: ds, v :: vs, h => by
    have key : VD bad w d v ∧ litEq ds vs = true := by
      unfold litEq at h
      split at h
      · rename_i e1 e2; cases e1
      · rename_i e1 e2
        cases e1; cases e2
        simp only [Bool.and_eq_true, decide_eq_true_eq] at h
        obtain ⟨⟨h1, rfl⟩, h3⟩ := h
        obtain rfl := same_eq h1
        exact ⟨.int _ _, h3⟩
      · rename_i e1 e2
        cases e1; cases e2
        simp only [Bool.and_eq_true, beq_iff_eq] at h
        obtain ⟨rfl, h3⟩ := h
        exact ⟨.bool _, h3⟩
      · rename_i e1 e2
        cases e1; cases e2
        simp only [Bool.and_eq_true, decide_eq_true_eq] at h
        obtain ⟨rfl, h3⟩ := h
        exact ⟨.str _, h3⟩
      · cases h
    have ih := litEq_vld (bad := bad) (w := w) key.2
    refine ⟨by simp [ih.1], fun j x u hx hu => ?_⟩
    cases j with
    | zero => simp at hx hu; subst hx; subst hu; exact key.1
    | succ j => exact ih.2 j x u (by simpa using hx) (by simpa using hu)
  | [], _ :: _, h => by cases h
  | d :: _, [], h => by cases d <;> cases h

theorem laid_mem {P : Program} {w : World} {name : String} {d : DataW Unit} : ∀ {laid : List (String × DataW Unit)} {ps : List MemPlace}, DataW.LaidVars P w laid ps → (name, d) ∈ laid →
    ∃ g t cs fuel p, P.globalNamed name = some g ∧ (P.globals[g]?).map (·.type) = some t ∧ w.var? P name = some cs ∧ DataW.trod (fun _ => ()) P w 0 (fun _ => true) false fuel t cs.toList = some (d, p)
  | [], _, _, h => by simp at h
  | (n, d') :: r, ps, hv, h => by
    obtain ⟨g, t, cs, fuel, p, q, h1, h2, h3, h4, h5, -⟩ := hv
    rcases List.mem_cons.1 h with h | h
    · cases h; exact ⟨g, t, cs, fuel, p, h1, h2, h3, h4⟩
    · exact laid_mem h5 h

theorem litC_mono {H : Type} : ∀ {n : Nat} {d : DataW H} {cs : List Value}, litC n d = some cs → litC (n + 1) d = some cs := by
  intro n
  induction n with
  | zero => intro d cs h; cases h
  | succ n ih =>
    intro d cs h
    unfold litC at h
    split at h
    · cases h
    · exact h
    · exact h
    · exact h
    · rename_i m ps e
      cases e
      simp only [Option.map_eq_some_iff] at h
      obtain ⟨ls, h1, rfl⟩ := h
      have : ∀ {ps : List (DataW H)} {ls : List (List Value)}, ps.mapM (litC n) = some ls → ps.mapM (litC (n + 1)) = some ls := by
        intro ps
        induction ps with
        | nil => intro ls h; exact h
        | cons p ps ihp =>
          intro ls h
          simp only [List.mapM_cons, Option.bind_eq_bind, Option.bind_eq_some_iff] at h ⊢
          obtain ⟨a, h1, b, h2, h3⟩ := h
          exact ⟨a, ih h1, b, ihp h2, h3⟩
      have e2 := this h1
      show (ps.mapM (litC (n + 1))).map List.flatten = _
      rw [e2]
      rfl
    · cases h
theorem litC_le {H : Type} {n : Nat} {d : DataW H} {cs : List Value} (h : litC n d = some cs) : ∀ k, litC (n + k) d = some cs
  | 0 => h
  | k + 1 => litC_mono (litC_le h k)

/-- A table that is laid holds its numbers. -/
theorem glob_of {E : Env} (hE : E.OK) {W : World} {laid : List (String × DataW Unit)} {name : String} {g t m n : Nat} {d : DataW Unit} {e : DV} {vs : List Value} (hl : laidMet E.P laid W) (hm : (name, d) ∈ laid) (hg : E.P.globalNamed name = some g) (ht : (E.P.globals[g]?).map (·.type) = some t)
    (hok : okA E m t = true) (hv : litC n d = some vs) (he : litEq e.cells vs = true) (hne : e.cells ≠ []) {bar : Nat → Prop} (hbar : ¬ bar g) : VR ⟨fun _ => none, [], bar, W⟩ (.eptr e 0) (.pointer (some ⟨g, 0, none⟩)) := by
  obtain ⟨ps, hlv, -, -⟩ := hl
  obtain ⟨g', t', cs, fuel, p, h1, h2, h3, h4⟩ := laid_mem hlv hm
  rw [hg] at h1; cases h1
  rw [ht] at h2; cases h2
  have h5 := lit_cells hE fuel m t _ _ hok h4
  have h6 : vs = cs.toList := by
    have a := litC_le hv fuel
    have b := litC_le h5 n
    rw [Nat.add_comm] at b
    exact Option.some.inj (a.symm.trans b)
  have hvl := litEq_vld (bad := bar) (w := W) he
  rw [h6] at hvl
  have hcell : ∀ (j : Nat) (v : Value), cs.toList[j]? = some v → W.cell? ⟨g, 0 + j, none⟩ = some v := fun j v hj => by
    rw [Nat.zero_add]
    have := World.var?_cell hg h3 j
    rw [this]
    simpa using hj
  have hget : ∀ (j : Nat) (x : DV), e.cells[j]? = some x → ∃ v, cs.toList[j]? = some v := fun j x hx => by
    have := lt_of_getElem? hx
    rw [hvl.1] at this
    exact ⟨cs.toList[j], by simp [this]⟩
  have := VR.eptr (c := ⟨fun _ => none, [], bar, W⟩) e 0 g 0 (fun j => (cs.toList[j]?).getD undef) (fun hb => hbar (bad_none.1 hb)) hne (fun j x hx => by
      obtain ⟨v, hv⟩ := hget j x hx
      rw [hv]
      exact hcell j v hv) (fun j x hx => by
      obtain ⟨v, hv⟩ := hget j x hx
      rw [hv]
      exact vd_none (hvl.2 j x v hx hv))
  exact this
end Go.Eng
