/- The engine, part 4: loads, stores, variables, parts of structs. No conditions. -/
import Derived.Test.YtklkmdoakhkikaaDoorEng3
namespace Go.Eng
open Go

section
variable {E : Env} {s : List AV} {h : List Box} {c : Cx}

theorem vr_bool {b : Bool} {v : Value} (h : VR c (.d (.bool b)) v) : v = .bool b := by cases h with | d _ _ h => cases h; rfl
theorem vr_int {k : IntKind} {n : Int} {v : Value} (h : VR c (.d (.int k n)) v) : v = .int k n := by cases h with | d _ _ h => cases h; rfl
theorem vr_str {l : List UInt8} {v : Value} (h : VR c (.d (.str l)) v) : v = .string ⟨l.toArray⟩ := by cases h with | d _ _ h => cases h; rfl

/-- A list of values, one by one. -/
def VL (c : Cx) (l : List AV) (vs : List Value) : Prop := l.length = vs.length ∧ ∀ (j : Nat) (x : AV) (v : Value), l[j]? = some x → vs[j]? = some v → VR c x v

theorem VL.nil : VL c [] [] := ⟨rfl, fun j x v h => by simp at h⟩
theorem VL.cons {x : AV} {v : Value} {l : List AV} {vs : List Value} (h : VR c x v) (hl : VL c l vs) : VL c (x :: l) (v :: vs) :=
  ⟨by simp [hl.1], fun j y u hy hu => by
    cases j with
    | zero => simp at hy hu; subst hy; subst hu; exact h
    | succ j => exact hl.2 j y u (by simpa using hy) (by simpa using hu)⟩
theorem VL.head {x : AV} {v : Value} {l : List AV} {vs : List Value} (h : VL c (x :: l) (v :: vs)) : VR c x v ∧ VL c l vs :=
  ⟨h.2 0 x v rfl rfl, by simpa using h.1, fun j y u hy hu => h.2 (j + 1) y u (by simpa using hy) (by simpa using hu)⟩
theorem VL.set {x : AV} {v : Value} {l : List AV} {vs : List Value} (h : VL c l vs) (i : Nat) (hx : VR c x v) : VL c (l.set i x) (vs.set i v) := by
  have := VS.put (t := vs.toArray) (s := l) ⟨by simpa using h.1, fun j y u hy hu => h.2 j y u hy (by simpa using hu)⟩ i hx
  exact ⟨by simpa using h.1, fun j y u hy hu => this.2 j y u hy (by simpa using hu)⟩
theorem VL.spl : ∀ {xs : List AV} {us : List Value} {cs : List AV} {os : List Value} (_ : VL c cs os) (off : Nat) (_ : VL c xs us), VL c (spl cs off xs) (Eng.spl os off us) := by
  intro xs
  induction xs with
  | nil => intro us cs os hc off hx; obtain rfl : us = [] := List.eq_nil_of_length_eq_zero hx.1.symm; exact hc
  | cons x xs ih =>
    intro us cs os hc off hx
    cases us with
    | nil => simp [VL] at hx
    | cons u us => exact ih (hc.set off hx.head.1) (off + 1) hx.head.2
theorem VL.drop {l : List AV} {vs : List Value} (h : VL c l vs) (n : Nat) : VL c (l.drop n) (vs.drop n) :=
  ⟨by simp [h.1], fun j y u hy hu => h.2 (n + j) y u (by simpa using hy) (by simpa using hu)⟩
theorem VL.take {l : List AV} {vs : List Value} (h : VL c l vs) (n : Nat) : VL c (l.take n) (vs.take n) :=
  ⟨by simp [h.1], fun j y u hy hu => by
    rw [List.getElem?_take] at hy hu
    split at hy
    · rename_i hj; rw [if_pos hj] at hu; exact h.2 j y u hy hu
    · cases hy⟩
theorem VL.mapD {l : List DV} {vs : List Value} (hl : l.length = vs.length) (h : ∀ (j : Nat) (x : DV) (v : Value), l[j]? = some x → vs[j]? = some v → VD c.bad c.w x v) : VL c (l.map .d) vs :=
  ⟨by simpa using hl, fun j y u hy hu => by
    rw [List.getElem?_map] at hy
    cases hx : l[j]? with
    | none => rw [hx] at hy; cases hy
    | some x => rw [hx] at hy; cases hy; exact .d _ _ (h j x u hx hu)⟩
theorem VL.ofMapD {l : List DV} {vs : List Value} (h : VL c (l.map .d) vs) : ∀ (j : Nat) (x : DV) (v : Value), l[j]? = some x → vs[j]? = some v → VD c.bad c.w x v := fun j x v hx hv => by
  have := h.2 j (.d x) v (by rw [List.getElem?_map, hx]; rfl) hv
  cases this with | d _ _ h => exact h
theorem Step.vl {c c' : Cx} (h : Step c c') {l : List AV} {vs : List Value} (hv : VL c l vs) : VL c' l vs := ⟨hv.1, fun j x v hx hu => h.vr (hv.2 j x v hx hu)⟩

theorem vr_agg {l : List AV} {vs : List Value} (h : VL c l vs) : VR c (.agg l) (.agg vs.toArray) :=
  .agg l vs.toArray (by simpa using h.1) (fun j x v hx hv => h.2 j x v hx (by simpa using hv))

theorem aggK_sound {l : List AV} {k : AV → Prop} (H : aggK l k) : ∃ v, k v ∧ ∀ (c : Cx) (vs : List Value), VL c l vs → VR c v (.agg vs.toArray) := by
  unfold aggK at H
  rcases allDK_cases l (k (.agg l)) (fun l' => k (.d (.agg l'))) with ⟨l', h1, h2⟩ | h2
  · rw [h2] at H
    refine ⟨_, H, fun c vs hv => .d _ _ (.agg _ _ (by have := hv.1; rw [h1] at this; simpa using this) ?_)⟩
    rw [h1] at hv
    exact fun j x v hx hv' => hv.ofMapD j x v hx (by simpa using hv')
  · rw [h2] at H
    exact ⟨_, H, fun c vs hv => vr_agg hv⟩

theorem mapDK_agg {l : List DV} {v : Value} (h : VR c (.d (.agg l)) v) : ∃ vs : List Value, v = .agg vs.toArray ∧ VL c (l.map .d) vs := by
  cases h with
  | d _ _ h => cases h with
    | agg _ vs hl hv => exact ⟨vs.toList, by simp, .mapD (by simpa using hl) (fun j x v hx hu => hv j x v hx (by simpa using hu))⟩
theorem vr_agg_inv {l : List AV} {v : Value} (h : VR c (.agg l) v) : ∃ vs : List Value, v = .agg vs.toArray ∧ VL c l vs := by
  cases h with
  | agg _ vs hl hv => exact ⟨vs.toList, by simp, by simpa using hl, fun j x v hx hu => hv j x v hx (by simpa using hu)⟩

/-- A value that takes one cell. -/
theorem vd_one {bad : Nat → Prop} {w : World} {x : DV} {v : Value} (h : VD bad w x v) (h1 : x.scal = true) : v.oneCell' = true := by
  cases h <;> first | rfl | cases h1
theorem vr_one {x : AV} {v : Value} (h : VR c x v) (h1 : x.scal = true) : v.oneCell' = true := by
  cases h with
  | d y v hy => exact vd_one hy h1
  | _ => first | rfl | assumption | cases h1

theorem cells_one {v : Value} (h : v.oneCell' = true) : v.cells = #[v] := by
  cases v <;> first | rfl | cases h

/-- What cellsK yields. -/
def CellsOK (x : AV) (l : List AV) : Prop := ∀ (c : Cx) (v : Value), VR c x v → ∃ vs : List Value, v.cells = vs.toArray ∧ VL c l vs

theorem cellsK_sound {x : AV} {stop : Prop} {k : List AV → Prop} (H : cellsK x stop k) : stop ∨ ∃ l, CellsOK x l ∧ k l := by
  unfold cellsK at H
  split at H
  · rename_i l
    exact .inr ⟨l, fun c v hv => (by obtain ⟨vs, rfl, h⟩ := vr_agg_inv hv; exact ⟨vs, rfl, h⟩), H⟩
  · rename_i l
    rw [mapK_eq] at H
    exact .inr ⟨_, fun c v hv => (by obtain ⟨vs, rfl, h⟩ := mapDK_agg hv; exact ⟨vs, rfl, h⟩), H⟩
  · split at H
    · rename_i hs
      exact .inr ⟨[x], fun c v hv => ⟨[v], cells_one (vr_one hv hs), .cons hv .nil⟩, H⟩
    · exact .inl H

/-- What the table says of a type. -/
theorem tinfo_inv {P : Program} {t : Nat} {i : TInfo} (h : tinfo P t = some i) : ∃ ti d, P.info? t = some ti ∧ P.underlying t = some d ∧ i.k = tk d ∧ i.size = ti.size ∧ i.bytes = ti.bytes ∧ i.zero = zeroD ti.zero := by
  unfold tinfo at h
  split at h
  · rename_i ti d h1 h2
    cases h
    exact ⟨ti, d, h1, h2, rfl, rfl, rfl, rfl⟩
  · cases h

theorem run_isAgg {P : Program} {t : Nat} {i : TInfo} (h : tinfo P t = some i) (w : World) : (isAgg t).run P w = .ok i.k.agg w := by
  obtain ⟨ti, d, h1, h2, h3, -⟩ := tinfo_inv h
  rw [h3]
  simp only [isAgg, underlying, bind, Sem.bind, program, h2, pure, Sem.run]
  cases d <;> rfl
theorem run_sizeOf {P : Program} {t : Nat} {i : TInfo} (h : tinfo P t = some i) (w : World) : (Go.sizeOf t).run P w = .ok i.size w := by
  obtain ⟨ti, d, h1, h2, h3, h4, -⟩ := tinfo_inv h
  simp only [Go.sizeOf, typeInfo, bind, Sem.bind, program, h1, pure, Sem.run, h4]

/-- Cells in a row, from a place on. -/
def RowAt (w : World) (b o : Nat) (vs : List Value) : Prop := ∀ j v, vs[j]? = some v → w.cell? ⟨b, o + j, none⟩ = some v

theorem add_at (b o j : Nat) : (⟨b, o, none⟩ : Addr).add j = ⟨b, o + j, none⟩ := by unfold Addr.add; split <;> simp_all

theorem run_loadAt {P : Program} {t : Nat} {i : TInfo} (h : tinfo P t = some i) {w : World} {b o : Nat} {vs : List Value} (hr : RowAt w b o vs) (hs : vs.length = i.size) (hagg : i.k.agg = true) :
    (Instr.loadAt t (.pointer (some ⟨b, o, none⟩))).run P w = .ok (.agg vs.toArray) w := by
  have h1 := run_loadCells_list (P := P) w ⟨b, o, none⟩ vs (fun j v hv => by rw [add_at]; exact hr j v hv)
  rw [hs] at h1
  simp only [Instr.loadAt, Instr.sureAddr, loadVar, Sem.run_bind, Sem.run_pure, Result.andThen_ok, run_isAgg h, hagg, run_sizeOf h, h1, if_true]
theorem run_loadAt1 {P : Program} {t : Nat} {i : TInfo} (h : tinfo P t = some i) {w : World} {a : Addr} {v : Value} (hr : w.cell? a = some v) (hagg : i.k.agg = false) :
    (Instr.loadAt t (.pointer (some a))).run P w = .ok v w := by
  simp only [Instr.loadAt, Instr.sureAddr, loadVar, Sem.run_bind, Sem.run_pure, Result.andThen_ok, run_isAgg h, hagg, Bool.false_eq_true, if_false, load, Sem.run, hr]

/-- A part of cells. -/
theorem partK_sound {i : TInfo} {l : List AV} {off : Nat} {stop : Prop} {k : AV → Prop} (H : partK i l off stop k) : stop ∨ ∃ x, k x ∧ ∀ (P : Program) (t : Nat) (c : Cx) (b o : Nat) (vs : List Value), tinfo P t = some i → VL c l vs → RowAt c.w b o vs →
    ∃ v, (Instr.loadAt t (.pointer (some ⟨b, o + off, none⟩))).run P c.w = .ok v c.w ∧ VR c x v := by
  unfold partK at H
  split at H
  · rename_i hagg
    rw [dropK_eq, takeK_eq] at H
    split at H
    · rename_i hl
      obtain ⟨x, hx, h⟩ := aggK_sound H
      refine .inr ⟨x, hx, fun P t c b o vs ht hv hr => ⟨_, run_loadAt ht (b := b) (o := o + off) (vs := (vs.drop off).take i.size) (fun j v hj => ?_) ?_ hagg, h c _ ((hv.drop off).take _)⟩⟩
      · rw [List.getElem?_take] at hj
        split at hj
        · have := hr (off + j) v (by simpa using hj); rwa [← Nat.add_assoc] at this
        · cases hj
      · have := Nat.eq_of_beq_eq_true hl
        simp only [List.length_take, List.length_drop] at this ⊢
        rw [← hv.1]; exact this
    · exact .inl H
  · rename_i hagg
    rcases getK_or H with h | ⟨x, hx, h⟩
    · exact .inl h
    refine .inr ⟨x, h, fun P t c b o vs ht hv hr => ?_⟩
    have hlt : off < vs.length := by
      rw [← hv.1]
      rcases Nat.lt_or_ge off l.length with h | h
      · exact h
      · rw [List.getElem?_eq_none h] at hx; cases hx
    exact ⟨vs[off], run_loadAt1 ht (hr off _ (by simp [hlt])) hagg, hv.2 off x _ hx (by simp [hlt])⟩

end
end Go.Eng
