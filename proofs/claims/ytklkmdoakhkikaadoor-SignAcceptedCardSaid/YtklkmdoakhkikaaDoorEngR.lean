/- The engine, part R: what an argument reads as is a pure value of its type. No conditions. -/
import Derived.Test.YtklkmdoakhkikaaDoorEngE
import Derived.ChangeArms
import Derived.ProofKit
namespace Go.Eng
open Go Go.RowKit

def sizeT (E : Env) (t : Nat) : Nat := match at? E.T t with
  | some i => i.size
  | none => 0
def kindT (E : Env) (t : Nat) : TK := match at? E.T t with
  | some i => i.k
  | none => .other
/-- The element of a slice is one value: a struct's cells together, or one cell. -/
def ElemT (k : TK) (x : DV) : Prop := match k with
  | .struct _ => ∃ cs, x = .agg cs
  | _ => x.cells = [x]
/-- These cells are a value of the type. -/
def HasT (E : Env) : Nat → Nat → List DV → Prop
  | 0, _, _ => False
  | n + 1, t, ds => match kindT E t with
    | .bool => ∃ b, ds = [.bool b]
    | .int k => ∃ m, ds = [.int k m] ∧ (Lit.int k m).wf = true
    | .string => ∃ l : List UInt8, ds = [.str l] ∧ l.length ≤ maxLen
    | .slice e => ∃ l : List DV, ds = [.sl l] ∧ l.length ≤ maxLen ∧ ∀ x ∈ l, HasT E n e x.cells ∧ ElemT (kindT E e) x
    | .struct fs => ds.length = sizeT E t ∧ ∀ p ∈ fs, HasT E n p.2 ((ds.drop p.1).take (sizeT E p.2))
    | _ => False

/-- Fields one behind the other. -/
def tileB (E : Env) : Nat → List (Nat × Nat) → Nat → Bool
  | o, [], n => Nat.beq o n
  | o, p :: l, n => Nat.beq p.1 o && tileB E (o + sizeT E p.2) l n
/-- A type of numbers, bools, texts, slices and structs. -/
def okT (E : Env) : Nat → Nat → Bool
  | 0, _ => false
  | m + 1, t => match at? E.T t with
    | none => false
    | some i => match i.k with
      | .bool => Nat.beq i.size 1
      | .int _ => Nat.beq i.size 1
      | .string => Nat.beq i.size 1
      | .slice e => Nat.beq i.size 1 && Nat.blt 0 (sizeT E e) && okT E m e
      | .struct fs => tileB E 0 fs i.size && fs.all fun p => okT E m p.2
      | _ => false

theorem sizeT_eq {E : Env} (hE : E.OK) {t : Nat} {i : TInfo} (hi : E.T[t]? = some i) : sizeT E t = E.P.cellsOf t := by
  obtain ⟨ti, d, g1, g2, g3, g4, -⟩ := tinfo_inv (hE.types t i hi)
  simp [sizeT, at?_eq, hi, Program.cellsOf, g1, g4]
theorem okT_some {E : Env} {m t : Nat} (h : okT E m t = true) : ∃ i, E.T[t]? = some i := by
  cases m with
  | zero => cases h
  | succ m =>
    unfold okT at h
    split at h
    · cases h
    · rename_i i hi; rw [at?_eq] at hi; exact ⟨i, hi⟩
theorem okT_size {E : Env} (hE : E.OK) {m t : Nat} (h : okT E m t = true) : sizeT E t = E.P.cellsOf t := by
  obtain ⟨i, hi⟩ := okT_some h
  exact sizeT_eq hE hi

theorem VLD.append' {bad : Nat → Prop} {w : World} {a b : List DV} {u v : List Value} (h1 : VLD bad w a u) (h2 : VLD bad w b v) : VLD bad w (a ++ b) (u ++ v) := by
  refine ⟨by simp [h1.1, h2.1], fun j x y hx hy => ?_⟩
  rcases Nat.lt_or_ge j a.length with hj | hj
  · rw [List.getElem?_append_left hj] at hx
    rw [List.getElem?_append_left (by rw [← h1.1]; exact hj)] at hy
    exact h1.2 j x y hx hy
  · rw [List.getElem?_append_right hj] at hx
    rw [List.getElem?_append_right (by rw [← h1.1]; exact hj), ← h1.1] at hy
    exact h2.2 _ x y hx hy

section
variable {E : Env} {H : Type} {enc : TypeId × Value → H} {w : World} {held : Bool}

/-- A struct's fields, put together. -/
theorem fields_has {n : Nat} {cs : List Value} : ∀ {fs : List (Nat × Nat)} {o tot : Nat}, tileB E o fs tot = true → cs.length = tot → o ≤ tot →
    (∀ p ∈ fs, ∃ ds, HasT E n p.2 ds ∧ VLD (fun _ => False) w ds ((cs.drop p.1).take (sizeT E p.2)) ∧ ∀ v ∈ (cs.drop p.1).take (sizeT E p.2), v.oneCell' = true) →
    (∀ p ∈ fs, p.1 + sizeT E p.2 ≤ tot) →
    ∃ ds, ds.length = tot - o ∧ VLD (fun _ => False) w ds (cs.drop o) ∧ (∀ v ∈ cs.drop o, v.oneCell' = true) ∧ ∀ p ∈ fs, o ≤ p.1 ∧ HasT E n p.2 ((ds.drop (p.1 - o)).take (sizeT E p.2))
  | [], o, tot, h, hl, ho, _, _ => by
    obtain rfl : o = tot := Nat.eq_of_beq_eq_true h
    rw [List.drop_of_length_le (by omega)]
    exact ⟨[], by simp, ⟨rfl, fun j x v hx => by simp at hx⟩, fun v hv => by simp at hv, fun p hp => by simp at hp⟩
  | p :: fs, o, tot, h, hl, ho, hf, hb => by
    simp only [tileB, Bool.and_eq_true] at h
    obtain ⟨h1, h2⟩ := h
    have h1 := Nat.eq_of_beq_eq_true h1
    have hle := hb p (List.mem_cons_self ..)
    rw [h1] at hle
    obtain ⟨d1, k1, k2, k3⟩ := hf p (List.mem_cons_self ..)
    rw [h1] at k2 k3
    obtain ⟨d2, q1, q2, q3, q4⟩ := fields_has h2 hl hle (fun p hp => hf p (List.mem_cons_of_mem _ hp)) (fun p hp => hb p (List.mem_cons_of_mem _ hp))
    have hd1 : d1.length = sizeT E p.2 := by rw [k2.1]; simp; omega
    have hsplit : cs.drop o = (cs.drop o).take (sizeT E p.2) ++ cs.drop (o + sizeT E p.2) := by
      rw [← List.drop_drop, List.take_append_drop]
    refine ⟨d1 ++ d2, by simp [hd1, q1]; omega, by rw [hsplit]; exact k2.append' q2, fun v hv => ?_, fun p' hp => ?_⟩
    · rw [hsplit] at hv
      rcases List.mem_append.1 hv with hv | hv
      · exact k3 v hv
      · exact q3 v hv
    · rcases List.mem_cons.1 hp with rfl | hp
      · refine ⟨by omega, ?_⟩
        rw [h1, Nat.sub_self, List.drop_zero, List.take_append_of_le_length (by omega), List.take_of_length_le (by omega)]
        exact k1
      · obtain ⟨r1, r2⟩ := q4 p' hp
        refine ⟨by omega, ?_⟩
        rw [List.drop_append, List.drop_of_length_le (by omega), List.nil_append, show p'.1 - o - d1.length = p'.1 - (o + sizeT E p.2) by omega]
        exact r2

theorem tile_le : ∀ {fs : List (Nat × Nat)} {o tot : Nat}, tileB E o fs tot = true → o ≤ tot ∧ ∀ p ∈ fs, p.1 + sizeT E p.2 ≤ tot
  | [], o, tot, h => ⟨Nat.le_of_eq (Nat.eq_of_beq_eq_true h), fun p hp => by simp at hp⟩
  | p :: fs, o, tot, h => by
    simp only [tileB, Bool.and_eq_true] at h
    obtain ⟨h1, h2⟩ := h
    have h1 := Nat.eq_of_beq_eq_true h1
    obtain ⟨k1, k2⟩ := tile_le h2
    refine ⟨by omega, fun p' hp => ?_⟩
    rcases List.mem_cons.1 hp with rfl | hp
    · omega
    · exact k2 p' hp

theorem trod_has (hE : E.OK) : ∀ (fuel m t : Nat) (cs : List Value) (x : DataW H × List MemPlace), okT E m t = true → DataW.trod enc E.P w 0 (fun _ => true) held fuel t cs = some x →
    ∃ ds, HasT E fuel t ds ∧ VLD (fun _ => False) w ds cs ∧ ∀ v ∈ cs, v.oneCell' = true := by
  intro fuel
  induction fuel with
  | zero => intro m t cs x _ h; simp [DataW.trod] at h
  | succ fuel ih =>
    intro m t cs x hok h
    cases m with
    | zero => cases hok
    | succ m =>
      unfold okT at hok
      split at hok
      · cases hok
      rename_i i hi
      have hk : kindT E t = i.k := by simp [kindT, hi]
      have hsz : sizeT E t = i.size := by simp [sizeT, hi]
      rw [at?_eq] at hi
      obtain ⟨ti, d, g1, g2, g3, g4, -⟩ := tinfo_inv (hE.types t i hi)
      have one : ∀ {y : DV} {v : Value}, VD (fun _ => False) w y v → v.oneCell' = true → cs = [v] → VLD (fun _ => False) w [y] cs ∧ ∀ v ∈ cs, v.oneCell' = true := fun {y v} h1 h2 h3 => by
        subst h3
        refine ⟨⟨rfl, fun j x u hx hu => ?_⟩, fun u hu => by simp at hu; subst hu; exact h2⟩
        cases j with
        | zero => simp at hx hu; subst hx; subst hu; exact h1
        | succ j => simp at hx
      split at hok
      · rename_i hik
        have hd : d = .bool := by rw [hik] at g3; cases d <;> first | rfl | cases g3
        subst hd
        obtain ⟨b, rfl, -⟩ := DataW.trod_bool g2 h
        exact ⟨[.bool b], by unfold HasT; rw [hk, hik]; exact ⟨b, rfl⟩, one (.bool b) rfl rfl⟩
      · rename_i k hik
        obtain rfl := tk_int (hik.symm.trans g3)
        obtain ⟨n, rfl, -, hw⟩ := DataW.trod_int g2 h
        exact ⟨[.int k n], by unfold HasT; rw [hk, hik]; exact ⟨n, rfl, hw⟩, one (.int k n) rfl rfl⟩
      · rename_i hik
        obtain rfl := tk_string (hik.symm.trans g3)
        obtain ⟨s, rfl, -, hl⟩ := DataW.trod_string g2 h
        refine ⟨[.str s.data.toList], ?_, one (v := .string s) ?_ rfl rfl⟩
        · unfold HasT; rw [hk, hik]; exact ⟨_, rfl, by rw [Array.length_toList]; exact hl⟩
        · have := VD.str (bad := fun _ => False) (w := w) s.data.toList
          simpa using this
      · rename_i e hik
        obtain rfl := tk_slice (hik.symm.trans g3)
        simp only [Bool.and_eq_true] at hok
        obtain ⟨⟨-, hpos⟩, hoke⟩ := hok
        have hpos := blt_lt hpos
        have hse := okT_size hE hoke
        rcases DataW.trod_slice g2 h with ⟨rfl, -⟩ | ⟨a, len, cap, elems, rest, n, hn, rfl, -, -, hlc, hcm, hel, helem, hsp, -⟩
        · exact ⟨[.sl []], by unfold HasT; rw [hk, hik]; exact ⟨[], rfl, Nat.zero_le _, fun x hx => by simp at hx⟩, one .slnil rfl rfl⟩
        cases hn
        obtain ⟨hrl, hrest⟩ := hsp rfl
        rw [← hse] at helem hrest
        have spot : 0 < cap → a.spot = none := fun hc => by
          have hcell : ∀ {q : Option (DataW H × List MemPlace)}, (w.cells? 0 (a.add 0) (sizeT E e)).bind (DataW.trod enc E.P w 0 (fun _ => true) held fuel e) = q → q.isSome → a.spot = none := fun {q} h1 h2 => by
            cases hcs : w.cells? 0 (a.add 0) (sizeT E e) with
            | none => rw [hcs] at h1; subst h1; cases h2
            | some l =>
              obtain ⟨-, hl, hcell⟩ := World.cells?_some hcs
              have := hcell 0 hpos
              rw [List.getElem?_eq_getElem (by omega)] at this
              cases hs : a.spot with
              | none => rfl
              | some k =>
                have hns : ((a.add 0).add 0).spot.isSome = true := by simp [Addr.add, hs]
                simp only [World.cell?, hns, if_true] at this
                split at this <;> cases this
          by_cases h0 : 0 < len
          · have := helem 0 h0
            rw [Nat.zero_mul] at this
            exact hcell this (by simp [hel, h0])
          · obtain rfl : len = 0 := by omega
            have := hrest 0 (by omega)
            rw [Nat.zero_add, Nat.zero_mul] at this
            exact hcell this (by simp [hrl]; omega)
        by_cases hc0 : cap = 0
        · subst hc0
          obtain rfl : len = 0 := by omega
          exact ⟨[.sl []], by unfold HasT; rw [hk, hik]; exact ⟨[], rfl, Nat.zero_le _, fun x hx => by simp at hx⟩, one (.slz a) rfl rfl⟩
        have hspot := spot (by omega)
        obtain ⟨blk, off, sp⟩ := a
        cases hspot
        have key : ∀ i, ∃ x : DV, i < len → HasT E fuel e x.cells ∧ ElemT (kindT E e) x ∧ x.cells.length = sizeT E e ∧ ∀ (j : Nat) (y : DV), x.cells[j]? = some y → ∃ v, w.cell? ⟨blk, off + (i * sizeT E e + j), none⟩ = some v ∧ v.oneCell' = true ∧ VD (fun _ => False) w y v := fun i => by
          by_cases hi : i < len
          case neg => exact ⟨.undef, fun h => absurd h hi⟩
          have he := helem i hi
          cases hcs : w.cells? 0 ((⟨blk, off, none⟩ : Addr).add (i * sizeT E e)) (sizeT E e) with
          | none => rw [hcs] at he; simp [hel, hi] at he
          | some l =>
            rw [hcs] at he
            obtain ⟨-, hl, hcell⟩ := World.cells?_some hcs
            have he' : DataW.trod enc E.P w 0 (fun _ => true) held fuel e l = some (elems[i]'(by omega)) := by
              rw [← List.getElem?_eq_getElem (by omega)]; exact he
            obtain ⟨ds, k1, k2, k3⟩ := ih m e l _ hoke he'
            have hdl : ds.length = sizeT E e := by rw [k2.1, hl]
            have cellsAt : ∀ (j : Nat) (y : DV), ds[j]? = some y → ∃ v, w.cell? ⟨blk, off + (i * sizeT E e + j), none⟩ = some v ∧ v.oneCell' = true ∧ VD (fun _ => False) w y v := fun j y hy => by
              have hj := lt_of_getElem? hy
              have hjl : j < l.length := by rw [← k2.1]; exact hj
              have := hcell j (by omega)
              rw [List.getElem?_eq_getElem hjl] at this
              refine ⟨l[j], ?_, k3 _ (List.getElem_mem hjl), k2.2 j y _ hy (by simp [hjl])⟩
              rw [add_at, add_at, Nat.add_assoc] at this
              exact this
            by_cases hstr : ∃ fs, kindT E e = .struct fs
            · obtain ⟨fs, hfs⟩ := hstr
              exact ⟨.agg ds, fun _ => ⟨k1, by rw [hfs]; exact ⟨ds, rfl⟩, hdl, cellsAt⟩⟩
            · obtain ⟨y, hy, hyc⟩ : ∃ y, ds = [y] ∧ y.cells = [y] := by
                unfold HasT at k1
                cases fuel with
                | zero => exact k1.elim
                | succ fuel =>
                  simp only at k1
                  split at k1
                  · obtain ⟨b, rfl⟩ := k1; exact ⟨_, rfl, rfl⟩
                  · obtain ⟨b, rfl, -⟩ := k1; exact ⟨_, rfl, rfl⟩
                  · obtain ⟨b, rfl, -⟩ := k1; exact ⟨_, rfl, rfl⟩
                  · obtain ⟨b, rfl, -⟩ := k1; exact ⟨_, rfl, rfl⟩
                  · rename_i fs hfs; exact absurd ⟨fs, hfs⟩ hstr
                  · exact k1.elim
              subst hy
              refine ⟨y, fun _ => ⟨by rw [hyc]; exact k1, ?_, by rw [hyc]; exact hdl, by rw [hyc]; exact cellsAt⟩⟩
              unfold ElemT
              split
              · rename_i fs hfs; exact absurd ⟨fs, hfs⟩ hstr
              · exact hyc
        let g : Nat → DV := fun i => Classical.choose (key i)
        have hg : ∀ i, i < len → HasT E fuel e (g i).cells ∧ ElemT (kindT E e) (g i) ∧ (g i).cells.length = sizeT E e ∧ ∀ (j : Nat) (y : DV), (g i).cells[j]? = some y → ∃ v, w.cell? ⟨blk, off + (i * sizeT E e + j), none⟩ = some v ∧ v.oneCell' = true ∧ VD (fun _ => False) w y v := fun i => Classical.choose_spec (key i)
        have hget : ∀ (i : Nat) (y : DV), ((List.range len).map g)[i]? = some y → i < len ∧ y = g i := fun i y hy => by
          have hi : i < len := by have := lt_of_getElem? hy; simpa using this
          simp [hi] at hy
          exact ⟨hi, hy.symm⟩
        refine ⟨[.sl ((List.range len).map g)], ?_, one (v := .slice (some ⟨blk, off, none⟩) len cap) ?_ rfl rfl⟩
        · unfold HasT
          rw [hk, hik]
          refine ⟨_, rfl, by simp; omega, fun x hx => ?_⟩
          obtain ⟨i, hi⟩ := List.getElem?_of_mem hx
          obtain ⟨h1, rfl⟩ := hget i x hi
          exact ⟨(hg i h1).1, (hg i h1).2.1⟩
        · have := VD.sl (bad := fun _ => False) (w := w) ((List.range len).map g) blk off cap (sizeT E e) (fun i j => (w.cell? ⟨blk, off + (i * sizeT E e + j), none⟩).getD undef) (fun _ h => h) hpos (by simpa using hlc)
            (fun i y hy => by obtain ⟨h1, rfl⟩ := hget i y hy; exact (hg i h1).2.2.1)
            (fun i j y z hy hz => by obtain ⟨h1, rfl⟩ := hget i y hy; obtain ⟨v, q1, q2, q3⟩ := (hg i h1).2.2.2 j z hz; rw [q1]; rfl)
            (fun i j y z hy hz => by obtain ⟨h1, rfl⟩ := hget i y hy; obtain ⟨v, q1, q2, q3⟩ := (hg i h1).2.2.2 j z hz; rw [q1]; exact q3)
            (fun i j y z hy hz => by obtain ⟨h1, rfl⟩ := hget i y hy; obtain ⟨v, q1, q2, q3⟩ := (hg i h1).2.2.2 j z hz; rw [q1]; exact q2)
          simpa using this
      · rename_i fs hik
        obtain ⟨fl, rfl, rfl⟩ := tk_struct (hik.symm.trans g3)
        simp only [Bool.and_eq_true] at hok
        obtain ⟨htile, hall⟩ := hok
        obtain ⟨xs, n, hn, -, hlen, hxl, hf⟩ := DataW.trod_struct g2 h
        cases hn
        rw [← sizeT_eq hE hi, hsz] at hlen
        obtain ⟨-, hle⟩ := tile_le htile
        obtain ⟨ds, r1, r2, r3, r4⟩ := fields_has (n := fuel) (w := w) (cs := cs) htile hlen (Nat.zero_le _) (fun p hp => by
          obtain ⟨f, hfm, rfl⟩ := List.mem_map.1 hp
          have hokf := List.all_eq_true.1 hall _ hp
          obtain ⟨i', hi'⟩ := List.getElem?_of_mem hfm
          have hi'' : fl.toList.toArray[i']? = some f := by simpa using hi'
          have := hf i' f (by simpa using hi')
          have hlt : i' < xs.length := by rw [hxl]; have := lt_of_getElem? hi'; simpa using this
          rw [List.getElem?_eq_getElem hlt] at this
          obtain ⟨ds, k1, k2, k3⟩ := ih m f.type _ _ hokf this
          rw [← okT_size hE hokf] at k2 k3
          exact ⟨ds, k1, k2, k3⟩) hle
        rw [List.drop_zero] at r2 r3
        refine ⟨ds, ?_, r2, r3⟩
        unfold HasT
        rw [hk, hik]
        exact ⟨by rw [r1, hsz]; rfl, fun p hp => (r4 p hp).2⟩
      · cases hok
end
end Go.Eng
