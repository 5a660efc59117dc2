/- The engine, part T: an own array copied into. No conditions. -/
import Derived.Test.YtebielkakdhelaaGreatDoorZEngU
import Derived.Laws.CopyRow
set_option linter.unusedVariables false
set_option linter.unusedSimpArgs false
namespace Go.Eng
open Go Go.RowKit

section
variable {G : List (Nat × DV)} {c : Cx}
/-- An own array's elements are written anew, in place. -/
theorem HOk.rewrite (ho : HOk G c) {b g blk cap : Nat} {ts : Nat × Nat} {l l' : List DV} {vs vs' : Array Value} {w' : World} (hb : c.heap[b]? = some (.arr g ts l)) (hown : c.own b = some (blk, cap)) (hblk : c.w.heap[blk]? = some (.cells vs ts.1 (0, 0)))
    (hl : l'.length = l.length) (hel : ∀ (i : Nat) (e : DV), l'[i]? = some e → e.cells.length = ts.2) (hsz : vs'.size = vs.size) (hos : w'.os = c.w.os) (ht : w'.tape = c.w.tape) (hou : w'.output = c.w.output) (hs : w'.heap.size = c.w.heap.size)
    (hoth : ∀ x, x ≠ blk → w'.heap[x]? = c.w.heap[x]?) (hnew : w'.heap[blk]? = some (.cells vs' ts.1 (0, 0)))
    (hv : ∀ (i j : Nat) (e x : DV), l'[i]? = some e → e.cells[j]? = some x → ∃ v, vs'[i * ts.2 + j]? = some v ∧ v.oneCell' = true ∧ VD c.bad c.w x v) :
    HOk G { c with heap := c.heap.set b (.arr g ts l'), w := w' } ∧ Step c { c with heap := c.heap.set b (.arr g ts l'), w := w' } := by
  have hbl := lt_of_getElem? hb
  have hst : Step c { c with heap := c.heap.set b (.arr g ts l'), w := w' } := ⟨rfl, ho.barlt, hos, ht, hou, by show _ ≤ w'.heap.size; rw [hs]; exact Nat.le_refl _, fun x _ hn => hoth x (fun e => by subst e; exact hn b cap hown), fun i x n hi _ => ⟨n, hi⟩, fun i bx hi => by
    by_cases hib : i = b
    · subst hib
      rw [hb] at hi
      cases hi
      exact .inl ⟨g, l', List.getElem?_set_self hbl, .inr ⟨rfl, hl, rfl⟩⟩
    · exact boxStep_same hi (List.getElem?_set_ne (Ne.symm hib)) rfl⟩
  refine ⟨ho.next hst (fun i x n hi => ?_) ho.inj (fun i bx hi => ?_), hst⟩
  · have := ho.ownlt i x n hi
    refine ⟨by show x < w'.heap.size; rw [hs]; exact this.1, ?_⟩
    show i < (c.heap.set b _).length
    rw [List.length_set]; exact this.2
  · by_cases hib : i = b
    · subst hib
      have hi' : (c.heap.set i (.arr g ts l'))[i]? = some bx := hi
      rw [List.getElem?_set_self hbl] at hi'
      cases hi'
      right
      obtain ⟨q0, q1, q2⟩ := ho.box i _ hb
      rcases q2 with ⟨q2, -⟩ | ⟨blk', cap', vs0, q2, q3, q4, q5, q6, q7⟩
      · rw [hown] at q2; cases q2
      rw [hown] at q2
      cases q2
      rw [hblk] at q3
      cases q3
      refine ⟨q0, hel, .inr ⟨blk, cap, vs', hown, hnew, by rw [hsz]; exact q4, by rw [hl]; exact q5, q6, fun i j e x he hx => ?_⟩⟩
      obtain ⟨v, k1, k2, k3⟩ := hv i j e x he hx
      exact ⟨v, k1, k2, hst.vd k3⟩
    · have hi' : (c.heap.set b (.arr g ts l'))[i]? = some bx := hi
      rw [List.getElem?_set_ne (Ne.symm hib)] at hi'
      exact .inl ⟨hi', rfl, fun x n hn => hoth x (fun e => by subst e; exact hib (ho.inj i b _ n cap hn hown))⟩

theorem run_copy_rowK {P : Program} (w : World) (dT sT ty elem : TypeId) (g dLen dCap : Nat) (a : Addr) (sLen sCap sz : Nat) (cur : Array Value) (t : TypeId) (cs : List Value)
    (hu : P.underlying dT = some (.slice elem)) (hs : (P.info? elem).map (·.size) = some sz)
    (hg : w.heap[g]? = some (.cells cur t (0, 0))) (hn : cs.length = Nat.min sLen dLen * sz)
    (hsrc : ∀ j v, cs[j]? = some v → w.cell? (a.add j) = some v) (hfit : cs.length ≤ cur.size) (h1 : ∀ v ∈ cs, v.oneCell' = true) :
    (Builtin.copy_ #[dT, sT] ty #[.slice (some ⟨g, 0, none⟩) dLen dCap, .slice (some a) sLen sCap]).run P w =
      .ok (goInt (Nat.min sLen dLen)) (w.setRow g (cs ++ cur.toList.drop cs.length).toArray) := by
  have hl := run_loadCells_list (P := P) w a cs hsrc
  have hst := run_storeCells_at P g 0 t cs 0 cur w hg (by simpa using hfit) h1
  simp only [Nat.add_zero, List.take_zero, List.nil_append, Nat.zero_add] at hst
  cases hq : P.info? elem with
  | none => simp [hq] at hs
  | some i =>
    have hi : i.size = sz := by simpa [hq] using hs
    simp [Builtin.copy_, run_underlying hu, Builtin.lenOf, Builtin.firstCells, sizeOf, typeInfo, hq, hi, ← hn, hl, hst]
end

section
variable {E : Env} {fid : FuncId} {R : Post} {s : List AV} {h : List Box} {lits : List Nat} {ops : Array Oper} {o : Oper} {l : List Oper} {k : List AItem}
theorem ok_copyOwn (hE : E.OK) {dT sT e b g : Nat} {x y : Operand} {i ei : TInfo} {ts : Nat × Nat} {l m : List DV} (hi : E.T[dT]? = some i) (hk : i.k = .slice e) (hei : E.T[e]? = some ei) (hts : ts.2 = ei.size) (hb : h[b]? = some (.arr g ts l)) (hne : l ≠ [])
    (hx : EvOK E.G s x (.own b g)) (hy : EvOK E.G s y (.d (.sl m))) (hm : ∀ z ∈ m, z.cells.length = ts.2) :
    OpOK E (.call { callee := .builtin .copy, args := #[x, y], argTypes := #[dT, sT] }) s h (.d (.int .i64 (min m.length l.length : Nat))) (h.set b (.arr g ts (m.take l.length ++ l.drop m.length))) := by
  intro o c a e1 e2 e3 e4
  subst e2
  obtain ⟨ti', d, q1, q2, q3, -⟩ := tinfo_inv (hE.types dT i hi)
  obtain rfl := tk_slice (hk.symm.trans q3)
  obtain ⟨tie, de, p1, p2, p3, p4, -⟩ := tinfo_inv (hE.types e ei hei)
  obtain ⟨b0, b1, b2⟩ := e3.box b _ hb
  rcases vr_own hb (hx c a e3 e4) with ⟨blk, cap, r1, r2⟩ | ⟨r, -, -⟩
  case inr => exact absurd r hne
  rcases b2 with ⟨b2, -⟩ | ⟨blk', cap', vs, b2, b3, b4, b5, b6, b7⟩
  · rw [r1] at b2; cases b2
  rw [r1] at b2
  cases b2
  have hy' := hy c a e3 e4
  -- the cells that come
  have key : ∃ (cs : List Value) (sv : Value), a.eval y = sv ∧ cs.length = min m.length l.length * ts.2 ∧ (∀ v ∈ cs, v.oneCell' = true) ∧
      (∀ (i j : Nat) (e z : DV), i < l.length → m[i]? = some e → e.cells[j]? = some z → ∃ v, cs[i * ts.2 + j]? = some v ∧ v.oneCell' = true ∧ VD c.bad c.w z v) ∧
      (Builtin.copy_ #[dT, sT] o.type #[.slice (some ⟨blk, 0, none⟩) l.length cap, sv]).run E.P c.w = .ok (goInt ((min m.length l.length : Nat) : Int)) (c.w.setRow blk (cs ++ vs.toList.drop cs.length).toArray) := by
    have hself : c.w.setRow blk (([] : List Value) ++ vs.toList.drop ([] : List Value).length).toArray = c.w := by
      simp only [List.nil_append, List.length_nil, List.drop_zero, Array.toArray_toList]
      exact setRow_self c.w blk vs ts.1 (0, 0) b3
    have hsz : (E.P.info? e).map (·.size) = some ts.2 := by rw [p1, Option.map_some, hts, ← p4]
    generalize hu : a.eval y = u at hy'
    cases hy' with
    | d _ _ hv => cases hv with
      | slnil =>
        refine ⟨[], _, rfl, by simp, fun v hv => by simp at hv, fun i j e z _ he => by simp at he, ?_⟩
        rw [hself]
        have hz0 : min ([] : List DV).length l.length = 0 := by simp
        rw [hz0]
        have := run_copy_nil (P := E.P) c.w dT sT o.type e ⟨blk, 0, none⟩ l.length cap q2 (by rw [p1]; rfl)
        simpa using this
      | slz a' =>
        refine ⟨[], _, rfl, by simp, fun v hv => by simp at hv, fun i j e z _ he => by simp at he, ?_⟩
        have hz0 : min ([] : List DV).length l.length = 0 := by simp
        rw [hz0]
        have := run_copy_rowK (P := E.P) c.w dT sT o.type e blk l.length cap a' 0 0 ts.2 vs ts.1 [] q2 hsz b3 (by simp) (fun j v hj => by simp at hj) (by simp) (fun v hv => by simp at hv)
        simpa using this
      | sl _ blk2 off cap2 sz f h1 h2 h3 h4 h5 h6 h7 =>
        have facts : ∀ q, q < min m.length l.length * ts.2 → ∃ e z, m[q / ts.2]? = some e ∧ e.cells[q % ts.2]? = some z ∧ sz = ts.2 := fun q hq => by
          have hi : q / ts.2 < min m.length l.length := Nat.div_lt_of_lt_mul (by rw [Nat.mul_comm]; exact hq)
          have hj : q % ts.2 < ts.2 := Nat.mod_lt _ b0
          obtain ⟨z, hz⟩ : ∃ z, m[q / ts.2]? = some z := ⟨m[q / ts.2]'(by omega), by rw [List.getElem?_eq_getElem]⟩
          have hl1 := hm z (List.mem_of_getElem? hz)
          have hl2 := h4 _ z hz
          exact ⟨z, z.cells[q % ts.2]'(by omega), hz, by rw [List.getElem?_eq_getElem], by omega⟩
        have hlen : ((List.range (min m.length l.length * ts.2)).map fun q => f (q / ts.2) (q % ts.2)).length = min m.length l.length * ts.2 := by simp
        have hget : ∀ q v, ((List.range (min m.length l.length * ts.2)).map fun q => f (q / ts.2) (q % ts.2))[q]? = some v → q < min m.length l.length * ts.2 ∧ v = f (q / ts.2) (q % ts.2) := fun q v hq => by
          have hlt := lt_of_getElem? hq
          rw [hlen] at hlt
          refine ⟨hlt, ?_⟩
          simp [hlt] at hq
          exact hq.symm
        refine ⟨_, _, rfl, hlen, fun v hv => ?_, fun i j e z hi he hz => ?_, ?_⟩
        · obtain ⟨q, hq⟩ := List.getElem?_of_mem hv
          obtain ⟨hq2, rfl⟩ := hget q v hq
          obtain ⟨e, z, g1, g2, g3⟩ := facts q hq2
          exact h7 _ _ e z g1 g2
        · have hj : j < ts.2 := by rw [← hm e (List.mem_of_getElem? he)]; exact lt_of_getElem? hz
          have him := lt_of_getElem? he
          have hq : i * ts.2 + j < min m.length l.length * ts.2 := by
            have h1 : (i + 1) * ts.2 ≤ min m.length l.length * ts.2 := Nat.mul_le_mul_right _ (by omega)
            rw [Nat.add_mul] at h1
            omega
          have ed : (i * ts.2 + j) / ts.2 = i := by rw [Nat.mul_comm, Nat.mul_add_div b0, Nat.div_eq_of_lt hj]; omega
          have em : (i * ts.2 + j) % ts.2 = j := by rw [Nat.mul_comm, Nat.mul_add_mod, Nat.mod_eq_of_lt hj]
          exact ⟨f i j, by simp [hq, ed, em], h7 i j e z he hz, h6 i j e z he hz⟩
        · have hfit : ((List.range (min m.length l.length * ts.2)).map fun q => f (q / ts.2) (q % ts.2)).length ≤ vs.size := by
            rw [hlen, b4]
            exact Nat.mul_le_mul_right _ (by omega)
          exact run_copy_rowK (P := E.P) c.w dT sT o.type e blk l.length cap ⟨blk2, off, none⟩ m.length cap2 ts.2 vs ts.1 _ q2 hsz b3 hlen (fun q v hq => by
            obtain ⟨hq2, rfl⟩ := hget q v hq
            obtain ⟨e, z, g1, g2, g3⟩ := facts q hq2
            have := h5 _ _ e z g1 g2
            subst g3
            rw [Nat.mul_comm, Nat.div_add_mod] at this
            have hadd : (⟨blk2, off, none⟩ : Addr).add q = ⟨blk2, off + q, none⟩ := by unfold Addr.add; split <;> simp_all
            rw [hadd]
            exact this) hfit (fun v hv => by
            obtain ⟨q, hq⟩ := List.getElem?_of_mem hv
            obtain ⟨hq2, rfl⟩ := hget q v hq
            obtain ⟨e, z, g1, g2, g3⟩ := facts q hq2
            exact h7 _ _ e z g1 g2)
  obtain ⟨cs, sv, k1, k2, k3, k4, k5⟩ := key
  have hcsl : cs.length ≤ vs.size := by rw [k2, b4]; exact Nat.mul_le_mul_right _ (by omega)
  have hblt : blk < c.w.heap.size := (e3.ownlt b blk cap r1).1
  have hrw := e3.rewrite (l' := m.take l.length ++ l.drop m.length) (vs' := (cs ++ vs.toList.drop cs.length).toArray) (w' := c.w.setRow blk (cs ++ vs.toList.drop cs.length).toArray) hb r1 b3 (by simp; omega) (fun i e he => ?_) (by simp; omega) rfl rfl rfl (by simp [World.setRow]) (fun x hx => by simp [World.setRow, Array.getElem?_modify, Ne.symm hx]) (by simp [World.setRow, Array.getElem?_modify, b3]) (fun i j e z he hz => ?_)
  · obtain ⟨hok, hst⟩ := hrw
    refine ⟨_, .int .i64 (min m.length l.length : Nat), .inl ?_, rfl, hok, .d _ _ (.int _ _), hst⟩
    simp only [execOp, e1, resolve, invoke, builtin, List.map_toArray, List.map_cons, List.map_nil, r2, k1, Sem.run_bind, Sem.run_pure, Result.andThen_ok, k5]
    rfl
  · rcases Nat.lt_or_ge i (m.take l.length).length with h | h
    · rw [List.getElem?_append_left h] at he
      exact hm e (List.mem_of_mem_take (List.mem_of_getElem? he))
    · rw [List.getElem?_append_right h] at he
      exact b1 _ e (by rw [List.getElem?_drop] at he; exact he)
  · have hj : ∀ z : DV, z.cells.length = ts.2 → ∀ w, z.cells[j]? = some w → j < ts.2 := fun z hz w hw => by rw [← hz]; exact lt_of_getElem? hw
    rcases Nat.lt_or_ge i (m.take l.length).length with h | h
    · rw [List.getElem?_append_left h, List.getElem?_take] at he
      have hil : i < l.length := by simp at h; omega
      rw [if_pos hil] at he
      obtain ⟨v, v1, v2, v3⟩ := k4 i j e z hil he hz
      refine ⟨v, ?_, v2, v3⟩
      rw [List.getElem?_toArray, List.getElem?_append_left (lt_of_getElem? v1)]
      exact v1
    · rw [List.getElem?_append_right h] at he
      rw [List.getElem?_drop] at he
      have hlen : (m.take l.length).length = min m.length l.length := by simp; omega
      rw [hlen] at he h
      have hml : m.length < l.length := by
        have := lt_of_getElem? he
        omega
      have hmin : min m.length l.length = m.length := by omega
      rw [hmin] at he h
      rw [show m.length + (i - m.length) = i by omega] at he
      obtain ⟨v, v1, v2, v3⟩ := b7 i j e z he hz
      refine ⟨v, ?_, v2, v3⟩
      have hidx : cs.length ≤ i * ts.2 + j := by
        rw [k2, hmin]
        have := Nat.mul_le_mul_right ts.2 h
        omega
      rw [List.getElem?_toArray, List.getElem?_append_right hidx, List.getElem?_drop, show cs.length + (i * ts.2 + j - cs.length) = i * ts.2 + j by omega]
      simpa using v1

/-- The next operation copies into an own array. -/
theorem AWL.copyK (hE : E.OK) {dT sT : Nat} {x y : Operand} (hg : o.guard = none) (hop : o.op = .call { callee := .builtin .copy, args := #[x, y], argTypes := #[dT, sT] })
    (H : getK E.T dT False fun i => match i.k with
      | .slice e => getK E.T e False fun ei => evalK E.G s x False fun
        | .own b g => getK h b False fun
          | .arr g' ts l' => match Nat.beq g g' with
            | true => evalK E.G s y False fun
              | .d (.sl m) => need (l' ≠ [] ∧ ts.2 = ei.size ∧ ∀ z ∈ m, z.cells.length = ts.2) (setK h b (.arr g ts (m.take l'.length ++ l'.drop m.length)) fun h' => putK s o.dst (.d (.int .i64 (min m.length l'.length : Nat))) fun s' => AWL E fid R lits (.reg ops l :: k) s' h')
              | _ => False
            | false => False
          | _ => False
        | _ => False
      | _ => False) : AWL E fid R lits (.reg ops (o :: l) :: k) s h := by
  rcases getK_or H with H | ⟨i, hi, H⟩
  · exact H.elim
  split at H
  case h_2 => exact H.elim
  rename_i e hk
  rcases getK_or H with H | ⟨ei, hei, H⟩
  · exact H.elim
  rcases evalK_sound H with H | ⟨v, hv, H⟩
  · exact H.elim
  split at H
  case h_2 => exact H.elim
  rename_i b g
  rcases getK_or H with H | ⟨bx, hb, H⟩
  · exact H.elim
  split at H
  case h_2 => exact H.elim
  rename_i g' ts l'
  split at H
  case h_2 => exact H.elim
  rename_i q
  have q := Nat.eq_of_beq_eq_true q
  subst q
  rcases evalK_sound H with H | ⟨u, hu, H⟩
  · exact H.elim
  split at H
  case h_2 => exact H.elim
  rename_i m
  obtain ⟨⟨n1, n2, n3⟩, H⟩ := need_elim H
  rw [setK_eq, putK_eq] at H
  refine .of (.op (wanted_none hg) ?_ H.to)
  rw [hop]
  exact ok_copyOwn hE hi hk hei n2 hb n1 hv hu n3
end
end Go.Eng
