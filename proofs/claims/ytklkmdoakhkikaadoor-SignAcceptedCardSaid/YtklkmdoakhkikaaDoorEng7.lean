/- The engine, part 7: fields, literals, lengths; every abstract operation is what the model does. No conditions. -/
import Derived.Test.YtklkmdoakhkikaaDoorEng6
import Derived.Great.BuildSlice
namespace Go.Eng
open Go Go.RowKit

section
variable {E : Env} {s : List AV} {h : List Box} {c : Cx} {G : List (Nat × DV)}

theorem run_fieldAt {P : Program} {t f off ft : Nat} {i fi : TInfo} (ht : tinfo P t = some i) (hft : tinfo P ft = some fi) (hpos : 0 < fi.size) {fs : List (Nat × Nat)} (hk : i.k = .struct fs) (hf : fs[f]? = some (off, ft)) (w : World) (b o : Nat) :
    (Instr.fieldAt t (.pointer (some ⟨b, o, none⟩)) f).run P w = .ok (.pointer (some ⟨b, o + off, none⟩)) w := by
  obtain ⟨ti, d, g1, g2, g3, -⟩ := tinfo_inv ht
  obtain ⟨fl, rfl, rfl⟩ := tk_struct (hk.symm.trans g3)
  simp only [List.getElem?_map, Option.map_eq_some_iff] at hf
  obtain ⟨fd, hf, hfe⟩ := hf
  simp only [Prod.mk.injEq] at hfe
  obtain ⟨rfl, rfl⟩ := hfe
  have hf' : fl[f]? = some fd := by simpa using hf
  have hz : ¬ (fi.size = 0) := by omega
  simp only [Instr.fieldAt, Sem.run_bind, run_underlying g2, Result.andThen_ok, hf', Instr.sureAddr, Sem.run_pure, fieldPlace, run_sizeOf hft, hz, if_false, add_at]

theorem fieldOffK_or {i : TInfo} {f : Nat} {stop : Prop} {k : Nat → Nat → Prop} (H : fieldOffK i f stop k) : stop ∨ ∃ fs off ft, i.k = .struct fs ∧ fs[f]? = some (off, ft) ∧ k off ft := by
  unfold fieldOffK at H
  split at H
  · rename_i fs hk
    rcases getK_or H with h | ⟨p, hp, h⟩
    · exact .inl h
    · exact .inr ⟨fs, p.1, p.2, hk, hp, h⟩
  · exact .inl H

theorem ok_fieldAddr (hE : E.OK) {t f off ft : Nat} {x : Operand} {i fi : TInfo} (hi : E.T[t]? = some i) (hfi : E.T[ft]? = some fi) (hpos : 0 < fi.size) {fs : List (Nat × Nat)} (hk : i.k = .struct fs) (hf : fs[f]? = some (off, ft)) {a a' : AV} (ha : EvOK E.G s x a)
    (haa : (∃ b o, a = .ptr b o ∧ a' = .ptr b (o + off) ∧ ∃ cs, h[b]? = some (.cells cs)) ∨ (∃ e o, a = .eptr e o ∧ a' = .eptr e (o + off)) ∨ (∃ b g i o ts l, a = .aptr b g i o ∧ a' = .aptr b g i (o + off) ∧ h[b]? = some (.arr g ts l))) :
    OpOK E (.fieldAddr t x f) s h a' h := .quiet fun o c ac h1 h2 h3 h4 => by
  subst h2
  have hv := ha c ac h3 h4
  have run := run_fieldAt (hE.types t i hi) (hE.types ft fi hfi) hpos hk hf
  generalize hp : ac.eval x = p at hv
  have fin : ∀ blk o', p = .pointer (some ⟨blk, o', none⟩) → (execOp ac.eval o).run E.P c.w = .ok (.value (.pointer (some ⟨blk, o' + off, none⟩))) c.w := fun blk o' e => by
    simp only [execOp, h1, hp, e, Sem.run_bind, run, Result.andThen_ok, Sem.run_pure]
  rcases haa with ⟨b, o1, rfl, rfl, cs, hb⟩ | ⟨e, o1, rfl, rfl⟩ | ⟨b, g, j, o1, ts, l, rfl, rfl, hb⟩
  · cases hv with
    | ptr _ _ cs blk cap k1 k2 => exact ⟨_, fin blk o1 rfl, .ptr _ _ cs blk cap k1 k2⟩
    | ptrgone _ _ _ k1 _ => rw [hb] at k1; cases k1
  · cases hv with
    | eptr _ _ blk o' fv k1 k2 k3 k4 => exact ⟨_, fin blk (o' + o1) rfl, by rw [Nat.add_assoc]; exact .eptr _ _ blk o' fv k1 k2 k3 k4⟩
  · cases hv with
    | aptr _ _ _ _ ts l blk cap k1 k2 k3 => exact ⟨_, fin blk (j * ts.2 + o1) rfl, by rw [Nat.add_assoc]; exact .aptr _ _ _ _ ts l blk cap k1 k2 k3⟩
    | aptrold _ _ g' _ _ _ _ _ k1 k2 _ => rw [hb] at k1; cases k1; omega
    | aptrgone _ _ _ _ _ k1 _ => rw [hb] at k1; cases k1

theorem run_part {P : Program} {t : Nat} {i : TInfo} (ht : tinfo P t = some i) (w : World) (vs : List Value) (off : Nat) (hagg : i.k.agg = true) :
    (part t vs.toArray off).run P w = .ok (.agg ((vs.drop off).take i.size).toArray) w := by
  have : vs.toArray.extract off (off + i.size) = ((vs.drop off).take i.size).toArray := by
    simp [List.extract_eq_take_drop]
  simp only [part, Sem.run_bind, run_isAgg ht, hagg, Result.andThen_ok, if_true, run_sizeOf ht, Sem.run_pure, this]
theorem run_part1 {P : Program} {t : Nat} {i : TInfo} (ht : tinfo P t = some i) (w : World) (vs : List Value) (off : Nat) (v : Value) (hv : vs[off]? = some v) (hagg : i.k.agg = false) :
    (part t vs.toArray off).run P w = .ok v w := by
  have : vs.toArray[off]? = some v := by simpa using hv
  simp only [part, Sem.run_bind, run_isAgg ht, hagg, Result.andThen_ok, Bool.false_eq_true, if_false, this, Sem.run_pure]

theorem partK_val {i : TInfo} {l : List AV} {off : Nat} {stop : Prop} {k : AV → Prop} (H : partK i l off stop k) : stop ∨ ∃ x, k x ∧ ∀ (P : Program) (t : Nat) (c : Cx) (vs : List Value), tinfo P t = some i → VL c l vs →
    ∃ v, (part t vs.toArray off).run P c.w = .ok v c.w ∧ VR c x v := by
  unfold partK at H
  split at H
  · rename_i hagg
    rw [dropK_eq, takeK_eq] at H
    split at H
    · obtain ⟨x, hx, h⟩ := aggK_sound H
      refine .inr ⟨x, hx, fun P t c vs ht hv => ⟨_, ?_, h c _ ((hv.drop off).take _)⟩⟩
      exact run_part ht c.w vs off hagg
    · exact .inl H
  · rename_i hagg
    rcases getK_or H with h | ⟨x, hx, h⟩
    · exact .inl h
    refine .inr ⟨x, h, fun P t c vs ht hv => ?_⟩
    have hlt : off < vs.length := by
      rw [← hv.1]
      rcases Nat.lt_or_ge off l.length with h | h
      · exact h
      · rw [List.getElem?_eq_none h] at hx; cases hx
    exact ⟨vs[off], run_part1 ht c.w vs off _ (by simp [hlt]) hagg, hv.2 off x _ hx (by simp [hlt])⟩

theorem ok_field (hE : E.OK) {t f off ft : Nat} {x : Operand} {i fi : TInfo} (hi : E.T[t]? = some i) (hfi : E.T[ft]? = some fi) {fs : List (Nat × Nat)} (hk : i.k = .struct fs) (hf : fs[f]? = some (off, ft)) {a : AV} (ha : EvOK E.G s x a) {l : List AV}
    (hl : ∀ (c : Cx) (v : Value), VR c a v → ∃ vs : List Value, v = .agg vs.toArray ∧ VL c l vs) {stop : Prop} {k : AV → Prop} (H : partK fi l off stop k) : stop ∨ ∃ v, k v ∧ OpOK E (.field t x f) s h v h := by
  rcases partK_val H with h | ⟨v, hv, hp⟩
  · exact .inl h
  refine .inr ⟨v, hv, .quiet fun o c ac h1 _ h3 h4 => ?_⟩
  obtain ⟨vs, he, hvl⟩ := hl c _ (ha c ac h3 h4)
  obtain ⟨u, hu, hvu⟩ := hp E.P ft c vs (hE.types ft fi hfi) hvl
  obtain ⟨ti, d, g1, g2, g3, -⟩ := tinfo_inv (hE.types t i hi)
  obtain ⟨fl, rfl, rfl⟩ := tk_struct (hk.symm.trans g3)
  simp only [List.getElem?_map, Option.map_eq_some_iff] at hf
  obtain ⟨fd, hf, hfe⟩ := hf
  simp only [Prod.mk.injEq] at hfe
  obtain ⟨rfl, rfl⟩ := hfe
  have hf' : fl[f]? = some fd := by simpa using hf
  refine ⟨u, ?_, hvu⟩
  simp only [execOp, h1, he, Instr.field, Sem.run_bind, run_underlying g2, Result.andThen_ok, hf', asAgg, Sem.run_pure, hu]

theorem ok_nilCheck {x : Operand} {a : AV} (ha : EvOK E.G s x a)
    (haa : (∃ b o, a = .ptr b o ∧ ∃ cs, h[b]? = some (.cells cs)) ∨ (∃ e o, a = .eptr e o) ∨ (∃ b g i o ts l, a = .aptr b g i o ∧ h[b]? = some (.arr g ts l))) : OpOK E (.nilCheck x) s h a h := .quiet fun o c ac h1 h2 h3 h4 => by
  subst h2
  have hv := ha c ac h3 h4
  refine ⟨ac.eval x, ?_, hv⟩
  generalize hp : ac.eval x = p at hv
  have fin : ∀ a', p = .pointer (some a') → (execOp ac.eval o).run E.P c.w = .ok (.value p) c.w := fun a' e => by
    simp only [execOp, h1, hp, e]; rfl
  rcases haa with ⟨b, o1, rfl, cs, hb⟩ | ⟨e, o1, rfl⟩ | ⟨b, g, j, o1, ts, l, rfl, hb⟩
  · cases hv with
    | ptr _ _ cs blk cap k1 k2 => exact fin _ rfl
    | ptrgone _ _ _ k1 _ => rw [hb] at k1; cases k1
  · cases hv with
    | eptr _ _ blk o' fv k1 k2 k3 k4 => exact fin _ rfl
  · cases hv with
    | aptr _ _ _ _ ts l blk cap k1 k2 k3 => exact fin _ rfl
    | aptrold _ _ g' _ _ _ _ _ k1 k2 _ => rw [hb] at k1; cases k1; omega
    | aptrgone _ _ _ _ _ k1 _ => rw [hb] at k1; cases k1

/-- Operands, one by one. -/
def EvsOK (G : List (Nat × DV)) (s : List AV) (xs : List Operand) (vs : List AV) : Prop := ∀ (c : Cx) (a : Act), HOk G c → VS c s a.tmps → VL c vs (xs.map a.eval)

theorem evalsK_sound {stop : Prop} : ∀ {xs : List Operand} {k : List AV → Prop}, evalsK G s xs stop k → stop ∨ ∃ vs, EvsOK G s xs vs ∧ k vs
  | [], k, H => .inr ⟨[], fun _ _ _ _ => .nil, H⟩
  | x :: xs, k, H => by
    simp only [evalsK] at H
    rcases evalK_sound H with h | ⟨v, hv, H⟩
    · exact .inl h
    rcases evalsK_sound H with h | ⟨vs, hvs, H⟩
    · exact .inl h
    exact .inr ⟨v :: vs, fun c a h1 h2 => .cons (hv c a h1 h2) (hvs c a h1 h2), H⟩

theorem ok_makeFunc {f : Fn} {a1 a2 : Array Operand} {l1 l2 : List AV} (h1 : EvsOK E.G s a1.toList l1) (h2 : EvsOK E.G s a2.toList l2) : OpOK E (.makeFunc f a1 a2) s h (.fn f l1 l2) h :=
  .quiet fun o c ac e1 _ h3 h4 => by
    have g1 := h1 c ac h3 h4
    have g2 := h2 c ac h3 h4
    refine ⟨.func f (a1.map ac.eval) (a2.map ac.eval), by simp only [execOp, e1, Instr.makeFunc, Sem.run_bind, Sem.run_pure, Result.andThen_ok], .fn _ _ _ _ _ (by simpa using g1.1) (by simpa using g2.1) ?_ ?_⟩
    · exact fun j x v hx hv => g1.2 j x v hx (by simpa using hv)
    · exact fun j x v hx hv => g2.2 j x v hx (by simpa using hv)

theorem run_len {P : Program} {o : Oper} {ac : Act} {w : World} {args : Array Operand} {ts : Array TypeId} {x : Operand} {t : Nat} {i : TInfo} {n : Nat} {v : Value} (h1 : o.op = .call { callee := .builtin .len, args := args, argTypes := ts }) (hx : args.toList[0]? = some x) (ht : ts.toList[0]? = some t) (hti : tinfo P t = some i) (he : ac.eval x = v)
    (hv : (∃ e a cap, i.k = .slice e ∧ v = .slice a n cap) ∨ (∃ b, i.k = .string ∧ v = .string b ∧ b.size = n)) : (execOp ac.eval o).run P w = .ok (.value (.int .i64 n)) w := by
  have hx' : args[0]? = some x := by simpa using hx
  have ht' : ts[0]? = some t := by simpa using ht
  have hx2 : (args.map ac.eval)[0]? = some v := by rw [Array.getElem?_map, hx']; simp [he]
  obtain ⟨ti, d, g1, g2, g3, -⟩ := tinfo_inv hti
  rcases hv with ⟨e, a, cap, hk, rfl⟩ | ⟨b, hk, rfl, hb⟩
  · obtain rfl := tk_slice (hk.symm.trans g3)
    simp only [execOp, h1, resolve, invoke, builtin, Builtin.len_, ht', hx2, Sem.run_bind, Sem.run_pure, Result.andThen_ok, run_underlying g2, goInt]
  · obtain rfl := tk_string (hk.symm.trans g3)
    simp only [execOp, h1, resolve, invoke, builtin, Builtin.len_, ht', hx2, Sem.run_bind, Sem.run_pure, Result.andThen_ok, run_underlying g2, goInt, hb]

/-- Parts, one by one. -/
def PartsOK (G : List (Nat × DV)) (s : List AV) (xs : List (Nat × Operand)) (vs : List (Nat × AV)) : Prop := ∀ (c : Cx) (a : Act), HOk G c → VS c s a.tmps → vs.map (·.1) = xs.map (·.1) ∧ VL c (vs.map (·.2)) (xs.map fun p => a.eval p.2)

theorem partsK_sound {stop : Prop} : ∀ {xs : List (Nat × Operand)} {k : List (Nat × AV) → Prop}, partsK G s xs stop k → stop ∨ ∃ vs, PartsOK G s xs vs ∧ k vs
  | [], k, H => .inr ⟨[], fun _ _ _ _ => ⟨rfl, .nil⟩, H⟩
  | (n, x) :: xs, k, H => by
    simp only [partsK] at H
    rcases evalK_sound H with h | ⟨v, hv, H⟩
    · exact .inl h
    rcases partsK_sound H with h | ⟨vs, hvs, H⟩
    · exact .inl h
    exact .inr ⟨(n, v) :: vs, fun c a h1 h2 => ⟨by simp [(hvs c a h1 h2).1], .cons (hv c a h1 h2) (hvs c a h1 h2).2⟩, H⟩

theorem fold_spl (off : Nat) : ∀ (vs : List Value) (n : Nat) (cs : Array Value), ((vs.zipIdx n).foldl (fun cs (x : Value × Nat) => cs.setIfInBounds (off + x.2) x.1) cs) = (spl cs.toList (off + n) vs).toArray
  | [], _, cs => by simp [spl]
  | v :: r, n, cs => by
    simp only [List.zipIdx_cons, List.foldl_cons]
    rw [fold_spl off r (n + 1)]
    simp [spl, Nat.add_assoc]

theorem fillK_sound {pl : Nat → Option (Nat × Nat)} {stop : Prop} : ∀ {ps : List (Nat × AV)} {l : List AV} {k : List AV → Prop}, fillK pl ps l stop k → stop ∨ ∃ l', k l' ∧
    ∀ (c : Cx) (vs us : List Value), VL c l vs → VL c (ps.map (·.2)) us → ∃ vs' : List Value, Instr.fill pl vs.toArray ((ps.map (·.1)).zip us) = some vs'.toArray ∧ VL c l' vs'
  | [], l, k, H => .inr ⟨l, H, fun c vs us hv hu => ⟨vs, by simp [Instr.fill], hv⟩⟩
  | (f, x) :: ps, l, k, H => by
    simp only [fillK] at H
    split at H
    · exact .inl H
    rename_i p hp
    rcases cellsK_sound H with h | ⟨xs, hxs, H⟩
    · exact .inl h
    split at H
    · rename_i q1 q2
      rw [splK_eq] at H
      rcases fillK_sound H with h | ⟨l', hk, hf⟩
      · exact .inl h
      refine .inr ⟨l', hk, fun c vs us hv hu => ?_⟩
      cases us with
      | nil => have := hu.1; simp at this
      | cons u us =>
        simp only [List.map_cons] at hu ⊢
        obtain ⟨h1, h2⟩ := hu.head
        obtain ⟨cv, hcv, hvl⟩ := hxs c u h1
        obtain ⟨vs', h3, h4⟩ := hf c (spl vs p.1 cv) us (VL.spl hv p.1 hvl) h2
        refine ⟨vs', ?_, h4⟩
        have q1 := Nat.eq_of_beq_eq_true q1
        have q2 := Nat.le_of_ble_eq_true q2
        rw [hvl.1] at q1 q2
        rw [hv.1] at q2
        simp only [List.zip_cons_cons, Instr.fill, hp]
        rw [if_neg (by simp [hcv, q1]; omega)]
        rw [← h3]
        congr 1
        rw [hcv]
        have := fold_spl p.1 cv 0 vs.toArray
        simp only [Nat.add_zero] at this
        rw [← this]
        simp
    · exact .inl H

theorem placesK_sound {P : Program} {T : List TInfo} (hT : ∀ (t : Nat) (i : TInfo), T[t]? = some i → tinfo P t = some i) {stop : Prop} : ∀ {fs : List Field} {k : List (Nat × Nat) → Prop}, placesK T (fs.map fun f => (f.offset, f.type)) stop k →
    stop ∨ ∃ pl, k pl ∧ fs.mapM (fun f => (P.info? f.type).map fun i => (f.offset, i.size)) = some pl
  | [], k, H => .inr ⟨[], H, rfl⟩
  | f :: fs, k, H => by
    simp only [List.map_cons, placesK] at H
    rcases getK_or H with h | ⟨i, hi, H⟩
    · exact .inl h
    rcases placesK_sound hT H with h | ⟨pl, hk, hp⟩
    · exact .inl h
    obtain ⟨ti, d, g1, g2, g3, g4, -⟩ := tinfo_inv (hT _ _ hi)
    refine .inr ⟨_, hk, ?_⟩
    simp [List.mapM_cons, g1, hp, g4]

theorem at?_eq {β : Type} (l : List β) (i : Nat) : at? l i = l[i]? := by
  induction l generalizing i with
  | nil => rfl
  | cons a l ih => cases i with
    | zero => rfl
    | succ i => simpa [at?] using ih i

theorem zeroOf {P : Program} {t : Nat} {i : TInfo} (ht : tinfo P t = some i) (hz : i.zero.length = i.size) (hpos : 0 < i.size) : ∃ (ti : TypeInfo) (z : Value), P.info? t = some ti ∧ ti.zero = some z ∧ i.size = ti.size ∧ ∀ c : Cx, ∃ vs : List Value, z.cells = vs.toArray ∧ VL c (i.zero.map .d) vs := by
  obtain ⟨ti, d, h1, h2, h3, h4, h5, h6⟩ := tinfo_inv ht
  obtain ⟨z, hz1, hz2⟩ := run_zero ht hz hpos
  cases hzz : ti.zero with
  | none => rw [h6, hzz] at hz; simp [zeroD] at hz; omega
  | some z' =>
    have := hz1 default
    simp only [zeroValue, typeInfo, bind, Sem.bind, program, h1, pure, Sem.run, hzz, Result.ok.injEq, and_true] at this
    subst this
    exact ⟨ti, z', h1, hzz, h4, hz2⟩

theorem ok_build (hE : E.OK) {t : Nat} {i : TInfo} (hi : E.T[t]? = some i) {parts : Array (Nat × Operand)} {ps : List (Nat × AV)} (hps : PartsOK E.G s parts.toList ps) (hz : i.zero.length = i.size) (hpos : 0 < i.size) {pl : Nat → Option (Nat × Nat)} {l : List AV} {v : AV}
    (hb : ∀ (ti : TypeInfo) (z : Value), E.P.info? t = some ti → ti.zero = some z → ∀ us, E.P.built t us = Instr.fill pl z.cells us)
    (hf : ∀ (c : Cx) (vs us : List Value), VL c (i.zero.map .d) vs → VL c (ps.map (·.2)) us → ∃ vs' : List Value, Instr.fill pl vs.toArray ((ps.map (·.1)).zip us) = some vs'.toArray ∧ VL c l vs')
    (hv : ∀ (c : Cx) (vs : List Value), VL c l vs → VR c v (.agg vs.toArray)) : OpOK E (.build t parts) s h v h :=
  .quiet fun o c ac h1 _ h3 h4 => by
    obtain ⟨ti, z, g1, g2, g3, g4⟩ := zeroOf (hE.types t i hi) hz hpos
    obtain ⟨zs, hzs, hzl⟩ := g4 c
    obtain ⟨p1, p2⟩ := hps c ac h3 h4
    obtain ⟨vs', f1, f2⟩ := hf c zs _ hzl p2
    refine ⟨.agg vs'.toArray, ?_, hv c vs' f2⟩
    have hb' := hb ti z g1 g2 (parts.map fun (i, x) => (i, ac.eval x)).toList
    have e : (parts.map fun (i, x) => (i, ac.eval x)).toList = (ps.map (·.1)).zip (parts.toList.map fun p => ac.eval p.2) := by
      rw [p1, Array.toList_map]
      generalize parts.toList = q
      induction q with
      | nil => rfl
      | cons a q ih => simp only [List.map_cons, List.zip_cons_cons, ih]
    rw [e, hzs, f1] at hb'
    rw [← e] at hb'
    simp only [execOp, h1, Sem.run_bind, run_build c.w t _ _ hb', Result.andThen_ok, Sem.run_pure]

theorem built_struct {P : Program} {t : Nat} {ti : TypeInfo} {z : Value} {fl : Array Field} {pl : List (Nat × Nat)} (h1 : P.info? t = some ti) (h2 : P.underlying t = some (.struct fl)) (h3 : ti.zero = some z) (h4 : fl.toList.mapM (fun f => (P.info? f.type).map fun i => (f.offset, i.size)) = some pl) (us : List (Nat × Value)) :
    P.built t us = Instr.fill (at? pl) z.cells us := by
  have : (at? pl) = (pl.toArray[·]?) := funext fun i => by rw [at?_eq]; simp
  simp only [Program.built, h1, h2, h3, h4, this]
theorem built_array {P : Program} {t n e : Nat} {ti ei : TypeInfo} {z : Value} (h1 : P.info? t = some ti) (h2 : P.underlying t = some (.array n e)) (h3 : ti.zero = some z) (h4 : P.info? e = some ei) (us : List (Nat × Value)) :
    P.built t us = Instr.fill (fun i => some (i * ei.size, ei.size)) z.cells us := by
  simp only [Program.built, h1, h2, h3, h4]

end
end Go.Eng
