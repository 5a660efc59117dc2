/- The engine, part 8: slices written out; every abstract operation is what the model does. No conditions. -/
import Derived.Test.YtklkmdoakhkikaaDoorEng7
namespace Go.Eng
open Go Go.RowKit

/-- The cells of elements in a row. -/
def flat (l : List DV) : List DV := l.flatMap DV.cells

theorem spl_mid {β : Type} : ∀ (v p a r : List β), a.length = v.length → spl (p ++ a ++ r) p.length v = p ++ v ++ r
  | [], p, a, r, h => by obtain rfl : a = [] := List.eq_nil_of_length_eq_zero h; simp [spl]
  | x :: v, p, a, r, h => by
    cases a with
    | nil => simp at h
    | cons y a =>
      have h1 : (p ++ y :: a ++ r).set p.length x = (p ++ [x]) ++ a ++ r := by simp
      have := spl_mid v (p ++ [x]) a r (by simpa using h)
      simp only [List.length_append, List.length_cons, List.length_nil, Nat.zero_add] at this
      rw [spl, h1, this]
      simp

theorem flat_append (a b : List DV) : flat (a ++ b) = flat a ++ flat b := by simp [flat]
theorem flat_length {sz : Nat} : ∀ {l : List DV}, (∀ (i : Nat) (e : DV), l[i]? = some e → e.cells.length = sz) → (flat l).length = l.length * sz
  | [], _ => by simp [flat]
  | e :: l, h => by
    have h1 := h 0 e rfl
    have h2 := flat_length (l := l) (fun i e he => h (i + 1) e (by simpa using he))
    simp only [flat, List.flatMap_cons, List.length_append, List.length_cons] at h2 ⊢
    rw [h1, h2, Nat.add_mul, Nat.one_mul, Nat.add_comm]

theorem flat_get {sz : Nat} {l : List DV} (h : ∀ (i : Nat) (e : DV), l[i]? = some e → e.cells.length = sz) {i j : Nat} {e : DV} (he : l[i]? = some e) (hj : j < sz) : (flat l)[i * sz + j]? = e.cells[j]? := by
  induction l generalizing i with
  | nil => simp at he
  | cons a l ih =>
    have h0 := h 0 a rfl
    cases i with
    | zero =>
      simp at he; subst he
      simp only [flat, List.flatMap_cons, Nat.zero_mul, Nat.zero_add]
      rw [List.getElem?_append_left (by omega)]
    | succ i =>
      have := ih (fun i e he => h (i + 1) e (by simpa using he)) (i := i) (by simpa using he)
      simp only [flat, List.flatMap_cons] at this ⊢
      rw [List.getElem?_append_right (by rw [h0, Nat.add_mul]; omega), h0, ← this]
      congr 1
      rw [Nat.add_mul]; omega

theorem flat_set {sz : Nat} {l : List DV} (h : ∀ (i : Nat) (e : DV), l[i]? = some e → e.cells.length = sz) {f : Nat} (hf : f < l.length) {e : DV} (he : e.cells.length = sz) : flat (l.set f e) = spl (flat l) (f * sz) e.cells := by
  have h1 : l = l.take f ++ l[f] :: l.drop (f + 1) := by simp
  have h2 : l.set f e = l.take f ++ e :: l.drop (f + 1) := by rw [List.set_eq_take_append_cons_drop, if_pos hf]
  have h3 : (flat (l.take f)).length = f * sz := by
    rw [flat_length (sz := sz) (fun i e he => h i e (by rw [List.getElem?_take] at he; split at he; exact he; cases he)), List.length_take, Nat.min_eq_left (by omega)]
  have h4 := spl_mid e.cells (flat (l.take f)) l[f].cells (flat (l.drop (f + 1))) (by rw [he]; exact h f _ (by simp [hf]))
  have e1 : flat l = flat (l.take f) ++ l[f].cells ++ flat (l.drop (f + 1)) := by
    have := congrArg flat h1
    rw [flat_append] at this
    rw [this]
    simp only [flat, List.flatMap_cons, List.append_assoc]
  have e2 : flat (l.set f e) = flat (l.take f) ++ e.cells ++ flat (l.drop (f + 1)) := by rw [h2, flat_append]; simp [flat]
  rw [e2, e1, ← h3]
  exact h4.symm

section
variable {E : Env} {s : List AV} {h : List Box} {c : Cx} {G : List (Nat × DV)}

theorem repK_eq {k : List DV → Prop} {x : DV} : ∀ {n : Nat}, repK n x k = k (List.replicate n x) := by
  intro n
  induction n generalizing k with
  | zero => rfl
  | succ n ih => simp only [repK, ih, List.replicate_succ]

/-- Every element takes so many cells, each of one value. -/
def Elems (sz : Nat) (l : List DV) : Prop := ∀ (i : Nat) (e : DV), l[i]? = some e → e.cells.length = sz

theorem Elems.set {sz : Nat} {l : List DV} (hl : Elems sz l) (f : Nat) {e : DV} (he : e.cells.length = sz) : Elems sz (l.set f e) := fun i e' h' => by
  rw [List.getElem?_set] at h'
  split at h'
  · split at h'
    · cases h'; exact he
    · cases h'
  · exact hl i e' h'

/-- All cells hold one value. -/
def Scals (l : List DV) : Prop := ∀ (i : Nat) (e : DV), l[i]? = some e → ∀ y ∈ e.cells, y.scal = true
theorem Scals.set {l : List DV} (hl : Scals l) (f : Nat) {e : DV} (he : ∀ y ∈ e.cells, y.scal = true) : Scals (l.set f e) := fun i e' h' => by
  rw [List.getElem?_set] at h'
  split at h'
  · split at h'
    · cases h'; exact he
    · cases h'
  · exact hl i e' h'
theorem Scals.flat {l : List DV} (hl : Scals l) : ∀ x ∈ flat l, x.scal = true := fun x hx => by
  simp only [Eng.flat, List.mem_flatMap] at hx
  obtain ⟨e, he, hx⟩ := hx
  obtain ⟨i, hi⟩ := List.getElem?_of_mem he
  exact hl i e hi x hx

theorem elemsK_sound {sz : Nat} {stop : Prop} : ∀ {ps : List (Nat × AV)} {l : List DV} {k : List DV → Prop}, Elems sz l → Scals l → elemsK sz ps l stop k → stop ∨ ∃ l', k l' ∧ Elems sz l' ∧ Scals l' ∧ l'.length = l.length ∧
    ∀ (c : Cx) (vs us : List Value), VL c ((flat l).map .d) vs → VL c (ps.map (·.2)) us → ∃ vs' : List Value, Instr.fill (fun i => some (i * sz, sz)) vs.toArray ((ps.map (·.1)).zip us) = some vs'.toArray ∧ VL c ((flat l').map .d) vs'
  | [], l, k, hl, hsc, H => .inr ⟨l, H, hl, hsc, rfl, fun c vs us hv hu => ⟨vs, by simp [Instr.fill], hv⟩⟩
  | (f, x) :: ps, l, k, hl, hsc, H => by
    have key : ∀ (e : DV), x = .d e → e.cells.length = sz → (∀ y ∈ e.cells, y.scal = true) → f < l.length → elemsK sz ps (l.set f e) stop k → stop ∨ ∃ l', k l' ∧ Elems sz l' ∧ Scals l' ∧ l'.length = l.length ∧
        ∀ (c : Cx) (vs us : List Value), VL c ((flat l).map .d) vs → VL c (((f, x) :: ps).map (·.2)) us → ∃ vs' : List Value, Instr.fill (fun i => some (i * sz, sz)) vs.toArray ((((f, x) :: ps).map (·.1)).zip us) = some vs'.toArray ∧ VL c ((flat l').map .d) vs' := by
      intro e hx he hes hf H'
      subst hx
      rcases elemsK_sound (hl.set f he) (hsc.set f hes) H' with h | ⟨l', h1, h2, hs2, h3, h4⟩
      · exact .inl h
      refine .inr ⟨l', h1, h2, hs2, by simpa using h3, fun c vs us hv hu => ?_⟩
      cases us with
      | nil => have := hu.1; simp at this
      | cons u us =>
        simp only [List.map_cons] at hu ⊢
        obtain ⟨g1, g2⟩ := hu.head
        have hcells : ∃ cv : List Value, u.cells = cv.toArray ∧ VL c (e.cells.map .d) cv := by
          by_cases hagg : ∃ el, e = .agg el
          · obtain ⟨el, rfl⟩ := hagg
            obtain ⟨cv, rfl, hc⟩ := mapDK_agg g1
            exact ⟨cv, rfl, hc⟩
          · have hc1 : e.cells = [e] := by cases e <;> first | rfl | exact absurd ⟨_, rfl⟩ hagg
            rw [hc1]
            refine ⟨[u], ?_, .cons g1 .nil⟩
            cases g1 with
            | d _ _ g => cases g <;> first | rfl | exact absurd ⟨_, rfl⟩ hagg
        obtain ⟨cv, hcv, hvl⟩ := hcells
        have hsp : VL c ((flat (l.set f e)).map .d) (spl vs (f * sz) cv) := by
          rw [flat_set hl hf he]
          have := VL.spl hv (f * sz) hvl
          have hm : ∀ (q : List DV) (o : Nat) (p : List DV), (spl p o q).map AV.d = spl (p.map .d) o (q.map .d) := by
            intro q
            induction q with
            | nil => intro o p; rfl
            | cons a q ih => intro o p; simp [spl, ih]
          rw [hm]; exact this
        obtain ⟨vs', f1, f2⟩ := h4 c _ us hsp g2
        refine ⟨vs', ?_, f2⟩
        have hl1 : cv.length = sz := by rw [← hvl.1]; simpa using he
        have hl2 : f * sz + sz ≤ vs.length := by
          have := hv.1
          rw [List.length_map, flat_length hl] at this
          rw [← this]
          calc f * sz + sz = (f + 1) * sz := by rw [Nat.add_mul, Nat.one_mul]
            _ ≤ l.length * sz := Nat.mul_le_mul_right _ hf
        simp only [List.zip_cons_cons, Instr.fill]
        rw [if_neg (by simp [hcv, hl1]; omega)]
        rw [← f1]
        congr 1
        rw [hcv]
        have := fold_spl (f * sz) cv 0 vs.toArray
        simp only [Nat.add_zero] at this
        rw [← this]
        simp
    cases x
    case d e =>
      simp only [elemsK] at H
      split at H
      · rename_i el
        split at H
        · rename_i q1 q2 q3
          rw [setK_eq] at H
          exact key _ rfl (Nat.eq_of_beq_eq_true q1) (fun y hy => List.all_eq_true.1 q2 y hy) (Nat.le_of_ble_eq_true q3) H
        · exact .inl H
      · split at H
        · rename_i hna _ _ _ q1 q2 q3
          rw [setK_eq] at H
          have hc1 : e.cells = [e] := by cases e <;> first | rfl | exact absurd rfl (hna _)
          refine key _ rfl ?_ (fun y hy => by rw [hc1] at hy; simp at hy; subst hy; exact q2) (Nat.le_of_ble_eq_true q3) H
          have := Nat.eq_of_beq_eq_true q1
          rw [← this, hc1]
          rfl
        · exact .inl H
    all_goals exact .inl H

/-- A row of pure elements in a new block is a slice. -/
theorem vd_new {bad : Nat → Prop} {w : World} {l : List DV} {sz cap : Nat} {vs : List Value} {ty : TypeId} {fr : Nat × Nat} (hsz : 0 < sz) (hl : Elems sz l) (hb : ¬ bad w.heap.size) (hcap : l.length ≤ cap) (hlen : (flat l).length ≤ vs.length) (h1 : ∀ (x : DV), x ∈ flat l → x.scal = true)
    (hv : ∀ (j : Nat) (x : DV) (v : Value), (flat l)[j]? = some x → vs[j]? = some v → VD bad (w.alloc (.cells vs.toArray ty fr)) x v) :
    VD bad (w.alloc (.cells vs.toArray ty fr)) (.sl l) (.slice (some ⟨w.heap.size, 0, none⟩) l.length cap) := by
  have hrow := row_of_block (heap_alloc_new w (.cells vs.toArray ty fr))
  have at_ : ∀ (i j : Nat) (e x : DV), l[i]? = some e → e.cells[j]? = some x → ∃ v, vs[i * sz + j]? = some v ∧ (flat l)[i * sz + j]? = some x := fun i j e x he hx => by
    have hj : j < sz := by
      rw [← hl i e he]
      rcases Nat.lt_or_ge j e.cells.length with h | h
      · exact h
      · rw [List.getElem?_eq_none h] at hx; cases hx
    have h1 := flat_get hl he hj
    rw [hx] at h1
    have h2 : i * sz + j < (flat l).length := by
      rcases Nat.lt_or_ge (i * sz + j) (flat l).length with h | h
      · exact h
      · rw [List.getElem?_eq_none h] at h1; cases h1
    have h3 : i * sz + j < vs.length := by omega
    exact ⟨vs[i * sz + j], by simp [h3], h1⟩
  refine .sl l w.heap.size 0 cap sz (fun i j => vs.getD (i * sz + j) undef) (fun _ => hb) hsz hcap hl (fun i j e x he hx => ?_) (fun i j e x he hx => ?_) (fun i j e x he hx => ?_)
  · obtain ⟨v, h1, h2⟩ := at_ i j e x he hx
    have := hrow (i * sz + j) v (by simpa using h1)
    rw [this]; simp [List.getD, h1]
  · obtain ⟨v, h1, h2⟩ := at_ i j e x he hx
    simp only [List.getD, h1, Option.getD_some]
    exact hv _ x v h2 h1
  · obtain ⟨v, h3, h2⟩ := at_ i j e x he hx
    simp only [List.getD, h3, Option.getD_some]
    exact vd_one (hv _ x v h2 h3) (h1 x (List.mem_of_getElem? h2))

theorem ok_buildSlice (hE : E.OK) {t e len : Nat} {i ei : TInfo} (hi : E.T[t]? = some i) (hei : E.T[e]? = some ei) (hk : i.k = .slice e) {parts : Array (Nat × Operand)} {ps : List (Nat × AV)} (hps : PartsOK E.G s parts.toList ps)
    (hz : ei.zero.length = ei.size) (hpos : 0 < ei.size) (hlen : 0 < len) (hmax : len * ei.size ≤ 16777216) {z : DV} (hzc : z.cells = ei.zero) (hzs : ∀ y ∈ ei.zero, y.scal = true) {stop : Prop} {k : List DV → Prop} (H : elemsK ei.size ps (List.replicate len z) stop k) :
    stop ∨ ∃ l, k l ∧ OpOK E (.buildSlice t len parts) s h (.d (.sl l)) h := by
  have hel : Elems ei.size (List.replicate len z) := fun j e' h' => by
    rw [List.getElem?_replicate] at h'
    split at h'
    · cases h'; rw [hzc, hz]
    · cases h'
  have hsc : Scals (List.replicate len z) := fun j e' h' => by
    rw [List.getElem?_replicate] at h'
    split at h'
    · cases h'; rw [hzc]; exact hzs
    · cases h'
  rcases elemsK_sound hel hsc H with h' | ⟨l, h1, h2, hs2, h3, h4⟩
  · exact .inl h'
  refine .inr ⟨l, h1, fun o c ac e1 e2 e3 e4 => ?_⟩
  subst e2
  obtain ⟨ti, zv, g1, g2, g3, g4⟩ := zeroOf (hE.types e ei hei) hz hpos
  obtain ⟨zs, hzs', hzl⟩ := g4 c
  obtain ⟨p1, p2⟩ := hps c ac e3 e4
  have hzlen : zs.length = ei.size := by rw [← hzl.1]; simpa using hz
  have hinit : VL c ((flat (List.replicate len z)).map .d) ((Array.range (len * ti.size)).map (zv.cells[· % zv.cells.size]!)).toList := by
    refine .mapD (by rw [flat_length hel]; simp [g3]) (fun j x v hx hv => ?_)
    have hj : j < len * ei.size := by
      have := flat_length hel
      rw [List.length_replicate] at this
      rw [← this]
      rcases Nat.lt_or_ge j (flat (List.replicate len z)).length with h | h
      · exact h
      · rw [List.getElem?_eq_none h] at hx; cases hx
    have hd : j / ei.size < len := Nat.div_lt_of_lt_mul (by rw [Nat.mul_comm]; exact hj)
    have hm : j % ei.size < ei.size := Nat.mod_lt _ hpos
    have h5 := flat_get hel (i := j / ei.size) (j := j % ei.size) (e := z) (by simp [hd]) hm
    rw [Nat.mul_comm, Nat.div_add_mod, hx, hzc] at h5
    have hv' : v = zs[j % ei.size]'(by omega) := by
      have hj' : j < len * ti.size := by rw [← g3]; exact hj
      simp [hj', hzs', hzlen] at hv
      rw [← hv]
      simp [hzlen, hm]
    rw [hv']
    exact hzl.ofMapD (j % ei.size) x _ h5.symm (by simp [hzlen, hm])
  obtain ⟨vs', f1, f2⟩ := h4 c _ _ hinit p2
  obtain ⟨ti', d, q1, q2, q3, -⟩ := tinfo_inv (hE.types t i hi)
  obtain rfl := tk_slice (hk.symm.trans q3)
  have eq : (parts.map fun (i, x) => (i, ac.eval x)).toList = (ps.map (·.1)).zip (parts.toList.map fun p => ac.eval p.2) := by
    rw [p1, Array.toList_map]
    generalize parts.toList = q
    induction q with
    | nil => rfl
    | cons a q ih => simp only [List.map_cons, List.zip_cons_cons, ih]
  have hfill : Instr.fill (fun i => some (i * ti.size, ti.size)) ((Array.range (len * ti.size)).map (zv.cells[· % zv.cells.size]!)) (parts.map fun (i, x) => (i, ac.eval x)).toList = some vs'.toArray := by
    rw [eq, ← f1, g3]
  have hrun := run_buildSlice (P := E.P) c.w t e len (parts.map fun (i, x) => (i, ac.eval x)) vs'.toArray ti zv q2 g1 g2 (by rw [← g3]; omega) (by rw [← g3]; have := Nat.mul_pos hlen hpos; omega) hfill
  obtain ⟨k1, k2⟩ := e3.grow ((Proofs.YtklkmdoakhkikaaDoor.Ext.refl c.w).alloc (.cells vs'.toArray e))
  refine ⟨c.inW (c.w.alloc (.cells vs'.toArray e)), .slice (some ⟨c.w.heap.size, 0, none⟩) len len, .inl (by simp only [execOp, e1, Sem.run_bind, hrun, Result.andThen_ok, Sem.run_pure]; rfl), rfl, k1, ?_, k2⟩
  have hll : l.length = len := by rw [h3]; simp
  rw [← hll]
  refine .d _ _ (vd_new hpos h2 ?_ (Nat.le_refl _) (by have := f2.1; simp at this; omega) hs2.flat (fun j x v hx hv => ?_))
  · rintro (hb | ⟨j, n, hj⟩)
    · have := e3.barlt _ hb; omega
    · have := (e3.ownlt j _ n hj).1; omega
  · exact k2.vd (f2.ofMapD j x v hx hv)

theorem blt_pos {a b : Nat} (h : Nat.blt a b = true) : a < b := Nat.le_of_ble_eq_true h

theorem opK_sound (hE : E.OK) {o : Op} {stop : Prop} {k : AV → List Box → Prop} (H : opK E.T E.G o s h stop k) : stop ∨ ∃ v h', k v h' ∧ OpOK E o s h v h' := by
  unfold opK at H
  split at H
  · -- move
    rcases evalK_sound H with h | ⟨v, hv, H⟩
    · exact .inl h
    exact .inr ⟨v, h, H, ok_move hv⟩
  · -- assign
    rcases evalK_sound H with h | ⟨v, hv, H⟩
    · exact .inl h
    exact .inr ⟨v, h, H, ok_assign hv⟩
  · -- box
    rcases evalK_sound H with h | ⟨v, hv, H⟩
    · exact .inl h
    rcases cellsK_sound H with h | ⟨l, hl, H⟩
    · exact .inl h
    rw [snocK_eq, Nat.zero_add] at H
    exact .inr ⟨_, _, H, ok_box hv hl⟩
  · -- alloc
    rcases getK_or H with h | ⟨i, hi, H⟩
    · exact .inl h
    split at H
    · rename_i q1 q2
      rw [mapK_eq, snocK_eq, Nat.zero_add] at H
      exact .inr ⟨_, _, H, ok_alloc hE hi (Nat.eq_of_beq_eq_true q1) (blt_pos q2)⟩
    · exact .inl H
  · -- load
    rcases getK_or H with h | ⟨i, hi, H⟩
    · exact .inl h
    rcases evalK_sound H with h | ⟨a, ha, H⟩
    · exact .inl h
    rcases ok_load hE hi ha H with h | ⟨v, H, hv⟩
    · exact .inl h
    exact .inr ⟨v, h, H, hv⟩
  · -- store
    rcases getK_or H with h | ⟨i, hi, H⟩
    · exact .inl h
    rcases evalK_sound H with h | ⟨a, ha, H⟩
    · exact .inl h
    rcases evalK_sound H with h | ⟨v, hv, H⟩
    · exact .inl h
    rcases ok_store hE hi ha hv H with h | ⟨h', H, ho⟩
    · exact .inl h
    exact .inr ⟨_, h', H, ho⟩
  · -- fieldAddr
    rcases getK_or H with h | ⟨i, hi, H⟩
    · exact .inl h
    rcases fieldOffK_or H with h | ⟨fs, off, ft, hk, hf, H⟩
    · exact .inl h
    rcases getK_or H with h | ⟨fi, hfi, H⟩
    · exact .inl h
    split at H
    · exact .inl H
    rename_i q
    rcases evalK_sound H with h | ⟨a, ha, H⟩
    · exact .inl h
    split at H
    · rcases getK_or H with h | ⟨bx, hb, H⟩
      · exact .inl h
      split at H
      · exact .inr ⟨_, _, H, ok_fieldAddr hE hi hfi (blt_pos q) hk hf ha (.inl ⟨_, _, rfl, rfl, _, hb⟩)⟩
      · exact .inl H
    · exact .inr ⟨_, _, H, ok_fieldAddr hE hi hfi (blt_pos q) hk hf ha (.inr (.inl ⟨_, _, rfl, rfl⟩))⟩
    · rcases getK_or H with h | ⟨bx, hb, H⟩
      · exact .inl h
      split at H
      · split at H
        · rename_i g' ts l _ qg
          have := Nat.eq_of_beq_eq_true qg
          subst this
          exact .inr ⟨_, _, H, ok_fieldAddr hE hi hfi (blt_pos q) hk hf ha (.inr (.inr ⟨_, _, _, _, _, _, rfl, rfl, hb⟩))⟩
        · exact .inl H
      · exact .inl H
    · exact .inl H
  · -- field
    rcases getK_or H with h | ⟨i, hi, H⟩
    · exact .inl h
    rcases fieldOffK_or H with h | ⟨fs, off, ft, hk, hf, H⟩
    · exact .inl h
    rcases getK_or H with h | ⟨fi, hfi, H⟩
    · exact .inl h
    rcases evalK_sound H with h | ⟨a, ha, H⟩
    · exact .inl h
    split at H
    · rcases ok_field hE hi hfi hk hf ha (fun c v hv => vr_agg_inv hv) H with h | ⟨v, H, hv⟩
      · exact .inl h
      exact .inr ⟨_, _, H, hv⟩
    · rw [mapK_eq] at H
      rcases ok_field hE hi hfi hk hf ha (fun c v hv => mapDK_agg hv) H with h | ⟨v, H, hv⟩
      · exact .inl h
      exact .inr ⟨_, _, H, hv⟩
    · exact .inl H
  · -- nilCheck
    rcases evalK_sound H with h | ⟨a, ha, H⟩
    · exact .inl h
    split at H
    · rcases getK_or H with h | ⟨bx, hb, H⟩
      · exact .inl h
      split at H
      · exact .inr ⟨_, _, H, ok_nilCheck ha (.inl ⟨_, _, rfl, _, hb⟩)⟩
      · exact .inl H
    · exact .inr ⟨_, _, H, ok_nilCheck ha (.inr (.inl ⟨_, _, rfl⟩))⟩
    · rcases getK_or H with h | ⟨bx, hb, H⟩
      · exact .inl h
      split at H
      · split at H
        · rename_i g' ts l _ qg
          have := Nat.eq_of_beq_eq_true qg
          subst this
          exact .inr ⟨_, _, H, ok_nilCheck ha (.inr (.inr ⟨_, _, _, _, _, _, rfl, hb⟩))⟩
        · exact .inl H
      · exact .inl H
    · exact .inl H
  · -- binOp
    rcases getK_or H with h | ⟨i, hi, H⟩
    · exact .inl h
    rcases evalK_sound H with h | ⟨a, ha, H⟩
    · exact .inl h
    rcases evalK_sound H with h | ⟨b, hb, H⟩
    · exact .inl h
    split at H
    · split at H
      · rcases ok_div (.inl rfl) ha H with h | ⟨v, H, hv⟩
        · exact .inl h
        exact .inr ⟨_, _, H, hv⟩
      · exact .inl H
    · split at H
      · rcases ok_div (.inr rfl) ha H with h | ⟨v, H, hv⟩
        · exact .inl h
        exact .inr ⟨_, _, H, hv⟩
      · exact .inl H
    · rename_i n1 n2
      rcases ok_bin ⟨n1, n2⟩ (hE.types _ _ hi) ha hb H with h | ⟨v, H, hv⟩
      · exact .inl h
      exact .inr ⟨_, _, H, hv⟩
  · -- not
    rcases evalK_sound H with h | ⟨a, ha, H⟩
    · exact .inl h
    split at H
    · exact .inr ⟨_, _, H, ok_not ha⟩
    · exact .inl H
  · -- neg
    rcases evalK_sound H with h | ⟨a, ha, H⟩
    · exact .inl h
    split at H
    · exact .inr ⟨_, _, H, ok_neg ha⟩
    · exact .inl H
  · -- pick
    rcases evalK_sound H with h | ⟨a, ha, H⟩
    · exact .inl h
    split at H
    · rcases evalK_sound H with h | ⟨v, hv, H⟩
      · exact .inl h
      exact .inr ⟨_, _, H, ok_pickT ha hv⟩
    · rcases evalK_sound H with h | ⟨v, hv, H⟩
      · exact .inl h
      exact .inr ⟨_, _, H, ok_pickF ha hv⟩
    · exact .inl H
  · -- extract
    rcases evalK_sound H with h | ⟨a, ha, H⟩
    · exact .inl h
    split at H
    · rcases getK_or H with h | ⟨v, hv, H⟩
      · exact .inl h
      exact .inr ⟨_, _, H, ok_extract ha hv⟩
    · rcases getK_or H with h | ⟨v, hv, H⟩
      · exact .inl h
      exact .inr ⟨_, _, H, ok_extractD ha hv⟩
    · exact .inl H
  · -- convert
    rcases getK_or H with h | ⟨i0, hi0, H⟩
    · exact .inl h
    rcases getK_or H with h | ⟨i, hi, H⟩
    · exact .inl h
    rcases evalK_sound H with h | ⟨a, ha, H⟩
    · exact .inl h
    split at H
    · rename_i hk
      exact .inr ⟨_, _, H, ok_convInt (hE.types _ _ hi) (hE.types _ _ hi0) hk ha⟩
    · rename_i hk
      exact .inr ⟨_, _, H, ok_convStr (hE.types _ _ hi) (hE.types _ _ hi0) hk ha⟩
    · exact .inl H
  · -- build
    rcases getK_or H with h | ⟨i, hi, H⟩
    · exact .inl h
    rcases partsK_sound H with h | ⟨ps, hps, H⟩
    · exact .inl h
    split at H
    · rename_i q1 q2
      rw [mapK_eq] at H
      have hz := Nat.eq_of_beq_eq_true q1
      have hpos := blt_pos q2
      obtain ⟨ti, d, g1, g2, g3, -⟩ := tinfo_inv (hE.types _ _ hi)
      split at H
      · rename_i fs hk
        obtain ⟨fl, rfl, rfl⟩ := tk_struct (hk.symm.trans g3)
        rcases placesK_sound hE.types H with h | ⟨pl, H, hpl⟩
        · exact .inl h
        rcases fillK_sound H with h | ⟨l, H, hf⟩
        · exact .inl h
        obtain ⟨v, H, hv⟩ := aggK_sound H
        exact .inr ⟨_, _, H, ok_build hE hi hps hz hpos (fun ti z k1 k2 us => built_struct k1 g2 k2 hpl us) hf hv⟩
      · rename_i n e hk
        obtain rfl := tk_array (hk.symm.trans g3)
        rcases getK_or H with h | ⟨ei, hei, H⟩
        · exact .inl h
        rcases fillK_sound H with h | ⟨l, H, hf⟩
        · exact .inl h
        obtain ⟨v, H, hv⟩ := aggK_sound H
        obtain ⟨eti, ed, k1, k2, k3, k4, -⟩ := tinfo_inv (hE.types _ _ hei)
        exact .inr ⟨_, _, H, ok_build hE hi hps hz hpos (fun ti z r1 r2 us => by rw [built_array r1 g2 r2 k1 us, k4]) hf hv⟩
      · exact .inl H
    · exact .inl H
  · -- buildSlice
    rcases getK_or H with h | ⟨i, hi, H⟩
    · exact .inl h
    split at H
    · rename_i e hk
      rcases getK_or H with h | ⟨ei, hei, H⟩
      · exact .inl h
      split at H
      · rename_i q1 q2 q3 q4 q5
        rcases partsK_sound H with h | ⟨ps, hps, H⟩
        · exact .inl h
        split at H
        · rename_i z hz1
          rw [repK_eq] at H
          have hzs : z.scal = true := by rw [hz1] at q5; simpa using q5
          rcases ok_buildSlice hE hi hei hk hps (Nat.eq_of_beq_eq_true q1) (blt_pos q2) (blt_pos q3) (Nat.le_of_ble_eq_true q4) (z := z) (by rw [hz1]; cases z <;> first | rfl | cases hzs) (fun y hy => List.all_eq_true.1 q5 y hy) H with h | ⟨l, H, hl⟩
          · exact .inl h
          exact .inr ⟨_, _, H, hl⟩
        · rw [repK_eq] at H
          rcases ok_buildSlice hE hi hei hk hps (Nat.eq_of_beq_eq_true q1) (blt_pos q2) (blt_pos q3) (Nat.le_of_ble_eq_true q4) (z := .agg ei.zero) rfl (fun y hy => List.all_eq_true.1 q5 y hy) H with h | ⟨l, H, hl⟩
          · exact .inl h
          exact .inr ⟨_, _, H, hl⟩
      · exact .inl H
    · exact .inl H
  · -- makeFunc
    rcases evalsK_sound H with h | ⟨a, ha, H⟩
    · exact .inl h
    rcases evalsK_sound H with h | ⟨b, hb, H⟩
    · exact .inl h
    exact .inr ⟨_, _, H, ok_makeFunc ha hb⟩
  · -- len
    rcases getK_or H with h | ⟨x, hx, H⟩
    · exact .inl h
    rcases getK_or H with h | ⟨t, ht, H⟩
    · exact .inl h
    rcases getK_or H with h | ⟨i, hi, H⟩
    · exact .inl h
    rcases evalK_sound H with h | ⟨a, ha, H⟩
    · exact .inl h
    have hti := hE.types _ _ hi
    split at H
    · rename_i e l hk
      refine .inr ⟨_, _, H, .quiet fun o c ac h1 _ h3 h4 => ⟨_, run_len h1 hx ht hti rfl (.inl ?_), .d _ _ (.int _ _)⟩⟩
      have := ha c ac h3 h4
      generalize ac.eval x = u at this
      cases this with
      | d _ _ hd => cases hd with
        | slnil => exact ⟨e, _, _, hk, rfl⟩
        | slz => exact ⟨e, _, _, hk, rfl⟩
        | sl _ _ _ _ _ _ _ _ _ _ _ _ _ => exact ⟨e, _, _, hk, rfl⟩
    · rename_i l hk
      exact .inr ⟨_, _, H, .quiet fun o c ac h1 _ h3 h4 => ⟨_, run_len h1 hx ht hti (vr_str (ha c ac h3 h4)) (.inr ⟨_, hk, rfl, by simp [ByteArray.size]⟩), .d _ _ (.int _ _)⟩⟩
    · rename_i e hk
      refine .inr ⟨_, _, H, .quiet fun o c ac h1 _ h3 h4 => ⟨.int .i64 (0 : Nat), run_len h1 hx ht hti rfl (.inl ?_), .d _ _ (.int _ _)⟩⟩
      have := ha c ac h3 h4
      generalize ac.eval x = u at this
      cases this with
      | d _ _ hd => cases hd with
        | nilsl => exact ⟨e, _, _, hk, rfl⟩
    · rename_i e b g hk
      rcases getK_or H with h | ⟨bx, hb, H⟩
      · exact .inl h
      split at H
      · split at H
        · rename_i g' ts l _ qg
          have := Nat.eq_of_beq_eq_true qg
          subst this
          refine .inr ⟨_, _, H, .quiet fun o c ac h1 h2 h3 h4 => ⟨_, run_len h1 hx ht hti rfl (.inl ?_), .d _ _ (.int _ _)⟩⟩
          subst h2
          have := ha c ac h3 h4
          generalize ac.eval x = u at this
          cases this with
          | own _ _ _ l' _ _ k1 k2 => rw [hb] at k1; cases k1; exact ⟨e, _, _, hk, rfl⟩
          | ownnil _ _ _ k1 k2 => rw [hb] at k1; cases k1; exact ⟨e, _, _, hk, rfl⟩
          | ownold _ _ g1 _ _ _ k1 k2 _ => rw [hb] at k1; cases k1; omega
          | owngone _ _ _ k1 _ => rw [hb] at k1; cases k1
        · exact .inl H
      · exact .inl H
    · exact .inl H
  · exact .inl H

end
end Go.Eng
