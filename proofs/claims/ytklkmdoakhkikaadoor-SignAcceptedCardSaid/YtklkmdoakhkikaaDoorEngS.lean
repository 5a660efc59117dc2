/- The engine, part S: operations that need a fact: indices, slices of slices, elements of own arrays. No conditions. -/
import Derived.Test.YtklkmdoakhkikaaDoorEngA
namespace Go.Eng
open Go Go.RowKit

/-- The element at an index; it takes so many cells. -/
@[irreducible] def elemP (l : List DV) (sz : Nat) (n : Int) (K : DV → Prop) : Prop := ∃ e, 0 ≤ n ∧ l[n.toNat]? = some e ∧ e.cells.length = sz ∧ K e
theorem elemP_intro {l : List DV} {sz : Nat} {n : Int} {K : DV → Prop} (e : DV) (h0 : 0 ≤ n) (he : l[n.toNat]? = some e) (hs : e.cells.length = sz) (k : K e) : elemP l sz n K := by unfold elemP; exact ⟨e, h0, he, hs, k⟩
theorem elemP_elim {l : List DV} {sz : Nat} {n : Int} {K : DV → Prop} (h : elemP l sz n K) : ∃ e, 0 ≤ n ∧ l[n.toNat]? = some e ∧ e.cells.length = sz ∧ K e := by unfold elemP at h; exact h
/-- The byte at an index. -/
@[irreducible] def byteP (s : List UInt8) (n : Int) (K : UInt8 → Prop) : Prop := ∃ b, 0 ≤ n ∧ s[n.toNat]? = some b ∧ K b
theorem byteP_intro {s : List UInt8} {n : Int} {K : UInt8 → Prop} (b : UInt8) (h0 : 0 ≤ n) (hb : s[n.toNat]? = some b) (k : K b) : byteP s n K := by unfold byteP; exact ⟨b, h0, hb, k⟩
theorem byteP_elim {s : List UInt8} {n : Int} {K : UInt8 → Prop} (h : byteP s n K) : ∃ b, 0 ≤ n ∧ s[n.toNat]? = some b ∧ K b := by unfold byteP at h; exact h
/-- An element of an array's cells. -/
@[irreducible] def cellP (c : List DV) (len sz : Nat) (n : Int) (K : DV → Prop) : Prop := ∃ e, 0 ≤ n ∧ n < len ∧ 0 < sz ∧ (c.drop (n.toNat * sz)).take sz = e.cells ∧ e.cells.length = sz ∧ K e
theorem cellP_intro {c : List DV} {len sz : Nat} {n : Int} {K : DV → Prop} (e : DV) (h0 : 0 ≤ n) (h1 : n < len) (hz : 0 < sz) (he : (c.drop (n.toNat * sz)).take sz = e.cells) (hs : e.cells.length = sz) (k : K e) : cellP c len sz n K := by unfold cellP; exact ⟨e, h0, h1, hz, he, hs, k⟩
theorem cellP_elim {c : List DV} {len sz : Nat} {n : Int} {K : DV → Prop} (h : cellP c len sz n K) : ∃ e, 0 ≤ n ∧ n < len ∧ 0 < sz ∧ (c.drop (n.toNat * sz)).take sz = e.cells ∧ e.cells.length = sz ∧ K e := by unfold cellP at h; exact h

/-- A bound of a slice expression. -/
def boundK (G : List (Nat × DV)) (s : List AV) (x : Option Operand) (stop : Prop) (k : Option Int → Prop) : Prop :=
  match x with
  | none => k none
  | some x => evalK G s x stop fun
    | .d (.int _ n) => k (some n)
    | _ => stop

/-- An element of an own array, written at a place. -/
def putElem1K (e : DV) (off : Nat) (ds : List DV) (stop : Prop) (k : DV → Prop) : Prop :=
  match e with
  | .agg c => match Nat.ble (off + ds.length) c.length with
    | true => splK c off ds fun c' => k (.agg c')
    | false => stop
  | _ => match off, ds with
    | 0, [d] => match d.scal with
      | true => k d
      | false => stop
    | _, _ => stop
def putElemK (e : DV) (off : Nat) (vs : List AV) (stop : Prop) (k : DV → Prop) : Prop := allDK vs stop fun ds => putElem1K e off ds stop k

def sideK (T : List TInfo) (G : List (Nat × DV)) (o : Op) (s : List AV) (h : List Box) (stop : Prop) (k : AV → List Box → Prop) : Prop :=
  match o with
  | .indexAddr t x i => getK T t stop fun ti => evalK G s x stop fun a => evalK G s i stop fun
    | .d (.int _ n) => match ti.k with
      | .slice e => getK T e stop fun ei => match a with
        | .d (.sl l) => match Nat.blt 0 ei.size with
          | true => elemP l ei.size n fun e => k (.eptr e 0) h
          | false => stop
        | .own b g => getK h b stop fun
          | .arr g' ts l => match Nat.beq g g', Nat.beq ts.2 ei.size with
            | true, true => need (0 ≤ n ∧ n < l.length) (k (.aptr b g n.toNat 0) h)
            | _, _ => stop
          | _ => stop
        | _ => stop
      | .array len e => getK T e stop fun ei => match a with
        | .eptr (.agg c) 0 => cellP c len ei.size n fun e' => k (.eptr e' 0) h
        | _ => stop
      | _ => stop
    | _ => stop
  | .index t x i => getK T t stop fun ti => evalK G s x stop fun a => evalK G s i stop fun
    | .d (.int _ n) => match ti.k, a with
      | .string, .d (.str l) => byteP l n fun b => k (.d (.int .u8 b.toNat)) h
      | _, _ => stop
    | _ => stop
  | .slice t x lo hi none => getK T t stop fun ti => evalK G s x stop fun a => boundK G s lo stop fun l => boundK G s hi stop fun u => match ti.k, a with
    | .string, .d (.str z) => need (0 ≤ l.getD 0 ∧ l.getD 0 ≤ u.getD z.length ∧ u.getD z.length ≤ z.length) (k (.d (.str ((z.take (u.getD z.length).toNat).drop (l.getD 0).toNat))) h)
    | .slice e, .d (.sl z) => getK T e stop fun ei => need (0 ≤ l.getD 0 ∧ l.getD 0 ≤ u.getD z.length ∧ u.getD z.length ≤ z.length ∧ ∀ e ∈ z, e.cells.length = ei.size) (k (.d (.sl ((z.take (u.getD z.length).toNat).drop (l.getD 0).toNat))) h)
    | _, _ => stop
  | .load t x => getK T t stop fun ti => evalK G s x stop fun
    | .aptr b g i off => getK h b stop fun
      | .arr g' ts l => match Nat.beq g g' with
        | true => elemP l ts.2 i fun e => match e with
          | .agg c => mapK .d c fun c' => partK ti c' off stop fun v => k v h
          | e => partK ti [.d e] off stop fun v => k v h
        | false => stop
      | _ => stop
    | _ => stop
  | .store t x y => getK T t stop fun ti => evalK G s y stop fun v => evalK G s x stop fun
    | .aptr b g i off => getK h b stop fun
      | .arr g' ts l => match Nat.beq g g' with
        | true => cellsK v stop fun vs => match Nat.beq vs.length ti.size, vs.all AV.scal with
          | true, true => elemP l ts.2 i fun e => putElemK e off vs stop fun e' => setK h b (.arr g ts (l.set i e')) fun h' => k (.d .undef) h'
          | _, _ => stop
        | false => stop
      | _ => stop
    | _ => stop
  | o => appK T G o s h stop k

section
variable {E : Env} {s : List AV} {h : List Box} {c : Cx}

theorem run_indexAt {P : Program} {t e : Nat} {i ei : TInfo} (ht : tinfo P t = some i) (hte : tinfo P e = some ei) (hk : i.k = .slice e) {j : IntKind} {n : Int} {b o len cap : Nat} {w : World} (h0 : 0 ≤ n) (h1 : n < len) :
    (Instr.indexAt t (.slice (some ⟨b, o, none⟩) len cap) (.int j n)).run P w = .ok (.pointer (some ⟨b, o + n.toNat * ei.size, none⟩)) w := by
  obtain ⟨ti, d, g1, g2, g3, -⟩ := tinfo_inv ht
  obtain rfl := tk_slice (hk.symm.trans g3)
  simp only [Instr.indexAt, asIntOf, Sem.run_bind, Sem.run_pure, Result.andThen_ok, run_underlying g2, h0, h1, and_self, if_true, run_sizeOf hte, add_at]

theorem run_execIndexAddr {P : Program} {o : Oper} {ac : Act} {w : World} {t : Nat} {x i : Operand} {v : Value} (h1 : o.op = .indexAddr t x i) (hr : (Instr.indexAt t (ac.eval x) (ac.eval i)).run P w = .ok v w) : (execOp ac.eval o).run P w = .ok (.value v) w := by
  simp only [execOp, h1, Sem.run_bind, hr, Result.andThen_ok, Sem.run_pure]

/-- An element of a slice that stays as it is. -/
theorem eptr_of_sl {l : List DV} {v : Value} (hv : VR c (.d (.sl l)) v) {n sz : Nat} {e : DV} (he : l[n]? = some e) (hs : e.cells.length = sz) (hpos : 0 < sz) : ∃ blk off cap, v = .slice (some ⟨blk, off, none⟩) l.length cap ∧ VR c (.eptr e 0) (.pointer (some ⟨blk, off + n * sz, none⟩)) := by
  cases hv with
  | d _ _ hd => cases hd with
    | slnil => simp at he
    | slz => simp at he
    | sl _ blk off cap sz' f hb hsz hcap hlen hcell hval hone =>
      obtain rfl : sz' = sz := (hlen n e he).symm.trans hs
      refine ⟨blk, off, cap, rfl, ?_⟩
      have hne : l ≠ [] := fun h0 => by subst h0; simp at he
      have := VR.eptr (c := c) e 0 blk (off + n * sz') (fun j => f n j) (hb hne) (fun h0 => by rw [h0] at hs; simp at hs; omega) (fun j x hx => by rw [Nat.add_assoc]; exact hcell n j e x he hx) (fun j x hx => hval n j e x he hx)
      exact this

theorem ok_indexSl (hE : E.OK) {t e : Nat} {x i : Operand} {ti ei : TInfo} (hti : E.T[t]? = some ti) (hei : E.T[e]? = some ei) (hk : ti.k = .slice e) {l : List DV} {j : IntKind} {n : Int} (hx : EvOK E.G s x (.d (.sl l))) (hi : EvOK E.G s i (.d (.int j n))) (hpos : 0 < ei.size) {y : DV} (h0 : 0 ≤ n) (hy : l[n.toNat]? = some y) (hs : y.cells.length = ei.size) :
    OpOK E (.indexAddr t x i) s h (.eptr y 0) h := .quiet fun o c ac h1 _ h3 h4 => by
  obtain ⟨blk, off, cap, e1, e2⟩ := eptr_of_sl (hx c ac h3 h4) hy hs hpos
  refine ⟨_, run_execIndexAddr h1 ?_, e2⟩
  rw [e1, vr_int (hi c ac h3 h4)]
  have := lt_of_getElem? hy
  exact run_indexAt (hE.types t ti hti) (hE.types e ei hei) hk h0 (by omega)

theorem vr_aptr {b g i off : Nat} {ts : Nat × Nat} {l : List DV} (hb : c.heap[b]? = some (.arr g ts l)) {v : Value} (hv : VR c (.aptr b g i off) v) : ∃ blk cap, c.own b = some (blk, cap) ∧ v = .pointer (some ⟨blk, i * ts.2 + off, none⟩) ∧ i < l.length := by
  cases hv with
  | aptr _ _ _ _ _ l' blk cap k1 k2 k3 => rw [hb] at k1; cases k1; exact ⟨blk, cap, k2, rfl, k3⟩
  | aptrold _ _ g' _ _ _ _ _ k1 k2 _ => rw [hb] at k1; cases k1; omega
  | aptrgone _ _ _ _ _ k1 _ => rw [hb] at k1; cases k1

theorem ok_indexOwn (hE : E.OK) {t e : Nat} {x i : Operand} {ti ei : TInfo} (hti : E.T[t]? = some ti) (hei : E.T[e]? = some ei) (hk : ti.k = .slice e) {b g : Nat} {ts : Nat × Nat} {l : List DV} (hb : h[b]? = some (.arr g ts l)) (hts : ts.2 = ei.size) {j : IntKind} {n : Int} (hx : EvOK E.G s x (.own b g)) (hi : EvOK E.G s i (.d (.int j n))) (h0 : 0 ≤ n) (h1 : n < l.length) :
    OpOK E (.indexAddr t x i) s h (.aptr b g n.toNat 0) h := .quiet fun o c ac e1 e2 h3 h4 => by
  subst e2
  rcases vr_own hb (hx c ac h3 h4) with ⟨blk, cap, q1, q2⟩ | ⟨rfl, -, -⟩
  · refine ⟨_, run_execIndexAddr e1 (v := .pointer (some ⟨blk, 0 + n.toNat * ei.size, none⟩)) ?_, ?_⟩
    · rw [q2, vr_int (hi c ac h3 h4)]
      exact run_indexAt (hE.types t ti hti) (hE.types e ei hei) hk h0 h1
    · have := VR.aptr (c := c) b g n.toNat 0 ts l blk cap hb q1 (by omega)
      rw [hts] at this
      simpa using this
  · simp at h1; omega

theorem ok_indexArr (hE : E.OK) {t e len : Nat} {x i : Operand} {ti ei : TInfo} (hti : E.T[t]? = some ti) (hei : E.T[e]? = some ei) (hk : ti.k = .array len e) {cs : List DV} {j : IntKind} {n : Int} (hx : EvOK E.G s x (.eptr (.agg cs) 0)) (hi : EvOK E.G s i (.d (.int j n))) {y : DV} (h0 : 0 ≤ n) (h1 : n < len) (hpos : 0 < ei.size) (hy : (cs.drop (n.toNat * ei.size)).take ei.size = y.cells) (hs : y.cells.length = ei.size) :
    OpOK E (.indexAddr t x i) s h (.eptr y 0) h := .quiet fun o c ac e1 _ h3 h4 => by
  obtain ⟨tyi, d, g1, g2, g3, -⟩ := tinfo_inv (hE.types t ti hti)
  obtain rfl := tk_array (hk.symm.trans g3)
  have key : ∀ p, VR c (.eptr (.agg cs) 0) p → ∃ blk o', p = .pointer (some ⟨blk, o', none⟩) ∧ VR c (.eptr y 0) (.pointer (some ⟨blk, o' + n.toNat * ei.size, none⟩)) := fun p hp => by
    cases hp with
    | eptr _ _ blk o' f k1 k2 k3 k4 =>
      have hget : ∀ (jj : Nat) (z : DV), y.cells[jj]? = some z → cs[n.toNat * ei.size + jj]? = some z := fun jj z hz => by
        rw [← hy, List.getElem?_take] at hz
        split at hz
        · simpa using hz
        · cases hz
      exact ⟨blk, o' + 0, rfl, VR.eptr y 0 blk (o' + 0 + n.toNat * ei.size) (fun jj => f (n.toNat * ei.size + jj)) k1 (fun hh => by rw [hh] at hs; simp at hs; omega) (fun jj z hz => by rw [Nat.add_zero, Nat.add_assoc]; exact k3 _ z (hget jj z hz)) (fun jj z hz => k4 _ z (hget jj z hz))⟩
  obtain ⟨blk, o', q1, q2⟩ := key _ (hx c ac h3 h4)
  refine ⟨_, run_execIndexAddr e1 ?_, q2⟩
  rw [q1, vr_int (hi c ac h3 h4)]
  simp only [Instr.indexAt, asIntOf, Sem.run_bind, Sem.run_pure, Result.andThen_ok, run_underlying g2, Instr.sureAddr, h0, h1, and_self, if_true, run_sizeOf (hE.types e ei hei), add_at]

theorem ok_indexStr (hE : E.OK) {t : Nat} {x i : Operand} {ti : TInfo} (hti : E.T[t]? = some ti) (hk : ti.k = .string) {l : List UInt8} {j : IntKind} {n : Int} (hx : EvOK E.G s x (.d (.str l))) (hi : EvOK E.G s i (.d (.int j n))) {b : UInt8} (h0 : 0 ≤ n) (hb : l[n.toNat]? = some b) :
    OpOK E (.index t x i) s h (.d (.int .u8 b.toNat)) h := .quiet fun o c ac e1 _ h3 h4 => by
  obtain ⟨tyi, d, g1, g2, g3, -⟩ := tinfo_inv (hE.types t ti hti)
  obtain rfl := tk_string (hk.symm.trans g3)
  have hlt := lt_of_getElem? hb
  have hget : (ByteArray.mk l.toArray)[n.toNat]? = some b := by
    have hs : n.toNat < (ByteArray.mk l.toArray).size := by simpa [ByteArray.size] using hlt
    rw [getElem?_pos (ByteArray.mk l.toArray) n.toNat hs]
    have := List.getElem?_eq_getElem hlt
    rw [hb] at this
    simpa [ByteArray.getElem_eq_getElem_data] using this.symm
  refine ⟨.int .u8 b.toNat, ?_, .d _ _ (.int _ _)⟩
  simp only [execOp, e1, vr_str (hx c ac h3 h4), vr_int (hi c ac h3 h4), Instr.index, asIntOf, Sem.run_bind, Sem.run_pure, Result.andThen_ok, run_underlying g2, h0, if_true, hget]

/-- What a bound is. -/
def BoundOK (G : List (Nat × DV)) (s : List AV) (x : Option Operand) (n : Option Int) : Prop := ∀ (c : Cx) (a : Act), HOk G c → VS c s a.tmps → match n with
  | none => x.map a.eval = none
  | some n => ∃ j, x.map a.eval = some (.int j n)

theorem boundK_sound {x : Option Operand} {stop : Prop} {k : Option Int → Prop} (H : boundK E.G s x stop k) : stop ∨ ∃ n, BoundOK E.G s x n ∧ k n := by
  unfold boundK at H
  split at H
  · exact .inr ⟨none, fun _ _ _ _ => rfl, H⟩
  · rcases evalK_sound H with h | ⟨v, hv, H⟩
    · exact .inl h
    split at H
    · rename_i j n
      refine .inr ⟨some n, fun c a h1 h2 => ?_, H⟩
      show ∃ j, _ = some (Value.int j n)
      exact ⟨j, by simp [vr_int (hv c a h1 h2)]⟩
    · exact .inl H

theorem run_bounds {P : Program} {w : World} {isSlice : Bool} {len cap : Nat} {lo hi : Option Value} {l u : Option Int} (hl : match l with | none => lo = none | some n => ∃ j, lo = some (.int j n)) (hu : match u with | none => hi = none | some n => ∃ j, hi = some (.int j n))
    (h0 : 0 ≤ l.getD 0) (h1 : l.getD 0 ≤ u.getD len) (h2 : u.getD len ≤ len) (hc : len ≤ cap) :
    (Instr.sliceBounds isSlice len cap lo hi none).run P w = .ok ((l.getD 0).toNat, (u.getD len).toNat, cap) w := by
  cases l with
  | none =>
    simp only at hl
    subst hl
    cases u with
    | none =>
      simp only at hu
      subst hu
      simp only [Instr.sliceBounds, Sem.run_bind, Sem.run_pure, Result.andThen_ok, Option.getD_none, Int.toNat_natCast, Int.toNat_zero]
    | some n =>
      obtain ⟨j, rfl⟩ := hu
      simp only [Option.getD_some, Option.getD_none] at h1 h2
      simp only [Instr.sliceBounds, Sem.run_bind, Sem.run_pure, Result.andThen_ok, Option.getD_none, Option.getD_some, Int.toNat_zero, run_sliceBound w j n cap _ h1 (by omega)]
  | some m =>
    obtain ⟨i, rfl⟩ := hl
    cases u with
    | none =>
      simp only at hu
      subst hu
      simp only [Option.getD_some, Option.getD_none] at h0 h1
      simp only [Instr.sliceBounds, Sem.run_bind, Sem.run_pure, Result.andThen_ok, Option.getD_none, Option.getD_some, Int.toNat_natCast, run_sliceBound w i m len _ h0 h1]
    | some n =>
      obtain ⟨j, rfl⟩ := hu
      simp only [Option.getD_some] at h0 h1 h2
      simp only [Instr.sliceBounds, Sem.run_bind, Sem.run_pure, Result.andThen_ok, Option.getD_some, run_sliceBound w j n cap _ (by omega) (by omega), run_sliceBound w i m n.toNat _ h0 (by omega)]

theorem extract_str (l : List UInt8) (a b : Nat) : (ByteArray.mk l.toArray).extract a b = ByteArray.mk ((l.take b).drop a).toArray := by
  apply ByteArray.ext
  simp [List.extract_eq_take_drop, List.drop_take]

theorem ok_sliceStr (hE : E.OK) {t : Nat} {x : Operand} {lo hi : Option Operand} {ti : TInfo} (hti : E.T[t]? = some ti) (hk : ti.k = .string) {z : List UInt8} {l u : Option Int} (hx : EvOK E.G s x (.d (.str z))) (hl : BoundOK E.G s lo l) (hu : BoundOK E.G s hi u)
    (h0 : 0 ≤ l.getD 0) (h1 : l.getD 0 ≤ u.getD z.length) (h2 : u.getD z.length ≤ z.length) : OpOK E (.slice t x lo hi none) s h (.d (.str ((z.take (u.getD z.length).toNat).drop (l.getD 0).toNat))) h := .quiet fun o c ac e1 _ h3 h4 => by
  obtain ⟨tyi, d, g1, g2, g3, -⟩ := tinfo_inv (hE.types t ti hti)
  obtain rfl := tk_string (hk.symm.trans g3)
  have hsz : (ByteArray.mk z.toArray).size = z.length := by simp [ByteArray.size]
  have hb := run_bounds (P := E.P) (w := c.w) (isSlice := false) (len := z.length) (cap := z.length) (hl c ac h3 h4) (hu c ac h3 h4) h0 h1 h2 (Nat.le_refl _)
  refine ⟨_, ?_, .d _ _ (.str _)⟩
  simp only [execOp, e1, vr_str (hx c ac h3 h4), Instr.sliceAt, Instr.slice, Sem.run_bind, Sem.run_pure, Result.andThen_ok, run_underlying g2, Option.map_none, Option.isSome_none, Bool.false_eq_true, if_false, hsz, hb, extract_str]

theorem vd_slice {bad : Nat → Prop} {w : World} {z : List DV} {v : Value} (hv : VD bad w (.sl z) v) {lo hi sz : Nat} (h1 : lo ≤ hi) (h2 : hi ≤ z.length) (hsz : ∀ e ∈ z, e.cells.length = sz) : ∃ a cap, v = .slice a z.length cap ∧ z.length ≤ cap ∧ VD bad w (.sl ((z.take hi).drop lo)) (.slice (if cap = lo then a else a.map (·.add (lo * sz))) (hi - lo) (cap - lo)) := by
  have hlen : ((z.take hi).drop lo).length = hi - lo := by simp; omega
  cases hv with
  | slnil =>
    simp at h2
    subst h2
    simp at h1
    subst h1
    exact ⟨none, 0, rfl, Nat.le_refl _, by simpa using VD.slnil⟩
  | slz a =>
    simp at h2
    subst h2
    simp at h1
    subst h1
    exact ⟨some a, 0, rfl, Nat.le_refl _, by simpa using VD.slz a⟩
  | sl _ blk off cap sz' f hb hsz' hcap hlen' hcell hval hone =>
    refine ⟨some ⟨blk, off, none⟩, cap, rfl, hcap, ?_⟩
    by_cases hc : cap = lo
    · have : hi = lo := by omega
      subst this
      have e : (z.take hi).drop hi = [] := by simp
      rw [e, if_pos hc, Nat.sub_self]
      exact .sl [] blk off (cap - hi) sz' f (fun h => absurd rfl h) hsz' (Nat.zero_le _) (fun i e he => by simp at he) (fun i j e x he => by simp at he) (fun i j e x he => by simp at he) (fun i j e x he => by simp at he)
    · rw [if_neg hc, ← hlen]
      simp only [Option.map_some, add_at]
      have hget : ∀ (i : Nat) (e : DV), ((z.take hi).drop lo)[i]? = some e → z[lo + i]? = some e := fun i e he => by
        simp only [List.getElem?_drop, List.getElem?_take] at he
        split at he
        · exact he
        · cases he
      by_cases hne : (z.take hi).drop lo = []
      · rw [hne]
        exact .sl [] blk _ (cap - lo) sz' f (fun h => absurd rfl h) hsz' (Nat.zero_le _) (fun i e he => by simp at he) (fun i j e x he => by simp at he) (fun i j e x he => by simp at he) (fun i j e x he => by simp at he)
      · obtain ⟨e0, r, hr⟩ := List.exists_cons_of_ne_nil hne
        have he0 := hget 0 e0 (by rw [hr]; rfl)
        have hzz : sz' = sz := (hlen' _ _ he0).symm.trans (hsz e0 (List.mem_of_getElem? he0))
        subst hzz
        refine .sl _ blk (off + lo * sz') (cap - lo) sz' (fun i j => f (lo + i) j) (fun _ => hb (fun h => by subst h; simp at he0)) hsz' (by rw [hlen]; omega) (fun i e he => hlen' _ _ (hget i e he)) (fun i j e x he hx => ?_) (fun i j e x he hx => hval _ _ _ _ (hget i e he) hx) (fun i j e x he hx => hone _ _ _ _ (hget i e he) hx)
        have := hcell _ _ _ _ (hget i e he) hx
        rw [Nat.add_mul] at this
        rw [show off + lo * sz' + (i * sz' + j) = off + (lo * sz' + i * sz' + j) by omega]
        exact this

theorem ok_sliceSl (hE : E.OK) {t e : Nat} {x : Operand} {lo hi : Option Operand} {ti ei : TInfo} (hti : E.T[t]? = some ti) (hei : E.T[e]? = some ei) (hk : ti.k = .slice e) {z : List DV} {l u : Option Int} (hx : EvOK E.G s x (.d (.sl z))) (hl : BoundOK E.G s lo l) (hu : BoundOK E.G s hi u)
    (h0 : 0 ≤ l.getD 0) (h1 : l.getD 0 ≤ u.getD z.length) (h2 : u.getD z.length ≤ z.length) (hsz : ∀ e ∈ z, e.cells.length = ei.size) : OpOK E (.slice t x lo hi none) s h (.d (.sl ((z.take (u.getD z.length).toNat).drop (l.getD 0).toNat))) h := .quiet fun o c ac e1 _ h3 h4 => by
  obtain ⟨tyi, d, g1, g2, g3, -⟩ := tinfo_inv (hE.types t ti hti)
  obtain rfl := tk_slice (hk.symm.trans g3)
  have hv := hx c ac h3 h4
  generalize hev : ac.eval x = v at hv
  cases hv with
  | d _ _ hv =>
    obtain ⟨a, cap, rfl, hcap, hd⟩ := vd_slice hv (lo := (l.getD 0).toNat) (hi := (u.getD z.length).toNat) (by omega) (by omega) hsz
    have hb := run_bounds (P := E.P) (w := c.w) (isSlice := true) (len := z.length) (cap := cap) (hl c ac h3 h4) (hu c ac h3 h4) h0 h1 h2 hcap
    refine ⟨_, ?_, .d _ _ hd⟩
    simp only [execOp, e1, hev, Instr.sliceAt, Instr.slice, Sem.run_bind, Sem.run_pure, Result.andThen_ok, run_underlying g2, Option.map_none, hb, run_sizeOf (hE.types e ei hei)]

/-- The cells of an own array's element. -/
theorem HOk.elem {G : List (Nat × DV)} (ho : HOk G c) {b g : Nat} {ts : Nat × Nat} {l : List DV} (hb : c.heap[b]? = some (.arr g ts l)) {blk cap : Nat} (hown : c.own b = some (blk, cap)) {i : Nat} {e : DV} (he : l[i]? = some e) :
    ∃ (vs : Array Value) (us : List Value), c.w.heap[blk]? = some (.cells vs ts.1 (0, 0)) ∧ us.length = ts.2 ∧ RowAt c.w blk (i * ts.2) us ∧ VL c (e.cells.map .d) us ∧ i * ts.2 + ts.2 ≤ vs.size := by
  obtain ⟨q0, q1, q2⟩ := ho.box b _ hb
  rcases q2 with ⟨q2, -⟩ | ⟨blk', cap', vs, q2, q3, q4, q5, q6, q7⟩
  · rw [hown] at q2; cases q2
  · rw [hown] at q2; cases q2
    have hlen := q1 i e he
    have hi := lt_of_getElem? he
    have hfit : i * ts.2 + ts.2 ≤ vs.size := by
      rw [q4]
      calc i * ts.2 + ts.2 = (i + 1) * ts.2 := by rw [Nat.add_mul, Nat.one_mul]
        _ ≤ cap * ts.2 := Nat.mul_le_mul_right _ (by omega)
    refine ⟨vs, (vs.toList.drop (i * ts.2)).take ts.2, q3, by simp; omega, fun j v hv => ?_, .mapD (by simp [hlen]; omega) (fun j x v hx hv => ?_), hfit⟩
    · rw [List.getElem?_take] at hv
      split at hv
      · rw [List.getElem?_drop] at hv
        have := row_of_block q3 (i * ts.2 + j) v hv
        simpa using this
      · cases hv
    · obtain ⟨u, k1, -, k2⟩ := q7 i j e x he hx
      rw [List.getElem?_take] at hv
      split at hv
      · rw [List.getElem?_drop] at hv
        have : vs[i * ts.2 + j]? = some v := by simpa using hv
        rw [k1] at this; cases this
        exact k2
      · cases hv

theorem ok_loadArr (hE : E.OK) {t : Nat} {x : Operand} {ti : TInfo} (hti : E.T[t]? = some ti) {b g i off : Nat} {ts : Nat × Nat} {l : List DV} (hb : h[b]? = some (.arr g ts l)) (hx : EvOK E.G s x (.aptr b g i off)) {e : DV} (he : l[i]? = some e) {stop : Prop} {k : AV → Prop} {cs : List AV} (hcs : cs = e.cells.map .d) (H : partK ti cs off stop k) :
    stop ∨ ∃ v, k v ∧ OpOK E (.load t x) s h v h := by
  rcases partK_sound H with h1 | ⟨v, hk, hp⟩
  · exact .inl h1
  refine .inr ⟨v, hk, .quiet fun o c ac h1 h2 h3 h4 => ?_⟩
  subst h2
  obtain ⟨blk, cap, q1, q2, q3⟩ := vr_aptr hb (hx c ac h3 h4)
  obtain ⟨vs, us, r1, r2, r3, r4, r5⟩ := h3.elem hb q1 he
  obtain ⟨u, hu, hvu⟩ := hp E.P t c blk (i * ts.2) us (hE.types t ti hti) (by rw [hcs]; exact r4) r3
  refine ⟨u, ?_, hvu⟩
  simp only [execOp, h1, q2, Sem.run_bind, hu, Result.andThen_ok, Sem.run_pure]

/-- An own array's element is written over. -/
theorem HOk.writeArr {G : List (Nat × DV)} (ho : HOk G c) {b g blk cap : Nat} {ts : Nat × Nat} {l : List DV} {vs : Array Value} (hb : c.heap[b]? = some (.arr g ts l)) (hown : c.own b = some (blk, cap)) (hblk : c.w.heap[blk]? = some (.cells vs ts.1 (0, 0)))
    {i off : Nat} {e e' : DV} (he : l[i]? = some e) (hs : e'.cells.length = ts.2) {us : List Value} (hfit : off + us.length ≤ ts.2) (hone : ∀ u ∈ us, u.oneCell' = true)
    (hv : ∀ (j : Nat) (x : DV), e'.cells[j]? = some x → (off ≤ j ∧ ∃ v, us[j - off]? = some v ∧ VD c.bad c.w x v) ∨ ((j < off ∨ off + us.length ≤ j) ∧ e.cells[j]? = some x)) :
    let c' : Cx := { c with heap := c.heap.set b (.arr g ts (l.set i e')), w := c.w.setCells blk (i * ts.2 + off) us }
    HOk G c' ∧ Step c c' := by
  intro c'
  obtain ⟨e1, e2, e3, e4⟩ := setCells_os blk us (i * ts.2 + off) c.w
  have hbl : b < c.heap.length := (ho.ownlt b blk cap hown).2
  have hst : Step c c' := {
    bar := rfl
    barlt := ho.barlt
    os := e1
    tape := e2
    output := e3
    size := Nat.le_of_eq e4.symm
    keep := fun x _ hn => setCells_other blk us _ c.w x (fun e => hn b cap (by rw [e]; exact hown))
    newown := fun i x n hi _ => ⟨i, n, hi⟩
    boxes := fun k bx hk => by
      by_cases hkb : k = b
      · subst hkb
        rw [hb] at hk
        cases hk
        exact .inl ⟨g, l.set i e', by show (c.heap.set k _)[k]? = _; rw [List.getElem?_set_self hbl], .inr ⟨rfl, by simp, rfl⟩⟩
      · have h' : c'.heap[k]? = some bx := by show (c.heap.set b _)[k]? = _; rw [List.getElem?_set_ne (Ne.symm hkb)]; exact hk
        cases bx with
        | cells cs => exact .inl ⟨cs, h', rfl, rfl⟩
        | arr g sz l => exact .inl ⟨g, l, h', .inr ⟨rfl, rfl, rfl⟩⟩
        | map es => exact .inl ⟨es, h', rfl⟩
        | gone => exact h' }
  refine ⟨ho.next hst (fun k x n hk => ⟨by show x < (c.w.setCells blk _ us).heap.size; rw [e4]; exact (ho.ownlt k x n hk).1, by show k < (c.heap.set b _).length; rw [List.length_set]; exact (ho.ownlt k x n hk).2⟩) ho.inj (fun k bx hk => ?_), hst⟩
  by_cases hkb : k = b
  · subst hkb
    have hk' : (c.heap.set k (.arr g ts (l.set i e')))[k]? = some bx := hk
    rw [List.getElem?_set_self hbl] at hk'
    cases hk'
    right
    obtain ⟨q0, q1, q2⟩ := ho.box k _ hb
    rcases q2 with ⟨q2, -⟩ | ⟨blk', cap', vs', q2, q3, q4, q5, q6, q7⟩
    · rw [hown] at q2; cases q2
    · rw [hown] at q2; cases q2
      rw [hblk] at q3; cases q3
      have hil := lt_of_getElem? he
      have hlen2 : Elems ts.2 (l.set i e') := Elems.set q1 i hs
      refine ⟨q0, hlen2, .inr ⟨blk, cap, (spl vs.toList (i * ts.2 + off) us).toArray, hown, setCells_at blk ts.1 (0, 0) us _ c.w vs hblk, by simp [spl_length, q4], by simpa using q5, q6, fun i' j e2 x h2 hx => ?_⟩⟩
      have hj : j < ts.2 := by rw [← hlen2 i' e2 h2]; exact lt_of_getElem? hx
      have hget : ∀ (p : Nat), (spl vs.toList (i * ts.2 + off) us)[p]? = if i * ts.2 + off ≤ p ∧ p < i * ts.2 + off + us.length ∧ p < vs.size then us[p - (i * ts.2 + off)]? else vs[p]? := by
        intro p
        have gen : ∀ (us : List Value) (o : Nat) (q : List Value), (spl q o us)[p]? = if o ≤ p ∧ p < o + us.length ∧ p < q.length then us[p - o]? else q[p]? := by
          intro us
          induction us with
          | nil => intro o q; rw [if_neg (by simp; omega)]; rfl
          | cons u us ih =>
            intro o q
            rw [spl, ih]
            by_cases hp : o = p
            · subst hp
              rw [if_neg (by omega)]
              by_cases hq : o < q.length
              · rw [if_pos (by simp; omega), List.getElem?_set_self hq]; simp
              · rw [if_neg (by omega), List.getElem?_eq_none (by simp; omega), List.getElem?_eq_none (by omega)]
            · by_cases hc : o + 1 ≤ p ∧ p < o + 1 + us.length ∧ p < q.length
              · rw [if_pos (by simpa using hc), if_pos (by simp; omega)]
                rw [show p - o = (p - (o + 1)) + 1 by omega]
                simp
              · rw [if_neg (by simpa using hc), if_neg (by simp; omega), List.getElem?_set_ne hp]
        have := gen us (i * ts.2 + off) vs.toList
        simpa using this
      have hcapsz : i * ts.2 + ts.2 ≤ vs.size := by
        rw [q4]
        calc i * ts.2 + ts.2 = (i + 1) * ts.2 := by rw [Nat.add_mul, Nat.one_mul]
          _ ≤ cap * ts.2 := Nat.mul_le_mul_right _ (by omega)
      show ∃ v, (spl vs.toList (i * ts.2 + off) us).toArray[i' * ts.2 + j]? = some v ∧ _
      rw [List.getElem?_toArray, hget]
      by_cases hii : i' = i
      · subst hii
        rw [List.getElem?_set_self hil] at h2
        cases h2
        rcases hv j x hx with ⟨k1, v, k2, k3⟩ | ⟨k1, k2⟩
        · have := lt_of_getElem? k2
          rw [if_pos (by omega)]
          exact ⟨v, by rw [show i' * ts.2 + j - (i' * ts.2 + off) = j - off by omega]; exact k2, hone v (List.mem_of_getElem? k2), hst.vd k3⟩
        · rw [if_neg (by omega)]
          obtain ⟨v, r1, r2, r3⟩ := q7 i' j e x he k2
          exact ⟨v, r1, r2, hst.vd r3⟩
      · rw [List.getElem?_set_ne (Ne.symm hii)] at h2
        obtain ⟨v, r1, r2, r3⟩ := q7 i' j e2 x h2 hx
        rw [if_neg ?_]
        · exact ⟨v, r1, r2, hst.vd r3⟩
        · rintro ⟨k1, k2, -⟩
          rcases Nat.lt_or_gt_of_ne hii with hlt | hgt
          · have : (i' + 1) * ts.2 ≤ i * ts.2 := Nat.mul_le_mul_right _ hlt
            rw [Nat.add_mul, Nat.one_mul] at this
            omega
          · have : (i + 1) * ts.2 ≤ i' * ts.2 := Nat.mul_le_mul_right _ hgt
            rw [Nat.add_mul, Nat.one_mul] at this
            omega
  · left
    have hk' : (c.heap.set b (.arr g ts (l.set i e')))[k]? = some bx := hk
    rw [List.getElem?_set_ne (Ne.symm hkb)] at hk'
    exact ⟨hk', rfl, fun x n hn => setCells_other blk us _ c.w x (fun e => hkb (ho.inj k b blk n cap (by rw [← e]; exact hn) hown))⟩

theorem spl_get {β : Type} (us : List β) (o : Nat) (q : List β) (p : Nat) : (spl q o us)[p]? = if o ≤ p ∧ p < o + us.length ∧ p < q.length then us[p - o]? else q[p]? := by
  induction us generalizing o q with
  | nil => rw [if_neg (by simp; omega)]; rfl
  | cons u us ih =>
    rw [spl, ih]
    by_cases hp : o = p
    · subst hp
      rw [if_neg (by omega)]
      by_cases hq : o < q.length
      · rw [if_pos (by simp; omega), List.getElem?_set_self hq]; simp
      · rw [if_neg (by omega), List.getElem?_eq_none (by simp; omega), List.getElem?_eq_none (by omega)]
    · by_cases hc : o + 1 ≤ p ∧ p < o + 1 + us.length ∧ p < q.length
      · rw [if_pos (by simpa using hc), if_pos (by simp; omega)]
        rw [show p - o = (p - (o + 1)) + 1 by omega]
        simp
      · rw [if_neg (by simpa using hc), if_neg (by simp; omega), List.getElem?_set_ne hp]

theorem cells_scal {e : DV} (h : e.scal = true) : e.cells = [e] := by cases e <;> first | rfl | cases h

/-- What putElemK yields. -/
def PutElem (e : DV) (off : Nat) (ds : List DV) (e' : DV) : Prop := e'.cells.length = e.cells.length ∧ off + ds.length ≤ e.cells.length ∧
  ∀ (j : Nat) (x : DV), e'.cells[j]? = some x → (off ≤ j ∧ ds[j - off]? = some x) ∨ ((j < off ∨ off + ds.length ≤ j) ∧ e.cells[j]? = some x)

theorem putElem1K_sound {e : DV} {off : Nat} {ds : List DV} {stop : Prop} {k : DV → Prop} (H : putElem1K e off ds stop k) : stop ∨ ∃ e', k e' ∧ PutElem e off ds e' := by
  unfold putElem1K at H
  split at H
  · rename_i cs
    split at H
    · rename_i q
      rw [splK_eq] at H
      have hq := Nat.le_of_ble_eq_true q
      refine .inr ⟨.agg (spl cs off ds), H, by simp [DV.cells, spl_length], hq, fun j x hx => ?_⟩
      simp only [DV.cells] at hx
      rw [spl_get] at hx
      split at hx
      · rename_i hc; exact .inl ⟨hc.1, hx⟩
      · rename_i hc
        refine .inr ⟨?_, hx⟩
        have hj := lt_of_getElem? hx
        omega
    · exact .inl H
  · rename_i hna
    split at H
    · rename_i d
      split at H
      · rename_i hd
        have hc1 : e.cells = [e] := by cases e <;> first | rfl | exact absurd rfl (hna _)
        refine .inr ⟨d, H, by rw [hc1, cells_scal hd]; rfl, by rw [hc1]; simp, fun j x hx => .inl ⟨Nat.zero_le _, by rw [cells_scal hd] at hx; simpa using hx⟩⟩
      · exact .inl H
    · exact .inl H

theorem putElemK_sound {e : DV} {off : Nat} {vs : List AV} {stop : Prop} {k : DV → Prop} (H : putElemK e off vs stop k) : stop ∨ ∃ (ds : List DV) (e' : DV), vs = ds.map .d ∧ k e' ∧ PutElem e off ds e' := by
  unfold putElemK at H
  rcases allDK_cases vs stop (fun ds => putElem1K e off ds stop k) with ⟨ds, h1, h2⟩ | h2
  · rw [h2] at H
    rcases putElem1K_sound H with h | ⟨e', h3, h4⟩
    · exact .inl h
    · exact .inr ⟨ds, e', h1, h3, h4⟩
  · rw [h2] at H; exact .inl H

theorem ok_storeArr (hE : E.OK) {t : Nat} {x y : Operand} {ti : TInfo} (hti : E.T[t]? = some ti) {b g i off : Nat} {ts : Nat × Nat} {l : List DV} (hb : h[b]? = some (.arr g ts l)) (hx : EvOK E.G s x (.aptr b g i off)) {v : AV} (hy : EvOK E.G s y v) {ds : List DV} (hv : CellsOK v (ds.map .d)) (hsz : ds.length = ti.size) (hscal : (ds.map AV.d).all AV.scal = true)
    {e e' : DV} (he : l[i]? = some e) (hes : e.cells.length = ts.2) (hp : PutElem e off ds e') : OpOK E (.store t x y) s h (.d .undef) (h.set b (.arr g ts (l.set i e'))) := fun o c ac h1 h2 h3 h4 => by
  subst h2
  obtain ⟨blk, cap, q1, q2, q3⟩ := vr_aptr hb (hx c ac h3 h4)
  obtain ⟨vs, us0, r1, r2, r3, r4, r5⟩ := h3.elem hb q1 he
  obtain ⟨us, hus, hul⟩ := hv c _ (hy c ac h3 h4)
  have hlen : us.length = ds.length := by rw [← hul.1]; simp
  obtain ⟨p1, p2, p3⟩ := hp
  have hone : ∀ u ∈ us, u.oneCell' = true := fun u hu => by
    obtain ⟨j, hj, rfl⟩ := List.getElem_of_mem hu
    have hjl : j < (ds.map AV.d).length := by rw [hul.1]; exact hj
    exact vr_one (hul.2 j _ us[j] (List.getElem?_eq_getElem hjl) (by simp [hj])) (List.all_eq_true.1 hscal _ (List.getElem_mem hjl))
  have hrun := run_storeAt (P := E.P) (w := c.w) (b := blk) (o := i * ts.2 + off) (hE.types t ti hti) hus (by omega) r1 (by omega) hone
  obtain ⟨w1, w2⟩ := h3.writeArr (i := i) (off := off) (e' := e') (us := us) hb q1 r1 he (by omega) (by omega) hone (fun j x hx => by
    rcases p3 j x hx with ⟨k1, k2⟩ | ⟨k1, k2⟩
    · have hlt := lt_of_getElem? k2
      exact .inl ⟨k1, us[j - off]'(by omega), by simp [show j - off < us.length by omega], hul.ofMapD (j - off) x _ k2 (by simp [show j - off < us.length by omega])⟩
    · exact .inr ⟨by omega, k2⟩)
  refine ⟨_, Go.undef, .inr ⟨?_, rfl⟩, rfl, w1, .d _ _ .undef, w2⟩
  simp only [execOp, h1, q2, Sem.run_bind, hrun, Result.andThen_ok, Sem.run_pure]

theorem sideK_sound (hE : E.OK) {o : Op} {stop : Prop} {k : AV → List Box → Prop} (H : sideK E.T E.G o s h stop k) : stop ∨ ∃ v h', k v h' ∧ OpOK E o s h v h' := by
  unfold sideK at H
  split at H
  · -- indexAddr
    rcases getK_or H with h | ⟨ti, hti, H⟩
    · exact .inl h
    rcases evalK_sound H with h | ⟨a, ha, H⟩
    · exact .inl h
    rcases evalK_sound H with h | ⟨b, hb, H⟩
    · exact .inl h
    split at H
    · split at H
      · rename_i e hk
        rcases getK_or H with h | ⟨ei, hei, H⟩
        · exact .inl h
        split at H
        · split at H
          · rename_i q
            obtain ⟨y, h0, h1, h2, H⟩ := elemP_elim H
            exact .inr ⟨_, _, H, ok_indexSl hE hti hei hk ha hb (blt_pos q) h0 h1 h2⟩
          · exact .inl H
        · rcases getK_or H with h | ⟨bx, hbx, H⟩
          · exact .inl h
          split at H
          · split at H
            · rename_i q1 q2
              have := Nat.eq_of_beq_eq_true q1
              subst this
              obtain ⟨⟨h0, h1⟩, H⟩ := need_elim H
              exact .inr ⟨_, _, H, ok_indexOwn hE hti hei hk hbx (Nat.eq_of_beq_eq_true q2) ha hb h0 h1⟩
            · exact .inl H
          · exact .inl H
        · exact .inl H
      · rename_i len e hk
        rcases getK_or H with h | ⟨ei, hei, H⟩
        · exact .inl h
        split at H
        · obtain ⟨y, h0, h1, h2, h3, h4, H⟩ := cellP_elim H
          exact .inr ⟨_, _, H, ok_indexArr hE hti hei hk ha hb h0 h1 h2 h3 h4⟩
        · exact .inl H
      · exact .inl H
    · exact .inl H
  · -- index
    rcases getK_or H with h | ⟨ti, hti, H⟩
    · exact .inl h
    rcases evalK_sound H with h | ⟨a, ha, H⟩
    · exact .inl h
    rcases evalK_sound H with h | ⟨b, hb, H⟩
    · exact .inl h
    split at H
    · split at H
      · have hk : ti.k = .string := by assumption
        obtain ⟨y, h0, h1, H⟩ := byteP_elim H
        exact .inr ⟨_, _, H, ok_indexStr hE hti hk ha hb h0 h1⟩
      · exact .inl H
    · exact .inl H
  · -- slice
    rcases getK_or H with h | ⟨ti, hti, H⟩
    · exact .inl h
    rcases evalK_sound H with h | ⟨a, ha, H⟩
    · exact .inl h
    rcases boundK_sound H with h | ⟨l, hl, H⟩
    · exact .inl h
    rcases boundK_sound H with h | ⟨u, hu, H⟩
    · exact .inl h
    split at H
    · have hk : ti.k = .string := by assumption
      obtain ⟨⟨h0, h1, h2⟩, H⟩ := need_elim H
      exact .inr ⟨_, _, H, ok_sliceStr hE hti hk ha hl hu h0 h1 h2⟩
    · rcases getK_or H with h | ⟨ei, hei, H⟩
      · exact .inl h
      obtain ⟨⟨h0, h1, h2, h3⟩, H⟩ := need_elim H
      exact .inr ⟨_, _, H, ok_sliceSl hE hti hei (by assumption) ha hl hu h0 h1 h2 h3⟩
    · exact .inl H
  · -- load
    rcases getK_or H with h | ⟨ti, hti, H⟩
    · exact .inl h
    rcases evalK_sound H with h | ⟨a, ha, H⟩
    · exact .inl h
    split at H
    · rcases getK_or H with h | ⟨bx, hbx, H⟩
      · exact .inl h
      split at H
      · split at H
        · rename_i q
          have := Nat.eq_of_beq_eq_true q
          subst this
          obtain ⟨e, h0, h1, h2, H⟩ := elemP_elim H
          rw [Int.toNat_natCast] at h1
          split at H
          · rw [mapK_eq] at H
            rcases ok_loadArr hE hti hbx ha h1 rfl H with h | ⟨v, H, hv⟩
            · exact .inl h
            · exact .inr ⟨_, _, H, hv⟩
          · rename_i hna
            rcases ok_loadArr hE hti hbx ha h1 (by cases e <;> first | rfl | exact absurd rfl (hna _)) H with h | ⟨v, H, hv⟩
            · exact .inl h
            · exact .inr ⟨_, _, H, hv⟩
        · exact .inl H
      · exact .inl H
    · exact .inl H
  · -- store
    rcases getK_or H with h | ⟨ti, hti, H⟩
    · exact .inl h
    rcases evalK_sound H with h | ⟨v, hv, H⟩
    · exact .inl h
    rcases evalK_sound H with h | ⟨a, ha, H⟩
    · exact .inl h
    split at H
    · rcases getK_or H with h | ⟨bx, hbx, H⟩
      · exact .inl h
      split at H
      · split at H
        · rename_i q
          have := Nat.eq_of_beq_eq_true q
          subst this
          rcases cellsK_sound H with h | ⟨vs, hvs, H⟩
          · exact .inl h
          split at H
          · rename_i q1 q2
            obtain ⟨e, h0, h1, h2, H⟩ := elemP_elim H
            rw [Int.toNat_natCast] at h1
            rcases putElemK_sound H with h | ⟨ds, e', rfl, H, hp⟩
            · exact .inl h
            rw [setK_eq] at H
            exact .inr ⟨_, _, H, ok_storeArr hE hti hbx ha hv hvs (by have := Nat.eq_of_beq_eq_true q1; simpa using this) q2 h1 h2 hp⟩
          · exact .inl H
        · exact .inl H
      · exact .inl H
    · exact .inl H
  · exact appK_sound hE H

end
end Go.Eng
