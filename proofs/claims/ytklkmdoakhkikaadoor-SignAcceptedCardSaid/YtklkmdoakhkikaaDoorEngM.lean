/- The engine, part M: more operations: bits, shifts, structs compared, texts as bytes. No conditions. -/
import Derived.Test.YtklkmdoakhkikaaDoorEngS
import Derived.Laws.StructEq
import Derived.Laws.BytesString
import Derived.Lib.ConvBytes
namespace Go.Eng
open Go Go.RowKit

/-- Bits of two numbers. -/
def bitI (op : BinOp) (j : IntKind) (a b : Int) : Int :=
  let x := BitVec.ofInt j.bits a
  let y := BitVec.ofInt j.bits b
  match op with
  | .and => j.wrap (x &&& y).toNat
  | .or => j.wrap (x ||| y).toNat
  | .xor => j.wrap (x ^^^ y).toNat
  | _ => j.wrap (x &&& ~~~y).toNat
def shI (op : BinOp) (j : IntKind) (a : Int) (n : Nat) : Int := match op with
  | .shl => j.wrap (a * 2 ^ min n j.bits)
  | _ => a.fdiv (2 ^ min n j.bits)

def isBits : BinOp → Bool
  | .and | .or | .xor | .andNot => true
  | _ => false
def isShift : BinOp → Bool
  | .shl | .shr => true
  | _ => false

def isDiv : BinOp → Bool
  | .quo | .rem => true
  | _ => false
def divI (op : BinOp) (j : IntKind) (a b : Int) : Int := match op with
  | .quo => j.wrap (a.tdiv b)
  | _ => a.tmod b
def mem1B (d : Nat) : List Nat → Bool
  | [] => false
  | a :: l => match Nat.beq a d with
    | true => true
    | false => mem1B d l
theorem blt_lt {a b : Nat} (h : Nat.blt a b = true) : a < b := Nat.le_of_ble_eq_true h
theorem mem1B_spec {d : Nat} : ∀ {l : List Nat}, mem1B d l = true → d ∈ l
  | [], h => by cases h
  | a :: l, h => by
    unfold mem1B at h
    split at h
    · rename_i q; rw [Nat.eq_of_beq_eq_true q]; exact List.mem_cons_self ..
    · exact List.mem_cons_of_mem _ (mem1B_spec h)

section
variable {E : Env} {s : List AV} {h : List Box} {c : Cx} {G : List (Nat × DV)}

theorem ok_bits {op : BinOp} (hop : isBits op = true) {t t' : TypeId} {x y : Operand} {j : IntKind} {a b : Int} (hx : EvOK E.G s x (.d (.int j a))) (hy : EvOK E.G s y (.d (.int j b))) : OpOK E (.binOp op t x y t') s h (.d (.int j (bitI op j a b))) h :=
  .quiet fun o c ac h1 _ h3 h4 => by
    have e1 := vr_int (hx c ac h3 h4)
    have e2 := vr_int (hy c ac h3 h4)
    refine ⟨.int j (bitI op j a b), run_binOp h1 (by rw [e1, e2]; exact eqGuard_int ..) ?_, .d _ _ (.int _ _)⟩
    rw [e1, e2]
    cases op <;> first | (simp only [binOp, ne_eq, not_true_eq_false, if_false, Op.intBits]; rfl) | cases hop

theorem ok_shift {op : BinOp} (hop : isShift op = true) {t t' : TypeId} {x y : Operand} {j j' : IntKind} {a : Int} {b : Int} (hb : 0 ≤ b) (hx : EvOK E.G s x (.d (.int j a))) (hy : EvOK E.G s y (.d (.int j' b))) : OpOK E (.binOp op t x y t') s h (.d (.int j (shI op j a b.toNat))) h :=
  .quiet fun o c ac h1 _ h3 h4 => by
    have e1 := vr_int (hx c ac h3 h4)
    have e2 := vr_int (hy c ac h3 h4)
    refine ⟨.int j (shI op j a b.toNat), run_binOp h1 (by rw [e1, e2]; exact eqGuard_int ..) ?_, .d _ _ (.int _ _)⟩
    rw [e1, e2]
    have hn : ¬ (b < 0) := by omega
    cases op <;> first | (simp only [binOp, Op.shift, hn, if_false]; rfl) | cases hop

/-- Two cells of a kind, compared. -/
def eqD1K {α : Sort _} (kd : TK) (a b : DV) (stop : α) (k : Bool → α) : α :=
  match kd, a, b with
  | .int _, .int j m, .int j' n => match IntKind.same j j' with
    | true => k (m == n)
    | false => stop
  | .string, .str m, .str n => k (m == n)
  | .bool, .bool m, .bool n => k (m == n)
  | _, _, _ => stop
/-- The fields of two structs, compared. -/
def eqFieldsK {α : Sort _} (T : List TInfo) : Nat → List (Nat × Nat) → List DV → List DV → (stop : α) → (Bool → α) → α
  | _, [], [], [], _, k => k true
  | n, f :: fs, a :: l, b :: m, stop, k => match Nat.beq f.1 n with
    | true => getK T f.2 stop fun i => eqD1K i.k a b stop fun p => eqFieldsK T (n + 1) fs l m stop fun q => k (p && q)
    | false => stop
  | _, _, _, _, stop, _ => stop

theorem eqD1K_or {kd : TK} {a b : DV} {stop : Prop} {k : Bool → Prop} (H : eqD1K kd a b stop k) : stop ∨ ∃ p, k p := by
  unfold eqD1K at H
  split at H
  · split at H
    · exact .inr ⟨_, H⟩
    · exact .inl H
  · exact .inr ⟨_, H⟩
  · exact .inr ⟨_, H⟩
  · exact .inl H
theorem eqFieldsK_or {T : List TInfo} {stop : Prop} : ∀ {n : Nat} {fs : List (Nat × Nat)} {l m : List DV} {k : Bool → Prop}, eqFieldsK T n fs l m stop k → stop ∨ ∃ p, k p
  | _, [], [], [], _, H => .inr ⟨_, H⟩
  | _, [], [], _ :: _, _, H => .inl H
  | _, [], _ :: _, _, _, H => .inl H
  | _, _ :: _, [], _, _, H => .inl H
  | _, _ :: _, _ :: _, [], _, H => .inl H
  | n, f :: fs, a :: l, b :: m, k, H => by
    simp only [eqFieldsK] at H
    split at H
    · rcases getK_or H with H | ⟨i, -, H⟩
      · exact .inl H
      rcases eqD1K_or H with H | ⟨p, H⟩
      · exact .inl H
      rcases eqFieldsK_or H with H | ⟨q, H⟩
      · exact .inl H
      · exact .inr ⟨_, H⟩
    · exact .inl H

theorem eqD1K_sound {P : Program} {ft : Nat} {i : TInfo} (ht : tinfo P ft = some i) {a b : DV} {stop : Prop} {k : Bool → Prop} (H : eqD1K i.k a b stop k) : stop ∨ ∃ p, k p ∧ i.k.agg = false ∧
    ∀ (bad : Nat → Prop) (w w' : World) (u v : Value) (d : Nat), VD bad w a u → VD bad w b v → (Op.equalIn (d + 1) ft u v).run P w' = .ok p w' := by
  obtain ⟨ti, td, g1, g2, g3, -⟩ := tinfo_inv ht
  unfold eqD1K at H
  split at H
  · rename_i hk
    split at H
    · rename_i hs
      obtain rfl := same_eq hs
      refine .inr ⟨_, H, by rw [hk]; rfl, fun bad w w' u v d hu hv => ?_⟩
      cases hu; cases hv
      obtain rfl := tk_int (hk.symm.trans g3)
      exact run_equalIn_int w' d ft _ _ _ _ g2
    · exact .inl H
  · rename_i hk
    refine .inr ⟨_, H, by rw [hk]; rfl, fun bad w w' u v d hu hv => ?_⟩
    cases hu; cases hv
    obtain rfl := tk_string (hk.symm.trans g3)
    rw [run_equalIn_string w' d ft _ _ g2]
    simp
  · rename_i hk
    refine .inr ⟨_, H, by rw [hk]; rfl, fun bad w w' u v d hu hv => ?_⟩
    cases hu; cases hv
    have : td = .bool := by rw [hk] at g3; cases td <;> first | rfl | cases g3
    subst this
    exact run_equalIn_bool' w' _ ft _ _ g2
  · exact .inl H

theorem eqFieldsK_sound {P : Program} {T : List TInfo} (hT : ∀ (t : Nat) (i : TInfo), T[t]? = some i → tinfo P t = some i) {stop : Prop} : ∀ {n : Nat} {fl : List Field} {l m : List DV} {k : Bool → Prop}, eqFieldsK T n (fl.map fun f => (f.offset, f.type)) l m stop k → (∀ f ∈ fl, f.name ≠ "_") → stop ∨ ∃ p, k p ∧
    ∀ (bad : Nat → Prop) (w w' : World) (xs ys : List Value) (d : Nat), (∀ (j : Nat) (x : DV), l[j]? = some x → ∃ u, xs[n + j]? = some u ∧ VD bad w x u) → (∀ (j : Nat) (x : DV), m[j]? = some x → ∃ u, ys[n + j]? = some u ∧ VD bad w x u) → (Op.eqFields (d + 1) xs.toArray ys.toArray fl).run P w' = .ok p w' := by
  intro n fl
  induction fl generalizing n with
  | nil =>
    intro l m k H _
    cases l with
    | nil => cases m with
      | nil => exact .inr ⟨true, H, fun bad w w' xs ys d _ _ => by simp only [Op.eqFields, Sem.run_pure]⟩
      | cons b m => exact .inl H
    | cons a l => exact .inl H
  | cons f fl ih =>
    intro l m k H hn
    cases l with
    | nil => exact .inl H
    | cons a l => cases m with
      | nil => exact .inl H
      | cons b m =>
        simp only [List.map_cons, eqFieldsK] at H
        split at H
        · rename_i q
          have q := Nat.eq_of_beq_eq_true q
          rcases getK_or H with H | ⟨i, hi, H⟩
          · exact .inl H
          rcases eqD1K_sound (hT _ i hi) H with H | ⟨p, H, hagg, hp⟩
          · exact .inl H
          rcases ih H (fun g hg => hn g (List.mem_cons_of_mem _ hg)) with H | ⟨p', H, hp'⟩
          · exact .inl H
          refine .inr ⟨p && p', H, fun bad w w' xs ys d hx hy => ?_⟩
          obtain ⟨u, u1, u2⟩ := hx 0 a rfl
          obtain ⟨v, v1, v2⟩ := hy 0 b rfl
          rw [Nat.add_zero] at u1 v1
          have hname := hn f (List.mem_cons_self ..)
          simp only [Op.eqFields, ne_eq, hname, not_false_eq_true, if_true, Sem.run_bind]
          rw [q, run_part1 (hT _ i hi) w' xs n u u1 hagg, Result.andThen_ok, run_part1 (hT _ i hi) w' ys n v v1 hagg, Result.andThen_ok, hp bad w w' u v d u2 v2, Result.andThen_ok]
          cases p with
          | false => simp
          | true =>
            simp only [Bool.not_true, Bool.false_eq_true, if_false, Bool.true_and]
            exact hp' bad w w' xs ys d (fun j x hj => by rw [show n + 1 + j = n + (j + 1) by omega]; exact hx (j + 1) x (by simpa using hj)) (fun j x hj => by rw [show n + 1 + j = n + (j + 1) by omega]; exact hy (j + 1) x (by simpa using hj))
        · exact .inl H

theorem ok_eqStruct (hE : E.OK) {op : BinOp} {t : Nat} {t' : TypeId} {x y : Operand} {i : TInfo} (hi : E.T[t]? = some i) (hQ : t ∈ E.Q) {fs : List (Nat × Nat)} (hk : i.k = .struct fs) {l m : List DV} (hx : EvOK E.G s x (.d (.agg l))) (hy : EvOK E.G s y (.d (.agg m))) {stop : Prop} {k : Bool → Prop} (H : eqFieldsK E.T 0 fs l m stop k) :
    stop ∨ ∃ p, k p ∧ (op = .eql → ∀ h, OpOK E (.binOp op t x y t') s h (.d (.bool p)) h) ∧ (op = .neq → ∀ h, OpOK E (.binOp op t x y t') s h (.d (.bool !p)) h) := by
  obtain ⟨ti, d, g1, g2, g3, -⟩ := tinfo_inv (hE.types t i hi)
  obtain ⟨fl, rfl, rfl⟩ := tk_struct (hk.symm.trans g3)
  have hq := hE.eqs t hQ
  simp only [eqType, g2, Bool.and_eq_true, Bool.not_eq_true', List.all_eq_true, bne_iff_ne, ne_eq] at hq
  obtain ⟨⟨q1, q2⟩, q3⟩ := hq
  rcases eqFieldsK_sound hE.types H q3 with h | ⟨p, H, hp⟩
  · exact .inl h
  have hfs : E.P.fieldsOf t = fl := by simp [Program.fieldsOf, g2]
  have val : ∀ (c : Cx) (ac : Act), HOk E.G c → VS c s ac.tmps → ∃ xs ys : List Value, ac.eval x = .agg xs.toArray ∧ ac.eval y = .agg ys.toArray ∧ (Op.equalIn 10000 t (.agg xs.toArray) (.agg ys.toArray)).run E.P c.w = .ok p c.w := by
    intro c ac h3 h4
    have hx' := hx c ac h3 h4
    have hy' := hy c ac h3 h4
    generalize ac.eval x = u at hx'
    generalize ac.eval y = v at hy'
    cases hx' with
    | d _ _ hx' => cases hx' with
      | agg _ xs x1 x2 => cases hy' with
        | d _ _ hy' => cases hy' with
          | agg _ ys y1 y2 =>
            refine ⟨xs.toList, ys.toList, by simp, by simp, ?_⟩
            rw [run_equalIn_struct c.w 9999 t _ _ (by rw [hfs]; exact g2) q1, hfs]
            refine hp c.bad c.w c.w xs.toList ys.toList 9998 (fun j z hz => ?_) (fun j z hz => ?_)
            · have hj := lt_of_getElem? hz
              rw [x1] at hj
              exact ⟨xs[j], by simp [hj], x2 j z _ hz (by simp [hj])⟩
            · have hj := lt_of_getElem? hz
              rw [y1] at hj
              exact ⟨ys[j], by simp [hj], y2 j z _ hz (by simp [hj])⟩
  have guard : ∀ (op : BinOp) (xs ys : Array Value) (w : World), (eqGuard op t x y (.agg xs) (.agg ys)).run E.P w = .ok () w := fun op xs ys w => run_eqGuard_agg w op t x y xs ys q2
  refine .inr ⟨p, H, fun e h => ?_, fun e h => ?_⟩
  · subst e
    refine .quiet fun o c ac h1 _ h3 h4 => ⟨.bool p, ?_, .d _ _ (.bool _)⟩
    obtain ⟨xs, ys, e1, e2, e3⟩ := val c ac h3 h4
    simp only [execOp, h1, e1, e2, Sem.run_bind, guard, Result.andThen_ok, run_eql_struct, e3, Sem.run_pure]
  · subst e
    refine .quiet fun o c ac h1 _ h3 h4 => ⟨.bool !p, ?_, .d _ _ (.bool _)⟩
    obtain ⟨xs, ys, e1, e2, e3⟩ := val c ac h3 h4
    simp only [execOp, h1, e1, e2, Sem.run_bind, guard, Result.andThen_ok, run_neq_struct, e3, Sem.run_pure]

/-- A text's bytes as a new slice. -/
theorem ok_textBytes (hE : E.OK) {t0 t e : Nat} {x : Operand} {i0 i ei : TInfo} (hi0 : E.T[t0]? = some i0) (hi : E.T[t]? = some i) (hei : E.T[e]? = some ei) (hk : i.k = .slice e) (hke : ei.k = .int .u8) {l : List UInt8} (hx : EvOK E.G s x (.d (.str l))) :
    OpOK E (.convert t0 t x) s h (.d (.sl (l.map byteD))) h := fun o c ac h1 h2 h3 h4 => by
  obtain ⟨ti0, d0, k1, k2, -⟩ := tinfo_inv (hE.types t0 i0 hi0)
  obtain ⟨ti, d, g1, g2, g3, -⟩ := tinfo_inv (hE.types t i hi)
  obtain rfl := tk_slice (hk.symm.trans g3)
  obtain ⟨tie, de, q1, q2, q3, -⟩ := tinfo_inv (hE.types e ei hei)
  obtain rfl := tk_int (hke.symm.trans q3)
  have ex := vr_str (hx c ac h3 h4)
  have hrun := Lib.run_convert_string_bytes (P := E.P) c.w t0 t e ⟨l.toArray⟩ k2 g2 q2
  have hext : Proofs.YtklkmdoakhkikaaDoor.Ext c.w (Lib.bytesWorld c.w e ⟨l.toArray⟩) := ⟨rfl, rfl, rfl, by rw [Lib.bytesWorld_size]; omega, fun b hb => Lib.bytesWorld_at_old c.w e _ b hb⟩
  obtain ⟨r1, r2⟩ := h3.grow hext
  refine ⟨c.inW (Lib.bytesWorld c.w e ⟨l.toArray⟩), _, .inl (by simp only [execOp, h1, ex, Sem.run_bind, hrun, Result.andThen_ok, Sem.run_pure]; rfl), h2, r1, .d _ _ ?_, r2⟩
  have hsz : (ByteArray.mk l.toArray).size = (l.map byteD).length := by simp [ByteArray.size]
  rw [hsz]
  have hcell : ∀ (j : Nat) (b : UInt8), l[j]? = some b → (Lib.bytesWorld c.w e ⟨l.toArray⟩).cell? ⟨c.w.heap.size, 0 + (j * 1 + 0), none⟩ = some (.int .u8 b.toNat) := fun j b hb => by
    have hj := lt_of_getElem? hb
    rw [show 0 + (j * 1 + 0) = j by omega, Lib.bytesWorld_cell c.w e _ j (by simp [ByteArray.size]; exact hj)]
    simp [List.getD, hb]
  have key : ∀ (i j : Nat) (a y : DV), (l.map byteD)[i]? = some a → a.cells[j]? = some y → ∃ b, l[i]? = some b ∧ j = 0 ∧ y = .int .u8 b.toNat := fun i j a y ha hy => by
    rw [List.getElem?_map] at ha
    cases hb : l[i]? with
    | none => rw [hb] at ha; cases ha
    | some b =>
      rw [hb] at ha
      cases ha
      simp only [byteD, DV.cells] at hy
      cases j with
      | zero => simp at hy; exact ⟨b, rfl, rfl, hy.symm⟩
      | succ j => simp at hy
  refine .sl _ c.w.heap.size 0 _ 1 (fun i _ => .int .u8 (l.getD i 0).toNat) (fun _ hb => ?_) (by omega) ?_ (fun i a ha => ?_) (fun i j a y ha hy => ?_) (fun i j a y ha hy => ?_) (fun i j a y ha hy => rfl)
  · rcases hb with hb | ⟨i, n, hi⟩
    · have := h3.barlt _ hb; omega
    · have := (h3.ownlt i _ n hi).1; omega
  · rw [List.length_map]
    have := grownCap_ge c.w l.length 0 e
    simpa [ByteArray.size] using this
  · rw [List.getElem?_map] at ha
    cases hb : l[i]? with
    | none => rw [hb] at ha; cases ha
    | some b => rw [hb] at ha; cases ha; rfl
  · obtain ⟨b, hb, rfl, rfl⟩ := key i j a y ha hy
    refine (hcell i b hb).trans ?_
    simp [List.getD, hb]
  · obtain ⟨b, hb, rfl, rfl⟩ := key i j a y ha hy
    simp only [List.getD, hb, Option.getD_some]
    exact .int _ _

theorem ok_divs {op : BinOp} (hop : isDiv op = true) {t t' : TypeId} {x y : Operand} {j : IntKind} {a b : Int} (hb : b ≠ 0) (hx : EvOK E.G s x (.d (.int j a))) (hy : EvOK E.G s y (.d (.int j b))) : OpOK E (.binOp op t x y t') s h (.d (.int j (divI op j a b))) h :=
  .quiet fun o c ac h1 _ h3 h4 => by
    have e1 := vr_int (hx c ac h3 h4)
    have e2 := vr_int (hy c ac h3 h4)
    refine ⟨.int j (divI op j a b), run_binOp h1 (by rw [e1, e2]; exact eqGuard_int ..) ?_, .d _ _ (.int _ _)⟩
    rw [e1, e2]
    cases op <;> first | (simp only [binOp, ne_eq, not_true_eq_false, if_false, Op.intDiv, hb]; rfl) | cases hop

theorem ok_concat {t t' : TypeId} {x y : Operand} {a b : List UInt8} (hl : a.length + b.length ≤ 9223372036854775807) (hx : EvOK E.G s x (.d (.str a))) (hy : EvOK E.G s y (.d (.str b))) : OpOK E (.binOp .add t x y t') s h (.d (.str (a ++ b))) h :=
  .quiet fun o c ac h1 _ h3 h4 => by
    have e1 := vr_str (hx c ac h3 h4)
    have e2 := vr_str (hy c ac h3 h4)
    have e : (⟨a.toArray⟩ : ByteArray) ++ ⟨b.toArray⟩ = ⟨(a ++ b).toArray⟩ := by
      apply ByteArray.ext
      simp
    refine ⟨.string ⟨(a ++ b).toArray⟩, run_binOp h1 (by rw [e1, e2]; rfl) ?_, .d _ _ (.str _)⟩
    rw [e1, e2]
    have hn : ¬ (((ByteArray.mk a.toArray).size + (ByteArray.mk b.toArray).size : Nat) : Int) > IntKind.i64.max := by
      simp [ByteArray.size, IntKind.max, IntKind.bits, IntKind.signed]
      omega
    simp only [binOp, Op.stringOp, hn, if_false, e]
    rfl

/-- More operations, that leave the boxes as they are, and owe nothing. -/
def plainSK (E : Env) (o : Op) (s : List AV) (stop : Prop) (k : AV → Prop) : Prop :=
  match o with
  | .binOp op t x y _ => getK E.T t stop fun i => evalK E.G s x stop fun a => evalK E.G s y stop fun b =>
    match a, b with
    | .d (.int j m), .d (.int j' n) => match isBits op with
      | true => match IntKind.same j j' with
        | true => k (.d (.int j (bitI op j m n)))
        | false => stop
      | false => stop
    | .d (.agg l), .d (.agg m) => match i.k, mem1B t E.Q with
      | .struct fs, true => eqFieldsK E.T 0 fs l m stop fun p => match op with
        | .eql => k (.d (.bool p))
        | .neq => k (.d (.bool !p))
        | _ => stop
      | _, _ => stop
    | _, _ => stop
  | .convert t0 t x => getK E.T t0 stop fun _ => getK E.T t stop fun i => evalK E.G s x stop fun v => match i.k, v with
    | .slice e, .d (.str l) => getK E.T e stop fun ei => match ei.k with
      | .int .u8 => k (.d (.sl (l.map byteD)))
      | _ => stop
    | _, _ => stop
  | _ => stop

theorem plainSK_sound (hE : E.OK) {o : Op} {stop : Prop} {k : AV → Prop} (H : plainSK E o s stop k) : stop ∨ ∃ v, k v ∧ ∀ h, OpOK E o s h v h := by
  unfold plainSK at H
  split at H
  · rename_i op t x y t'
    rcases getK_or H with h | ⟨i, hi, H⟩
    · exact .inl h
    rcases evalK_sound H with h | ⟨a, ha, H⟩
    · exact .inl h
    rcases evalK_sound H with h | ⟨b, hb, H⟩
    · exact .inl h
    split at H
    · split at H
      · rename_i q
        split at H
        · rename_i p
          obtain rfl := same_eq p
          exact .inr ⟨_, H, fun h => ok_bits q ha hb⟩
        · exact .inl H
      · exact .inl H
    · split at H
      · rename_i fs hk hq
        by_cases he : op = .eql
        · subst he
          rcases ok_eqStruct (op := .eql) (t' := t') (s := s) hE hi (mem1B_spec hq) hk ha hb H with h | ⟨p, H, h1, -⟩
          · exact .inl h
          · exact .inr ⟨_, H, fun h => h1 rfl h⟩
        · by_cases he' : op = .neq
          · subst he'
            rcases ok_eqStruct (op := .neq) (t' := t') (s := s) hE hi (mem1B_spec hq) hk ha hb H with h | ⟨p, H, -, h1⟩
            · exact .inl h
            · exact .inr ⟨_, H, fun h => h1 rfl h⟩
          · refine .inl ?_
            rcases eqFieldsK_or H with h | ⟨p, h⟩
            · exact h
            · split at h
              · exact absurd rfl he
              · exact absurd rfl he'
              · exact h
      · exact .inl H
    · exact .inl H
  · rename_i t0 t x
    rcases getK_or H with h | ⟨i0, hi0, H⟩
    · exact .inl h
    rcases getK_or H with h | ⟨i, hi, H⟩
    · exact .inl h
    rcases evalK_sound H with h | ⟨v, hv, H⟩
    · exact .inl h
    split at H
    · rename_i e l hk
      rcases getK_or H with h | ⟨ei, hei, H⟩
      · exact .inl h
      split at H
      · rename_i hke
        exact .inr ⟨_, H, fun h => ok_textBytes hE hi0 hi hei hk hke hv⟩
      · exact .inl H
    · exact .inl H
  · exact .inl H

/-- More operations, that leave the boxes as they are, and owe a fact. -/
def stillK (E : Env) (o : Op) (s : List AV) (stop : Prop) (k : AV → Prop) : Prop :=
  match o with
  | .binOp op _ x y _ => evalK E.G s x stop fun a => evalK E.G s y stop fun b =>
    match a, b with
    | .d (.int j m), .d (.int j' n) => match isShift op with
      | true => need (0 ≤ n) (k (.d (.int j (shI op j m n.toNat))))
      | false => match isDiv op, IntKind.same j j' with
        | true, true => need (n ≠ 0) (k (.d (.int j (divI op j m n))))
        | _, _ => stop
    | .d (.str l), .d (.str m) => match op with
      | .add => need (l.length + m.length ≤ 9223372036854775807) (k (.d (.str (l ++ m))))
      | _ => stop
    | _, _ => stop
  | _ => stop

theorem stillK_sound {o : Op} {stop : Prop} {k : AV → Prop} (H : stillK E o s stop k) : stop ∨ ∃ v, k v ∧ ∀ h, OpOK E o s h v h := by
  unfold stillK at H
  split at H
  · rename_i op t x y t'
    rcases evalK_sound H with h | ⟨a, ha, H⟩
    · exact .inl h
    rcases evalK_sound H with h | ⟨b, hb, H⟩
    · exact .inl h
    split at H
    · split at H
      · rename_i q
        obtain ⟨h0, H⟩ := need_elim H
        exact .inr ⟨_, H, fun h => ok_shift q h0 ha hb⟩
      · split at H
        · rename_i q p
          obtain rfl := same_eq p
          obtain ⟨h0, H⟩ := need_elim H
          exact .inr ⟨_, H, fun h => ok_divs q h0 ha hb⟩
        · exact .inl H
    · split at H
      · obtain ⟨h0, H⟩ := need_elim H
        exact .inr ⟨_, H, fun h => ok_concat h0 ha hb⟩
      · exact .inl H
    · exact .inl H
  · exact .inl H

/-- An array in a variable: an element's place. -/
theorem ok_indexVar (hE : E.OK) {t e len : Nat} {x i : Operand} {ti ei : TInfo} (hti : E.T[t]? = some ti) (hei : E.T[e]? = some ei) (hk : ti.k = .array len e) {b off : Nat} {cs : List AV} (hb : h[b]? = some (.cells cs)) {j : IntKind} {m : Nat} (hx : EvOK E.G s x (.ptr b off)) (hi : EvOK E.G s i (.d (.int j (.ofNat m)))) (h1 : m < len) :
    OpOK E (.indexAddr t x i) s h (.ptr b (off + m * ei.size)) h := .quiet fun o c ac e1 e2 h3 h4 => by
  subst e2
  obtain ⟨tyi, d, g1, g2, g3, -⟩ := tinfo_inv (hE.types t ti hti)
  obtain rfl := tk_array (hk.symm.trans g3)
  have key : ∀ p, VR c (.ptr b off) p → ∃ blk, p = .pointer (some ⟨blk, off, none⟩) ∧ VR c (.ptr b (off + m * ei.size)) (.pointer (some ⟨blk, off + m * ei.size, none⟩)) := fun p hp => by
    cases hp with
    | ptr _ _ cs' blk cap k1 k2 => exact ⟨blk, rfl, .ptr _ _ cs' blk cap k1 k2⟩
    | ptrgone _ _ _ k1 _ => rw [hb] at k1; cases k1
  obtain ⟨blk, q1, q2⟩ := key _ (hx c ac h3 h4)
  refine ⟨_, run_execIndexAddr e1 ?_, q2⟩
  rw [q1, vr_int (hi c ac h3 h4)]
  have h0 : (0 : Int) ≤ Int.ofNat m := Int.natCast_nonneg m
  have h1' : Int.ofNat m < (len : Int) := by simpa using h1
  simp only [Instr.indexAt, asIntOf, Sem.run_bind, Sem.run_pure, Result.andThen_ok, run_underlying g2, Instr.sureAddr, h0, h1', and_self, if_true, run_sizeOf (hE.types e ei hei), add_at]
  rfl

/-- A whole array in a variable as a slice; the variable is used no more. -/
theorem ok_sliceVar (hE : E.OK) {t e len : Nat} {x : Operand} {ti ei : TInfo} (hti : E.T[t]? = some ti) (hei : E.T[e]? = some ei) (hk : ti.k = .array len e) (hpos : 0 < len) {b : Nat} {ds : List DV} (hb : h[b]? = some (.cells (ds.map .d))) (hlen : ds.length = len) (hsc : ds.all DV.scal = true) (hx : EvOK E.G s x (.ptr b 0)) :
    OpOK E (.slice t x none none none) s h (.d (.sl ds)) (h.set b .gone) := fun o c ac h1 h2 h3 h4 => by
  subst h2
  obtain ⟨tyi, d, g1, g2, g3, -⟩ := tinfo_inv (hE.types t ti hti)
  obtain rfl := tk_array (hk.symm.trans g3)
  have hbl := lt_of_getElem? hb
  have key : ∀ p, VR c (.ptr b 0) p → ∃ blk cap, p = .pointer (some ⟨blk, 0, none⟩) ∧ c.own b = some (blk, cap) := fun p hp => by
    cases hp with
    | ptr _ _ cs' blk cap k1 k2 => exact ⟨blk, cap, rfl, k2⟩
    | ptrgone _ _ _ k1 _ => rw [hb] at k1; cases k1
  obtain ⟨blk, cap, q1, q2⟩ := key _ (hx c ac h3 h4)
  obtain ⟨blk', cap', vs, ty, p1, p2, p3⟩ := h3.cells hb
  rw [q2] at p1; cases p1
  let c' : Cx := { c with own := fun i => if i = b then none else c.own i, heap := c.heap.set b .gone }
  have hgone : c'.heap[b]? = some .gone := by show (c.heap.set b .gone)[b]? = _; rw [List.getElem?_set_self hbl]
  have hother : ∀ i, i ≠ b → c'.heap[i]? = c.heap[i]? := fun i hi => by show (c.heap.set b .gone)[i]? = _; rw [List.getElem?_set_ne (Ne.symm hi)]
  have hown : ∀ i, i ≠ b → c'.own i = c.own i := fun i hi => by simp only [c', if_neg hi]
  have hownle : ∀ i p, c'.own i = some p → i ≠ b ∧ c.own i = some p := fun i p hp => by
    simp only [c'] at hp
    split at hp
    · cases hp
    · rename_i q; exact ⟨q, hp⟩
  have hst : Step c c' := ⟨rfl, h3.barlt, rfl, rfl, rfl, Nat.le_refl _, fun _ _ _ => rfl, fun i x n hi _ => ⟨i, n, (hownle i _ hi).2⟩, fun i bx hi => by
    by_cases hib : i = b
    · subst hib
      cases bx with
      | cells cs => exact .inr hgone
      | arr g sz l => exact .inr hgone
      | map es => exact .inr hgone
      | gone => exact hgone
    · rw [← hother i hib] at hi
      cases bx with
      | cells cs => exact .inl ⟨cs, hi, hown i hib, rfl⟩
      | arr g sz l => exact .inl ⟨g, l, hi, .inr ⟨rfl, rfl, hown i hib⟩⟩
      | map es => exact .inl ⟨es, hi, hown i hib⟩
      | gone => exact hi⟩
  have hok : HOk E.G c' := by
    refine h3.next hst (fun i x n hi => ?_) (fun i j x n m hi hj => h3.inj i j x n m (hownle i _ hi).2 (hownle j _ hj).2) (fun i bx hi => ?_)
    · have := h3.ownlt i x n (hownle i _ hi).2
      refine ⟨this.1, ?_⟩
      show i < (c.heap.set b .gone).length
      rw [List.length_set]
      exact this.2
    · by_cases hib : i = b
      · subst hib
        rw [hgone] at hi
        cases hi
        right
        show c'.own i = none
        simp [c']
      · rw [hother i hib] at hi
        exact .inl ⟨hi, hown i hib, fun _ _ _ => rfl⟩
  have hval : ∀ (j : Nat) (y : DV), ds[j]? = some y → ∃ v, vs[j]? = some v ∧ v.oneCell' = true ∧ VD c.bad c.w y v := fun j y hy => by
    have hj := lt_of_getElem? hy
    have hl := p3.1
    simp at hl
    have hv : vs.toList[j]? = some vs[j] := by simp
    have := p3.2 j (.d y) _ (by simp [hy]) hv
    cases this with
    | d _ _ hd => exact ⟨_, by simp, vd_one hd (List.all_eq_true.1 hsc y (List.mem_of_getElem? hy)), hd⟩
  refine ⟨c', .slice (some ⟨blk, 0, none⟩) ds.length ds.length, .inl ?_, rfl, hok, .d _ _ ?_, hst⟩
  · have hb0 : (Instr.sliceBounds false len len none none none).run E.P c.w = .ok (0, len, len) c.w := rfl
    have hne : ¬ (len = 0) := by omega
    simp only [execOp, h1, q1, Instr.sliceAt, Sem.run_bind, Sem.run_pure, Result.andThen_ok, run_underlying g2, Instr.sureAddr, Option.map_none, hb0, run_sizeOf (hE.types e ei hei), hne, if_false, Nat.zero_mul, add_at, Nat.sub_zero, hlen]
    rfl
  · have one : ∀ (i j : Nat) (y z : DV), ds[i]? = some y → y.cells[j]? = some z → j = 0 ∧ z = y := fun i j y z hy hz => by
      have := List.all_eq_true.1 hsc y (List.mem_of_getElem? hy)
      have hc : y.cells = [y] := by cases y <;> first | rfl | cases this
      rw [hc] at hz
      cases j with
      | zero => simp at hz; exact ⟨rfl, hz.symm⟩
      | succ j => simp at hz
    refine .sl ds blk 0 ds.length 1 (fun i j => (vs[i]?).getD undef) (fun _ hbd => ?_) (by omega) (Nat.le_refl _) (fun i y hy => ?_) (fun i j y z hy hz => ?_) (fun i j y z hy hz => ?_) (fun i j y z hy hz => ?_)
    · rcases hbd with hbd | ⟨i, n, hi⟩
      · exact h3.sep b blk cap q2 hbd
      · obtain ⟨k1, k2⟩ := hownle i _ hi
        exact k1 (h3.inj i b blk n cap k2 q2)
    · have := List.all_eq_true.1 hsc y (List.mem_of_getElem? hy)
      cases y <;> first | rfl | cases this
    · obtain ⟨rfl, rfl⟩ := one i j y z hy hz
      obtain ⟨v, r1, r2, r3⟩ := hval i z hy
      rw [r1, Option.getD_some]
      have := row_of_block p2 i v (by simpa using r1)
      simpa using this
    · obtain ⟨rfl, rfl⟩ := one i j y z hy hz
      obtain ⟨v, r1, r2, r3⟩ := hval i z hy
      simp only [r1, Option.getD_some]
      exact hst.vd r3
    · obtain ⟨rfl, rfl⟩ := one i j y z hy hz
      obtain ⟨v, r1, r2, r3⟩ := hval i z hy
      simp only [r1, Option.getD_some]
      exact r2

/-- More operations on boxes. -/
def chgK (E : Env) (o : Op) (s : List AV) (h : List Box) (stop : Prop) (k : AV → List Box → Prop) : Prop :=
  match o with
  | .indexAddr t x i => getK E.T t stop fun ti => match ti.k with
    | .array len e => getK E.T e stop fun ei => evalK E.G s x stop fun
      | .ptr b off => getK h b stop fun
        | .cells _ => evalK E.G s i stop fun
          | .d (.int _ n) => match n with
            | .ofNat m => match Nat.blt m len with
              | true => k (.ptr b (off + m * ei.size)) h
              | false => stop
            | _ => stop
          | _ => stop
        | _ => stop
      | _ => stop
    | _ => stop
  | .slice t x none none none => getK E.T t stop fun ti => match ti.k with
    | .array len e => getK E.T e stop fun _ => match Nat.blt 0 len with
      | true => evalK E.G s x stop fun
        | .ptr b 0 => getK h b stop fun
          | .cells cs => allDK cs stop fun ds => match Nat.beq ds.length len, ds.all DV.scal with
            | true, true => setK h b .gone fun h' => k (.d (.sl ds)) h'
            | _, _ => stop
          | _ => stop
        | _ => stop
      | _ => stop
    | _ => stop
  | _ => stop

theorem chgK_sound (hE : E.OK) {o : Op} {stop : Prop} {k : AV → List Box → Prop} (H : chgK E o s h stop k) : stop ∨ ∃ v h', k v h' ∧ OpOK E o s h v h' := by
  unfold chgK at H
  split at H
  · rename_i t x i
    rcases getK_or H with h | ⟨ti, hti, H⟩
    · exact .inl h
    split at H
    · rename_i len e hk
      rcases getK_or H with h | ⟨ei, hei, H⟩
      · exact .inl h
      rcases evalK_sound H with h | ⟨a, ha, H⟩
      · exact .inl h
      split at H
      · rename_i b off
        rcases getK_or H with h | ⟨bx, hb, H⟩
        · exact .inl h
        split at H
        · rcases evalK_sound H with h | ⟨n, hn, H⟩
          · exact .inl h
          split at H
          · split at H
            · split at H
              · rename_i q
                exact .inr ⟨_, _, H, ok_indexVar hE hti hei hk hb ha hn (blt_lt q)⟩
              · exact .inl H
            · exact .inl H
          · exact .inl H
        · exact .inl H
      · exact .inl H
    · exact .inl H
  · rename_i t x
    rcases getK_or H with h | ⟨ti, hti, H⟩
    · exact .inl h
    split at H
    · rename_i len e hk
      rcases getK_or H with h | ⟨ei, hei, H⟩
      · exact .inl h
      split at H
      · rename_i q2
        rcases evalK_sound H with h | ⟨a, ha, H⟩
        · exact .inl h
        split at H
        · rename_i b
          rcases getK_or H with h | ⟨bx, hb, H⟩
          · exact .inl h
          split at H
          · rename_i cs
            rcases allDK_cases cs stop (fun ds => match Nat.beq ds.length len, ds.all DV.scal with
              | true, true => setK h b .gone fun h' => k (.d (.sl ds)) h'
              | _, _ => stop) with ⟨ds, e1, e2⟩ | e2
            · rw [e2] at H
              split at H
              · rename_i p1 p2
                rw [setK_eq] at H
                subst e1
                exact .inr ⟨_, _, H, ok_sliceVar hE hti hei hk (blt_lt q2) hb (Nat.eq_of_beq_eq_true p1) p2 ha⟩
              · exact .inl H
            · rw [e2] at H; exact .inl H
          · exact .inl H
        · exact .inl H
      · exact .inl H
    · exact .inl H
  · exact .inl H

/-- More operations that owe nothing. -/
def plainK (E : Env) (o : Op) (s : List AV) (h : List Box) (stop : Prop) (k : AV → List Box → Prop) : Prop := plainSK E o s (chgK E o s h stop k) fun v => k v h
theorem plainK_sound (hE : E.OK) {o : Op} {stop : Prop} {k : AV → List Box → Prop} (H : plainK E o s h stop k) : stop ∨ ∃ v h', k v h' ∧ OpOK E o s h v h' := by
  rcases plainSK_sound hE H with H | ⟨v, H, ho⟩
  · exact chgK_sound hE H
  · exact .inr ⟨v, h, H, ho h⟩

/-- All operations that owe a fact. -/
def sideMK (E : Env) (o : Op) (s : List AV) (h : List Box) (stop : Prop) (k : AV → List Box → Prop) : Prop := sideK E.T E.G o s h (stillK E o s stop fun v => k v h) k
theorem sideMK_sound (hE : E.OK) {o : Op} {stop : Prop} {k : AV → List Box → Prop} (H : sideMK E o s h stop k) : stop ∨ ∃ v h', k v h' ∧ OpOK E o s h v h' := by
  rcases sideK_sound hE H with H | H
  · rcases stillK_sound H with H | ⟨v, H, ho⟩
    · exact .inl H
    · exact .inr ⟨v, h, H, ho h⟩
  · exact .inr H

end
end Go.Eng
