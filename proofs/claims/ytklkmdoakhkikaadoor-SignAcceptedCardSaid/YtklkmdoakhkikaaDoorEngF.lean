/- The engine, part F: calls that hand over boxes, computed. No conditions. -/
import Derived.Test.YtklkmdoakhkikaaDoorEngC
namespace Go.Eng
open Go Go.RowKit
universe u

section cps
variable {α : Sort u} {β γ : Type}

def mapsK (f : β → (γ → α) → α) : List β → (List γ → α) → α
  | [], k => k []
  | a :: l, k => f a fun b => mapsK f l fun l' => k (b :: l')
theorem mapsK_eq {f : β → (γ → α) → α} {g : β → γ} (h : ∀ x k, f x k = k (g x)) : ∀ (l : List β) (k : List γ → α), mapsK f l k = k (l.map g)
  | [], _ => rfl
  | a :: l, k => by simp only [mapsK, h, mapsK_eq h l, List.map_cons]

def appendK : List β → List β → (List β → α) → α
  | [], m, k => k m
  | a :: l, m, k => appendK l m fun l' => k (a :: l')
theorem appendK_eq : ∀ (l m : List β) (k : List β → α), appendK l m k = k (l ++ m)
  | [], _, _ => rfl
  | a :: l, m, k => by simp only [appendK, appendK_eq l, List.cons_append]

def lenK : List β → Nat → (Nat → α) → α
  | [], n, k => k n
  | _ :: l, n, k => lenK l (n + 1) k
theorem lenK_eq : ∀ (l : List β) (n : Nat) (k : Nat → α), lenK l n k = k (n + l.length)
  | [], _, _ => rfl
  | _ :: l, n, k => by rw [lenK, lenK_eq l, List.length_cons]; congr 1; omega

def ixK : List Nat → Nat → Nat → α → (Nat → α) → α
  | [], _, _, no, _ => no
  | a :: l, j, n, no, k => match Nat.beq a j with
    | true => k n
    | false => ixK l j (n + 1) no k
theorem ixK_eq : ∀ (l : List Nat) (j n : Nat) (no : α) (k : Nat → α), ixK l j n no k = match ixOf l j with
    | some i => k (n + i)
    | none => no
  | [], _, _, _, _ => rfl
  | a :: l, j, n, no, k => by
    simp only [ixK, ixOf]
    cases Nat.beq a j with
    | true => rfl
    | false =>
      rw [ixK_eq l]
      cases ixOf l j with
      | none => rfl
      | some i => simp only [Option.map_some]; congr 1; omega
theorem getK_at {l : List β} {i : Nat} {no : α} {k : β → α} : getK l i no k = match at? l i with
    | some x => k x
    | none => no := by
  rw [at?_eq]
  cases h : l[i]? with
  | none => exact getK_none h no k
  | some x => exact getK_some h no k

def unAK (sel : List Nat) (h : List Box) (x : AV) (k : AV → α) : α :=
  match x with
  | .own j g => ixK sel j 0 (k .any) fun i => getK h j (k .any) fun
    | .arr g' _ _ => match Nat.beq g g' with
      | true => k (.own i 0)
      | false => k .any
    | _ => k .any
  | .ptr j off => ixK sel j 0 (k .any) fun i => getK h j (k .any) fun
    | .cells _ => k (.ptr i off)
    | _ => k .any
  | .aptr j g n off => ixK sel j 0 (k .any) fun i => getK h j (k .any) fun
    | .arr g' _ _ => match Nat.beq g g' with
      | true => k (.aptr i 0 n off)
      | false => k .any
    | _ => k .any
  | .map j => ixK sel j 0 (k .any) fun i => getK h j (k .any) fun
    | .map _ => k (.map i)
    | _ => k .any
  | .d x => k (.d x)
  | .eptr e off => k (.eptr e off)
  | _ => k .any
theorem unAK_eq (sel : List Nat) (h : List Box) (x : AV) (k : AV → α) : unAK sel h x k = k (unA sel h x) := by
  unfold unAK unA
  simp only [ixK_eq, getK_at, Nat.zero_add]
  cases x with
  | own j g =>
    dsimp only
    generalize ixOf sel j = a
    generalize at? h j = o
    cases a with
    | none => rfl
    | some i => cases o with
      | none => rfl
      | some b => cases b with
        | arr g' _ _ => dsimp only; cases Nat.beq g g' <;> rfl
        | _ => rfl
  | ptr j off =>
    dsimp only
    generalize ixOf sel j = a
    generalize at? h j = o
    cases a with
    | none => rfl
    | some i => cases o with
      | none => rfl
      | some b => cases b <;> rfl
  | aptr j g n off =>
    dsimp only
    generalize ixOf sel j = a
    generalize at? h j = o
    cases a with
    | none => rfl
    | some i => cases o with
      | none => rfl
      | some b => cases b with
        | arr g' _ _ => dsimp only; cases Nat.beq g g' <;> rfl
        | _ => rfl
  | map j =>
    dsimp only
    generalize ixOf sel j = a
    generalize at? h j = o
    cases a with
    | none => rfl
    | some i => cases o with
      | none => rfl
      | some b => cases b <;> rfl
  | _ => rfl

def unVK (sel : List Nat) (h : List Box) (x : AV) (k : AV → α) : α :=
  match x with
  | .agg l => mapsK (unAK sel h) l fun l' => k (.agg l')
  | .tup l => mapsK (unAK sel h) l fun l' => k (.tup l')
  | .fn f a b => mapsK (unAK sel h) a fun a' => mapsK (unAK sel h) b fun b' => k (.fn f a' b')
  | x => unAK sel h x k
theorem unVK_eq (sel : List Nat) (h : List Box) (x : AV) (k : AV → α) : unVK sel h x k = k (unV sel h x) := by
  unfold unVK unV
  cases x <;> simp only [mapsK_eq (unAK_eq sel h), unAK_eq]

def unBK (sel : List Nat) (h : List Box) (b : Box) (k : Box → α) : α :=
  match b with
  | .arr _ ts l => k (.arr 0 ts l)
  | .cells cs => mapsK (unAK sel h) cs fun cs' => k (.cells cs')
  | .map es => k (.map es)
  | .gone => k .gone
theorem unBK_eq (sel : List Nat) (h : List Box) (b : Box) (k : Box → α) : unBK sel h b k = k (unB sel h b) := by
  unfold unBK unB
  cases b <;> simp only [mapsK_eq (unAK_eq sel h)]

def unH1K (sel : List Nat) (h : List Box) (j : Nat) (k : Box → α) : α := getK h j (k .gone) fun b => unBK sel h b k
theorem unH1K_eq (sel : List Nat) (h : List Box) (j : Nat) (k : Box → α) : unH1K sel h j k = k (match at? h j with | some b => unB sel h b | none => .gone) := by
  unfold unH1K
  rw [getK_at]
  generalize at? h j = o
  cases o with
  | none => rfl
  | some b => exact unBK_eq sel h b k
def unHK (sel : List Nat) (h : List Box) (k : List Box → α) : α := mapsK (unH1K sel h) sel k
theorem unHK_eq (sel : List Nat) (h : List Box) (k : List Box → α) : unHK sel h k = k (unH sel h) := by
  unfold unHK unH
  rw [mapsK_eq (unH1K_eq sel h)]
  rfl

def reIK (sel : List Nat) (h : List Box) (i : Nat) (k : Nat → α) : α := getK sel i (lenK h 0 fun n => lenK sel 0 fun m => k (n + (i - m))) k
theorem reIK_eq (sel : List Nat) (h : List Box) (i : Nat) (k : Nat → α) : reIK sel h i k = k (reI sel h i) := by
  unfold reIK reI
  rw [getK_at]
  simp only [lenK_eq, Nat.zero_add]
  generalize at? sel i = o
  cases o <;> rfl
def genK (h : List Box) (j : Nat) (k : Nat → α) : α := getK h j (k 0) fun
  | .arr g _ _ => k g
  | _ => k 0
theorem genK_eq (h : List Box) (j : Nat) (k : Nat → α) : genK h j k = k (genOf h j) := by
  unfold genK genOf
  rw [getK_at]
  generalize at? h j = o
  cases o with
  | none => rfl
  | some b => cases b <;> rfl
def reGK (sel : List Nat) (h : List Box) (i : Nat) (k : Nat → α) : α := getK sel i (k 0) fun j => genK h j k
theorem reGK_eq (sel : List Nat) (h : List Box) (i : Nat) (k : Nat → α) : reGK sel h i k = k (reG sel h i) := by
  unfold reGK reG
  rw [getK_at]
  generalize at? sel i = o
  cases o with
  | none => rfl
  | some b => exact genK_eq h b k
def reAK (sel : List Nat) (h : List Box) (x : AV) (k : AV → α) : α :=
  match x with
  | .own i g => reIK sel h i fun j => reGK sel h i fun g0 => k (.own j (g0 + g))
  | .ptr i off => reIK sel h i fun j => k (.ptr j off)
  | .aptr i g n off => reIK sel h i fun j => reGK sel h i fun g0 => k (.aptr j (g0 + g) n off)
  | .map i => reIK sel h i fun j => k (.map j)
  | .d x => k (.d x)
  | .eptr e off => k (.eptr e off)
  | _ => k .any
theorem reAK_eq (sel : List Nat) (h : List Box) (x : AV) (k : AV → α) : reAK sel h x k = k (reA sel h x) := by
  unfold reAK reA
  cases x <;> simp only [reIK_eq, reGK_eq]
def reV1K (sel : List Nat) (h : List Box) (x : AV) (k : AV → α) : α :=
  match x with
  | .agg l => mapsK (reAK sel h) l fun l' => k (.agg l')
  | .tup l => mapsK (reAK sel h) l fun l' => k (.tup l')
  | .fn f a b => mapsK (reAK sel h) a fun a' => mapsK (reAK sel h) b fun b' => k (.fn f a' b')
  | x => reAK sel h x k
theorem reV1K_eq (sel : List Nat) (h : List Box) (x : AV) (k : AV → α) : reV1K sel h x k = k (reV1 sel h x) := by
  unfold reV1K reV1
  cases x <;> simp only [mapsK_eq (reAK_eq sel h), reAK_eq]
def reVK (sel : List Nat) (h : List Box) (x : AV) (k : AV → α) : α :=
  match x with
  | .tup l => mapsK (reV1K sel h) l fun l' => k (.tup l')
  | x => reV1K sel h x k
theorem reVK_eq (sel : List Nat) (h : List Box) (x : AV) (k : AV → α) : reVK sel h x k = k (reV sel h x) := by
  unfold reVK reV
  cases x <;> simp only [mapsK_eq (reV1K_eq sel h), reV1K_eq]
def reBK (sel : List Nat) (h : List Box) (g0 : Nat) (b : Box) (k : Box → α) : α :=
  match b with
  | .arr g ts l => k (.arr (g0 + g) ts l)
  | .cells cs => mapsK (reAK sel h) cs fun cs' => k (.cells cs')
  | .map es => k (.map es)
  | .gone => k .gone
theorem reBK_eq (sel : List Nat) (h : List Box) (g0 : Nat) (b : Box) (k : Box → α) : reBK sel h g0 b k = k (reB sel h g0 b) := by
  unfold reBK reB
  cases b <;> simp only [mapsK_eq (reAK_eq sel h)]
def reOldK (sel : List Nat) (h h1 : List Box) : Nat → List Box → (List Box → α) → α
  | _, [], k => k []
  | j, b :: r, k => ixK sel j 0 (reOldK sel h h1 (j + 1) r fun r' => k (b :: r')) fun i => getK h1 i (reOldK sel h h1 (j + 1) r fun r' => k (.gone :: r')) fun b1 => genK h j fun g => reBK sel h g b1 fun b2 => reOldK sel h h1 (j + 1) r fun r' => k (b2 :: r')
theorem reOldK_eq (sel : List Nat) (h h1 : List Box) : ∀ (j : Nat) (r : List Box) (k : List Box → α), reOldK sel h h1 j r k = k (reOld sel h h1 j r)
  | _, [], _ => rfl
  | j, b :: r, k => by
    simp only [reOldK, ixK_eq, getK_at, genK_eq, reBK_eq, reOldK_eq sel h h1 (j + 1) r, Nat.zero_add, reOld]
    generalize ixOf sel j = a
    cases a with
    | none => rfl
    | some i =>
      dsimp only
      generalize at? h1 i = o
      cases o <;> rfl
def reHK (sel : List Nat) (h h1 : List Box) (k : List Box → α) : α := reOldK sel h h1 0 h fun a => lenK sel 0 fun n => dropK n h1 fun h2 => mapsK (reBK sel h 0) h2 fun b => appendK a b k
theorem reHK_eq (sel : List Nat) (h h1 : List Box) (k : List Box → α) : reHK sel h h1 k = k (reH sel h h1) := by
  unfold reHK reH
  simp only [reOldK_eq, lenK_eq, Nat.zero_add, dropK_eq, mapsK_eq (reBK_eq sel h 0), appendK_eq]

/-- The boxes to which values refer. -/
def memN (d : Nat) : List Nat → Bool
  | [] => false
  | a :: l => match Nat.beq a d with
    | true => true
    | false => memN d l
def addK (j : Nat) (sel : List Nat) (k : List Nat → α) : α := match memN j sel with
  | true => k sel
  | false => appendK sel [j] k
def seeA (h : List Box) (x : AV) (sel : List Nat) (k : List Nat → α) : α :=
  match x with
  | .own j g => getK h j (k sel) fun
    | .arr g' _ _ => match Nat.beq g g' with
      | true => addK j sel k
      | false => k sel
    | _ => k sel
  | .ptr j _ => getK h j (k sel) fun
    | .cells _ => addK j sel k
    | _ => k sel
  | .aptr j g _ _ => getK h j (k sel) fun
    | .arr g' _ _ => match Nat.beq g g' with
      | true => addK j sel k
      | false => k sel
    | _ => k sel
  | .map j => getK h j (k sel) fun
    | .map _ => addK j sel k
    | _ => k sel
  | _ => k sel
def seesA (h : List Box) : List AV → List Nat → (List Nat → α) → α
  | [], sel, k => k sel
  | x :: l, sel, k => seeA h x sel fun sel' => seesA h l sel' k
def seesV (h : List Box) : List AV → List Nat → (List Nat → α) → α
  | [], sel, k => k sel
  | x :: l, sel, k => match x with
    | .agg c => seesA h c sel fun sel' => seesV h l sel' k
    | .tup c => seesA h c sel fun sel' => seesV h l sel' k
    | .fn _ a b => seesA h a sel fun sel' => seesA h b sel' fun sel'' => seesV h l sel'' k
    | x => seeA h x sel fun sel' => seesV h l sel' k
def closeK (h : List Box) : Nat → Nat → List Nat → (List Nat → α) → α
  | 0, _, sel, k => k sel
  | n + 1, p, sel, k => getK sel p (k sel) fun j => getK h j (closeK h n (p + 1) sel k) fun
    | .cells cs => seesA h cs sel fun sel' => closeK h n (p + 1) sel' k
    | _ => closeK h n (p + 1) sel k

def okSel (n : Nat) : List Nat → Bool
  | [] => true
  | j :: l => match memN j l, Nat.blt j n with
    | false, true => okSel n l
    | _, _ => false
end cps

theorem memN_iff {d : Nat} : ∀ {l : List Nat}, memN d l = true ↔ d ∈ l
  | [] => by simp [memN]
  | a :: l => by
    simp only [memN]
    split
    · rename_i q; simp [Nat.eq_of_beq_eq_true q]
    · rename_i q
      have hne : d ≠ a := fun e => by rw [e, Nat.beq_refl] at q; cases q
      rw [memN_iff (l := l)]
      simp [hne]
theorem okSel_spec {n : Nat} : ∀ {l : List Nat}, okSel n l = true → l.Nodup ∧ ∀ j ∈ l, j < n
  | [], _ => ⟨.nil, fun j hj => by simp at hj⟩
  | j :: l, H => by
    simp only [okSel] at H
    split at H
    · rename_i q1 q2
      obtain ⟨h1, h2⟩ := okSel_spec H
      refine ⟨List.nodup_cons.2 ⟨fun hm => ?_, h1⟩, fun i hi => ?_⟩
      · rw [memN_iff.2 hm] at q1; cases q1
      · rcases List.mem_cons.1 hi with rfl | hi
        · exact Nat.le_of_ble_eq_true q2
        · exact h2 i hi
    · cases H

/-- A call by a contract with boxes. -/
@[irreducible] def callS (E : Env) (f : FuncId) (h0 : List Box) (args : List AV) (K : AV → List Box → Prop) : Prop := ∃ Q, ACalls E f h0 args Q ∧ ∀ r h1, Q r h1 → K r h1
theorem callS_any {E : Env} {f : FuncId} {h0 : List Box} {args : List AV} {K Q : AV → List Box → Prop} (H : ACalls E f h0 args Q) (hk : ∀ r h1, Q r h1 → K r h1) : callS E f h0 args K := by unfold callS; exact ⟨Q, H, hk⟩
theorem callS_eq {E : Env} {f : FuncId} {h0 : List Box} {args : List AV} {K : AV → List Box → Prop} {r : AV} {h1 : List Box} (H : ACalls E f h0 args (fun a b => a = r ∧ b = h1)) (hk : K r h1) : callS E f h0 args K := callS_any H fun _ _ ⟨e1, e2⟩ => by subst e1; subst e2; exact hk

def callBK (E : Env) (f : FuncId) (avs : List AV) (h : List Box) (stop : Prop) (k : AV → List Box → Prop) : Prop :=
  seesV h avs [] fun sel0 => closeK h 20 0 sel0 fun sel => lenK h 0 fun n => match okSel n sel with
    | true => unHK sel h fun h0 => mapsK (unVK sel h) avs fun args0 => callS E f h0 args0 fun r h1 => reVK sel h r fun v => reHK sel h h1 fun h' => k v h'
    | false => stop

/-- The CPS parts that only look for boxes yield some list. -/
theorem seeA_some {h : List Box} {x : AV} {sel : List Nat} {k : List Nat → Prop} (H : seeA h x sel k) : ∃ l, k l := by
  have hadd : ∀ {j : Nat}, addK j sel k → ∃ l, k l := fun {j} H => by
    unfold addK at H
    split at H
    · exact ⟨_, H⟩
    · rw [appendK_eq] at H; exact ⟨_, H⟩
  unfold seeA at H
  split at H
  all_goals first
    | exact ⟨_, H⟩
    | (rcases getK_or H with H | ⟨_, _, H⟩
       · exact ⟨_, H⟩
       split at H
       · first
         | exact hadd H
         | (split at H
            · exact hadd H
            · exact ⟨_, H⟩)
       · exact ⟨_, H⟩)
theorem seesA_some {h : List Box} : ∀ {l : List AV} {sel : List Nat} {k : List Nat → Prop}, seesA h l sel k → ∃ l, k l
  | [], _, _, H => ⟨_, H⟩
  | _ :: _, _, _, H => by
    simp only [seesA] at H
    obtain ⟨_, H⟩ := seeA_some H
    exact seesA_some H
theorem seesV_some {h : List Box} : ∀ {l : List AV} {sel : List Nat} {k : List Nat → Prop}, seesV h l sel k → ∃ l, k l
  | [], _, _, H => ⟨_, H⟩
  | x :: _, _, _, H => by
    simp only [seesV] at H
    split at H
    · obtain ⟨_, H⟩ := seesA_some H; exact seesV_some H
    · obtain ⟨_, H⟩ := seesA_some H; exact seesV_some H
    · obtain ⟨_, H⟩ := seesA_some H; obtain ⟨_, H⟩ := seesA_some H; exact seesV_some H
    · obtain ⟨_, H⟩ := seeA_some H; exact seesV_some H
theorem closeK_some {h : List Box} : ∀ {n p : Nat} {sel : List Nat} {k : List Nat → Prop}, closeK h n p sel k → ∃ l, k l
  | 0, _, _, _, H => ⟨_, H⟩
  | n + 1, p, sel, k, H => by
    simp only [closeK] at H
    rcases getK_or H with H | ⟨j, _, H⟩
    · exact ⟨_, H⟩
    rcases getK_or H with H | ⟨b, _, H⟩
    · exact closeK_some H
    split at H
    · obtain ⟨_, H⟩ := seesA_some H; exact closeK_some H
    · exact closeK_some H

theorem callBK_sound {E : Env} {f : FuncId} {avs : List AV} {h : List Box} {stop : Prop} {k : AV → List Box → Prop} (H : callBK E f avs h stop k) : stop ∨ ∃ (sel : List Nat) (Q : AV → List Box → Prop),
    ACalls E f (unH sel h) (avs.map (unV sel h)) Q ∧ sel.Nodup ∧ (∀ j ∈ sel, j < h.length) ∧ ∀ r h1, Q r h1 → k (reV sel h r) (reH sel h h1) := by
  unfold callBK at H
  obtain ⟨s0, H⟩ := seesV_some H
  obtain ⟨sel, H⟩ := closeK_some H
  rw [lenK_eq, Nat.zero_add] at H
  split at H
  · rename_i q
    obtain ⟨h1, h2⟩ := okSel_spec q
    rw [unHK_eq, mapsK_eq (unVK_eq sel h)] at H
    unfold callS at H
    obtain ⟨Q, h3, h4⟩ := H
    refine .inr ⟨sel, Q, h3, h1, h2, fun r h1 hq => ?_⟩
    have := h4 r h1 hq
    dsimp only at this
    rw [reVK_eq, reHK_eq] at this
    exact this
  · exact .inl H

section
variable {E : Env} {f0 fid : FuncId} {k : List AItem} {s : List AV} {cls : List AFrame} {h : List Box} {R : Post}

theorem AW.acall {ops : Array Oper} {o : Oper} {l : List Oper} {fx : Operand} {args : Array Operand} {ts : Array TypeId} {f : FuncId} {a1 a2 av : List AV} {sel : List Nat} {Q : AV → List Box → Prop} (hw : Wanted ops o s true) (ho : o.op = .call { callee := .value fx, args := args, argTypes := ts })
    (hf : EvOK E.G s fx (.fn (.func f) a1 a2)) (ha : EvsOK E.G s args.toList av) (hc : ACalls E f (unH sel h) ((a1 ++ av ++ a2).map (unV sel h)) Q) (hn : sel.Nodup) (hlt : ∀ j ∈ sel, j < h.length)
    (H : ∀ r h1, Q r h1 → AW E f0 ⟨fid, .reg ops l :: k, putS s o.dst (reV sel h r)⟩ cls (reH sel h h1) R) : AW E f0 ⟨fid, .reg ops (o :: l) :: k, s⟩ cls h R := by
  unfold AW at H ⊢
  intro c0 c t ts h0 h1 h2 h3 hr h4 h5 cs
  obtain ⟨i, hi, hcn, hok⟩ := reg_at (h1 _ (List.mem_cons_self ..))
  obtain ⟨v1, v2, e1, e2, e3⟩ := vr_fn (hf c ⟨t, []⟩ h3 h4)
  have e4 := ha c ⟨t, []⟩ h3 h4
  have e5 := (e2.append e4).append e3
  have hb : HasBody E.P f := by unfold ACalls at hc; exact hc.1
  obtain ⟨e, w', fr, ⟨c', r, hp, v, rfl, rfl, hQ, hh', hv, ho', hst⟩, hcomes, hfn, hleave⟩ := hc.at (c := c) hn hlt h2 h3 e5 ((bf fid).at ⟨t, []⟩ (.inRegion ops (i :: (List.range ops.size).drop (ops.size - l.length)) :: k.map AItem.conc) :: (concs cls ts ++ cs))
  have hput : VS c' (putS s o.dst (reV sel h r)) ((⟨t, []⟩ : Act).put o.dst v).tmps := VS.putS (a := ⟨t, []⟩) (hst.vs h4) o.dst hv
  obtain ⟨c2, fr2, r2, u2, q1, q2, q3, q3', q4, q5, q6⟩ := H r hp hQ c0 c' _ ts h0 (ok_cons hok (ok_tail h1)) hh' ho' (hr.step hst) hput (hst.cr h5) cs
  refine ⟨c2, fr2, r2, u2, q1, q2, q3, q3', ?_, q5, q6⟩
  have hrun := run_call (P := E.P) (w := c.w) (a := ⟨t, []⟩) ho e1 hb
  have hargs : (v1.toArray ++ args.map (⟨t, []⟩ : Act).eval ++ v2.toArray) = (v1 ++ args.toList.map (⟨t, []⟩ : Act).eval ++ v2).toArray := by
    apply Array.ext'
    simp
  rw [hargs] at hrun
  have s1 := step_enter (P := E.P) (b := bf fid) (k := k.map AItem.conc) (cs := concs cls ts ++ cs) (rest := (List.range ops.size).drop (ops.size - l.length)) hi (hw c t h4) hrun
  have s2 := step_leave_returned (c := (bf fid).at ⟨t, []⟩ (.inRegion ops (i :: (List.range ops.size).drop (ops.size - l.length)) :: k.map AItem.conc)) (cs := concs cls ts ++ cs) hleave
  rw [Frame.finish_at, hi] at s2
  have hcur : (⟨fid, .reg ops (o :: l) :: k, s⟩ : AFrame).conc t = (bf fid).at ⟨t, []⟩ (.inRegion ops (i :: (List.range ops.size).drop (ops.size - l.length)) :: k.map AItem.conc) := by
    simp only [AFrame.conc, List.map_cons, hcn]
  rw [hcur]
  refine .head s1 (Steps.trans hcomes (.head s2 ?_))
  have hnext : (bf fid).at ((⟨t, []⟩ : Act).put ((some o).bind (·.dst)) v) (.inRegion ops ((List.range ops.size).drop (ops.size - l.length)) :: k.map AItem.conc) = (⟨fid, .reg ops l :: k, putS s o.dst (reV sel h r)⟩ : AFrame).conc ((⟨t, []⟩ : Act).put o.dst v).tmps := by
    simp only [AFrame.conc, List.map_cons, AItem.conc, Option.bind_some]
    rw [put_defers]
  rw [hnext]
  exact q4
end
end Go.Eng
