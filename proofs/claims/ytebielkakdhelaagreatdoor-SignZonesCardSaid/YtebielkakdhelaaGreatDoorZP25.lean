/- Signed zones: they are valid, and have the same sets. Plain Lean, no conditions. -/
import Derived.Test.YtebielkakdhelaaGreatDoorZP23
import Derived.Test.YtebielkakdhelaaGreatDoorZSort
set_option linter.unusedVariables false
set_option linter.unusedSimpArgs false
namespace Go.Proofs.YtebielkakdhelaaGreatDoor.P
open Go Go.Eng

/-- A set without signatures. -/
def bare (s : Signed) : Signed := ⟨s.set, []⟩
theorem chain_map {α β : Type} {ok : α → Bool} {rel : α → α → Bool} (h : β → α) : ∀ (p : Option β) (l : List β), chain ok rel (p.map h) (l.map h) = chain (fun x => ok (h x)) (fun x y => rel (h x) (h y)) p l
  | _, [] => rfl
  | p, x :: l => by
    have := chain_map h (some x) l (ok := ok) (rel := rel)
    cases p <;> simp only [List.map_cons, chain, Option.map_some, Option.map_none] at this ⊢ <;> rw [this]
theorem chain_all {α : Type} {ok : α → Bool} {rel : α → α → Bool} : ∀ (p : Option α) (l : List α), (∀ x ∈ l, ok x = true) → (∀ q, p = some q → ∀ x ∈ l, rel q x = true) → l.Pairwise (fun a b => rel a b = true) → chain ok rel p l = true
  | _, [], _, _, _ => rfl
  | p, x :: l, h1, h2, h3 => by
    obtain ⟨h4, h5⟩ := List.pairwise_cons.1 h3
    have := chain_all (some x) l (fun y hy => h1 y (List.mem_cons_of_mem _ hy)) (fun q e => by cases e; exact h4) h5
    cases p with
    | none => simp [chain, h1 x (List.mem_cons_self ..), this]
    | some q => simp [chain, h1 x (List.mem_cons_self ..), this, h2 q rfl x (List.mem_cons_self ..)]

theorem one_bare (apex : Text) (l : List Signed) : oneB ⟨apex, l.map bare⟩ = oneB ⟨apex, l⟩ := by
  have := chain_map bare (none : Option Signed) l (ok := ok1 apex) (rel := before1)
  simp only [Option.map_none] at this
  simp only [oneB, this, List.length_map]
  rfl
theorem atI_bare (l : List Signed) (q : Quest) : atI (l.map bare) q = atI l q := by
  have : (l.map bare).findIdx? (atQ q) = l.findIdx? (atQ q) := by
    rw [List.findIdx?_map]
    rfl
  simp only [atI, this]
theorem two_bare (apex : Text) (l : List Signed) : twoB ⟨apex, l.map bare⟩ = twoB ⟨apex, l⟩ := by
  simp only [twoB, atI_bare, List.all_map]
  rfl
theorem three_bare : ∀ (l : List Signed) (al : Text) (p : Option Text), threeL al p (l.map bare) = threeL al p l
  | [], _, _ => rfl
  | x :: l, al, p => by
    simp only [List.map_cons, threeL, three_bare l]
    rfl
theorem cuts_bare (apex : Text) (l : List Signed) : cutsL apex (l.map bare) = cutsL apex l := by
  simp only [cutsL, List.filter_map, List.map_map]
  rfl
theorem behind_bare (apex : Text) (l : List Signed) : behindZ ⟨apex, l.map bare⟩ = behindZ ⟨apex, l⟩ := by
  simp only [behindZ, cuts_bare, List.map_map]
  rfl
theorem own_bare (apex : Text) (l : List Signed) : ownZ ⟨apex, l.map bare⟩ = ownZ ⟨apex, l⟩ := by
  simp only [ownZ, behind_bare, List.zip_map_left, List.map_map]
  rfl
theorem four_bare (apex : Text) (l : List Signed) : fourB ⟨apex, l.map bare⟩ = fourB ⟨apex, l⟩ := by
  simp only [fourB, behind_bare, List.zip_map_left, List.all_map]
  rfl

/-- A zone whose own sets are signed. -/
def signZ (z : Zone) (ord : List Key) (frm upto : Int) : Zone :=
  ⟨z.apex, (z.sets.zip (ownZ z)).map fun p => ⟨p.1.set, if p.2 then ord.map (fun k => sigOf p.1.set z.apex k frm upto) else []⟩⟩
theorem signZ_len (z : Zone) (ord : List Key) (frm upto : Int) : (signZ z ord frm upto).sets.length = z.sets.length := by simp [signZ, ownZ_len]
theorem signZ_at {z : Zone} {ord : List Key} {frm upto : Int} {i : Nat} {s : Signed} {o : Bool} (hs : z.sets[i]? = some s) (ho : (ownZ z)[i]? = some o) : (signZ z ord frm upto).sets[i]? = some ⟨s.set, if o then ord.map (fun k => sigOf s.set z.apex k frm upto) else []⟩ := by
  simp only [signZ, List.getElem?_map, zip_at hs ho, Option.map_some]
theorem signZ_bare (z : Zone) (ord : List Key) (frm upto : Int) : (signZ z ord frm upto).sets.map bare = z.sets.map bare := by
  apply List.ext_getElem?
  intro i
  simp only [List.getElem?_map]
  cases hs : z.sets[i]? with
  | none => rw [List.getElem?_eq_none (by rw [signZ_len]; exact List.getElem?_eq_none_iff.1 hs)]
  | some s =>
    obtain ⟨o, ho⟩ := some_of_lt (l := ownZ z) (k := i) (by rw [ownZ_len]; exact lt_of_getElem? hs)
    rw [signZ_at hs ho]
    rfl
theorem signZ_own (z : Zone) (ord : List Key) (frm upto : Int) : ownZ (signZ z ord frm upto) = ownZ z := by
  have h1 := own_bare z.apex (signZ z ord frm upto).sets
  rw [signZ_bare, own_bare] at h1
  exact h1.symm
/-- Signing a signed zone is signing the zone. -/
theorem signZ_again (z : Zone) (o1 o2 : List Key) (f1 u1 f2 u2 : Int) : signZ (signZ z o1 f1 u1) o2 f2 u2 = signZ z o2 f2 u2 := by
  have hl : (signZ (signZ z o1 f1 u1) o2 f2 u2).sets = (signZ z o2 f2 u2).sets := by
    apply List.ext_getElem?
    intro i
    cases hs : z.sets[i]? with
    | none =>
      have := List.getElem?_eq_none_iff.1 hs
      rw [List.getElem?_eq_none (by rw [signZ_len, signZ_len]; exact this), List.getElem?_eq_none (by rw [signZ_len]; exact this)]
    | some s =>
      obtain ⟨o, ho⟩ := some_of_lt (l := ownZ z) (k := i) (by rw [ownZ_len]; exact lt_of_getElem? hs)
      have h1 := signZ_at (ord := o1) (frm := f1) (upto := u1) hs ho
      rw [signZ_at hs ho, signZ_at h1 (by rw [signZ_own]; exact ho)]
      rfl
  show (⟨z.apex, (signZ (signZ z o1 f1 u1) o2 f2 u2).sets⟩ : Zone) = ⟨z.apex, (signZ z o2 f2 u2).sets⟩
  rw [hl]

theorem signZ_valid {z : Zone} {ord : List Key} {frm upto : Int} (h : zoneR z = true) (hk : ∀ k ∈ ord, keyOK k = true) (hl : ord.length ≤ 6) (hs : ord.Pairwise (fun a b => a.n < b.n)) (hw : winOK frm upto = true) : zoneR (signZ z ord frm upto) = true := by
  have e : ∀ x : Zone, x = ⟨x.apex, x.sets⟩ := fun x => rfl
  simp only [zoneR, Bool.and_eq_true] at h ⊢
  obtain ⟨h1, h2, h3, h4, h5⟩ := h
  have hb := signZ_bare z ord frm upto
  refine ⟨?_, ?_, ?_, ?_, ?_⟩
  · have := one_bare z.apex (signZ z ord frm upto).sets
    rw [hb, one_bare] at this
    exact this.symm.trans h1
  · have := two_bare z.apex (signZ z ord frm upto).sets
    rw [hb, two_bare] at this
    exact this.symm.trans h2
  · have := three_bare (signZ z ord frm upto).sets [] none
    rw [hb, three_bare] at this
    exact this.symm.trans h3
  · have := four_bare z.apex (signZ z ord frm upto).sets
    rw [hb, four_bare] at this
    exact this.symm.trans h4
  · rw [fiveB, signZ_own]
    apply List.all_eq_true.2
    rintro ⟨s', o⟩ hm
    obtain ⟨i, hi⟩ := List.getElem?_of_mem hm
    rw [List.getElem?_zip_eq_some] at hi
    obtain ⟨g1, g2⟩ := hi
    simp only at g1 g2
    obtain ⟨s, hsi⟩ := some_of_lt (l := z.sets) (k := i) (by rw [← ownZ_len]; exact lt_of_getElem? g2)
    rw [signZ_at hsi g2] at g1
    cases g1
    have hapex : (signZ z ord frm upto).apex = z.apex := rfl
    simp only [five1, hapex]
    cases o
    · simp [sigsB, chain]
    · simp only [if_true, Bool.not_true, Bool.false_and, Bool.not_false, Bool.and_true, sigsB, List.length_map, Bool.and_eq_true, decide_eq_true_eq]
      refine ⟨by omega, ?_⟩
      have := chain_map (fun k => sigOf s.set z.apex k frm upto) none ord (ok := sigZ z.apex ((ord.map fun k => sigOf s.set z.apex k frm upto).headD sig0)) (rel := keyLt)
      simp only [Option.map_none] at this
      rw [this]
      refine chain_all none ord (fun k hkm => ?_) (fun q e => by cases e) (hs.imp (fun {a b} hab => by simp [keyLt, sigOf, hab]))
      have hk1 := hk k hkm
      obtain ⟨k0, r, rfl⟩ := List.exists_cons_of_ne_nil (List.ne_nil_of_mem hkm)
      simp only [keyOK, winOK, Bool.and_eq_true, decide_eq_true_eq] at hk1 hw
      simp only [sigZ, sigOf, List.map_cons, List.headD_cons, beq_self_eq_true, Bool.true_and, Bool.and_true, Bool.and_eq_true, decide_eq_true_eq]
      obtain ⟨⟨⟨q1, q2⟩, q3⟩, q4⟩ := hk1
      obtain ⟨⟨q5, q6⟩, q7⟩ := hw
      exact ⟨⟨⟨⟨⟨⟨decide_eq_true q1, decide_eq_true q2⟩, decide_eq_true q3⟩, decide_eq_true q4⟩, decide_eq_true q5⟩, decide_eq_true q6⟩, decide_eq_true q7⟩

/-- The order of keys. -/
def ordK (keys : List Key) : List Key := sortL (·.n) keys
def twiceB (keys : List Key) : Bool := !decide ((keys.map (·.n)).Nodup)
theorem ordK_lt {keys : List Key} (h : twiceB keys = false) : (ordK keys).Pairwise (fun a b => a.n < b.n) := by
  have h1 := sortL_sorted (·.n) keys
  have h2 : ((ordK keys).map (·.n)).Nodup := ((sortL_perm (·.n) keys).map (·.n)).nodup_iff.2 (by simpa [twiceB] using h)
  have h3 : (ordK keys).Pairwise (fun a b => a.n ≠ b.n) := by
    rw [List.nodup_iff_pairwise_ne, List.pairwise_map] at h2
    exact h2
  exact (List.Pairwise.and h1 h3).imp (fun {a b} h => by omega)
theorem ordK_mem {keys : List Key} {k : Key} : k ∈ ordK keys ↔ k ∈ keys := (sortL_perm (·.n) keys).mem_iff
theorem ordK_len (keys : List Key) : (ordK keys).length = keys.length := sortL_len _ _

/-- What signing a zone leads to. -/
def allOK (z : Zone) (keys : List Key) (frm upto : Int) : Bool := decide (1 ≤ keys.length) && decide (keys.length ≤ 6) && winOK frm upto && zoneR z && keys.all keyOK
def allE (z : Zone) (keys : List Key) (frm upto : Int) : Int := if allOK z keys frm upto then (if twiceB keys then 5 else 0) else 1
def allZ (z : Zone) (keys : List Key) (frm upto : Int) : Zone := if allOK z keys frm upto && !twiceB keys then signZ z (ordK keys) frm upto else ⟨[], []⟩

/-- What is signed in a valid zone can be signed. -/
theorem signOK_zone {z : Zone} (h : zoneR z = true) {s : Signed} (hs : s ∈ z.sets) {k : Key} (hk : keyOK k = true) {frm upto : Int} (hw : winOK frm upto = true) : signOK s.set z.apex k frm upto = true := by
  simp only [zoneR, Bool.and_eq_true] at h
  have h1 := h.1
  obtain ⟨-, h3, h4⟩ := oneB_sets h1
  have h5 := h3 s hs
  simp only [ok1, Bool.and_eq_true] at h5
  have hn := setOK_name h5.1
  have hw' : Nm.wild z.apex = false := by
    simp only [oneB, Bool.and_eq_true] at h1
    have := h1.1.1.2
    rw [wild_eq h4] at this
    simpa using this
  simp [signOK, hk, hw, h4, hw', h5.1, under_v hn h4, h5.2]

end Go.Proofs.YtebielkakdhelaaGreatDoor.P
