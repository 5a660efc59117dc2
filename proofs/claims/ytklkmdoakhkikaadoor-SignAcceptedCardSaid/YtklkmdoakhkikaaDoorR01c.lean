/- Contracts of the names' reference: Parts, Valid, In, Under; Wild. -/
import Derived.Test.YtklkmdoakhkikaaDoorR01b
namespace Go.Proofs.YtklkmdoakhkikaaDoor
open Go.RowKit

/-- A slice of texts, opened. -/
theorem SlOf.strs {w : World} {v : Value} {xs : List ByteArray} (h : SlOf RdStr 1 w v xs) : ∃ a cap, v = .slice a xs.length cap ∧ xs.length ≤ cap ∧ cap ≤ maxLen ∧
    ∀ (i : Nat) (x : ByteArray), xs[i]? = some x → ∃ b off, a = some ⟨b, off, none⟩ ∧ w.cell? ⟨b, off + i, none⟩ = some (.string x) ∧ x.size ≤ maxLen := by
  obtain ⟨a, cap, h1, h2, h3, _, h5⟩ := h
  refine ⟨a, cap, h1, h2, h3, fun i x hi => ?_⟩
  obtain ⟨b, off, cs, g1, g2, g3, g4, g5⟩ := h5 i x hi
  subst g4
  have := g3 0 _ rfl
  rw [Nat.mul_one, Nat.add_zero] at this
  exact ⟨b, off, g1, this, g5⟩

theorem strEq (a b : ByteArray) : (a.toList == b.toList) = decide (toL a = toL b) := by
  rw [ByteArray.toList_eq, ByteArray.toList_eq, Bool.eq_iff_iff]; simp only [beq_iff_eq, decide_eq_true_eq]

def Nm.okAt (ls : List (List UInt8)) (i : Nat) : Bool := match ls[i]? with
  | some x => Nm.label x || (decide (i = 0) && decide (x = [42]))
  | none => true
theorem Nm.parts_iff (ls : List (List UInt8)) : Nm.parts ls = true ↔ ls.length ≤ 8 ∧ ∀ i, i < ls.length → Nm.okAt ls i = true := by
  cases ls with
  | nil => simp [Nm.parts]
  | cons x t =>
    simp only [Nm.parts, Bool.and_eq_true, decide_eq_true_eq, Bool.or_eq_true, beq_iff_eq, List.all_eq_true]
    constructor
    · rintro ⟨h1, h2, h3⟩
      refine ⟨h1, fun i hi => ?_⟩
      cases i with
      | zero => simp [Nm.okAt]; exact h2
      | succ j =>
        have hj : j < t.length := by simpa using hi
        simp only [Nm.okAt, List.getElem?_cons_succ, List.getElem?_eq_getElem hj]
        simp [h3 _ (List.getElem_mem hj)]
    · rintro ⟨h1, h2⟩
      refine ⟨h1, ?_, fun y hy => ?_⟩
      · have := h2 0 (by simp); simpa [Nm.okAt] using this
      · obtain ⟨j, hj, rfl⟩ := List.getElem_of_mem hy
        have := h2 (j + 1) (by simpa using hj)
        simpa [Nm.okAt, List.getElem?_eq_getElem hj] using this

theorem Nm.parts_no (ls : List (List UInt8)) (k : Nat) (h : k < ls.length) (hk : Nm.okAt ls k = false) : Nm.parts ls = false := by
  rw [← Bool.not_eq_true, Nm.parts_iff]
  rintro ⟨_, g⟩
  rw [g k h] at hk; cases hk
theorem Nm.parts_yes (ls : List (List UInt8)) (h : ∀ i, i < ls.length → Nm.okAt ls i = true) : Nm.parts ls = decide (ls.length ≤ 8) := by
  rw [Bool.eq_iff_iff, Nm.parts_iff]; simp only [decide_eq_true_eq]
  exact ⟨fun g => g.1, fun g => ⟨g, h⟩⟩
theorem Nm.valid_long (l : List UInt8) (h : ¬ l = [46]) (hl : 60 < l.length) : Nm.valid l = false := by
  simp only [Nm.valid, h, decide_false, Bool.false_or, Bool.and_eq_false_iff, decide_eq_false_iff_not]; omega
theorem Nm.valid_short (l : List UInt8) (h : ¬ l = [46]) (hl : l.length ≤ 60) : Nm.valid l = Nm.parts (Nm.split l) := by
  simp only [Nm.valid, h, decide_false, Bool.false_or, hl, decide_true, Bool.true_and]

set_option maxHeartbeats 800000 in
theorem rvalid1_any (s : ByteArray) (w : World) (hs : s.size ≤ maxLen) :
    Calls Tryd.prog 16 #[.string s] w fun e w' => e = .returned (.bool (Nm.valid (toL s))) ∧ Ext w w' := by
  unfold maxLen at hs
  have hlen := Nm.len s
  by_cases hr : toL s = [46]
  · have hb : (s.toList == [46]) = true := by rw [ByteArray.toList_eq]; simp only [beq_iff_eq]; exact hr
    have hv : Nm.valid (toL s) = true := by simp [Nm.valid, hr]
    have HV := Lib.hid hv
    clear hv hr hlen
    go_enter Tryd.func16, Tryd.ntmps16
    go_wp2
    go_ret
    exact ⟨by rw [HV.out]; rfl, Ext.refl _⟩
  · have hb : (s.toList == [46]) = false := by rw [ByteArray.toList_eq]; simp only [beq_eq_false_iff_ne]; exact hr
    by_cases h60 : s.size ≤ 60
    · have HV := Lib.hid (Nm.valid_short (toL s) hr (by rw [hlen]; exact h60))
      clear hr hlen
      go_enter Tryd.func16, Tryd.ntmps16
      go_wp2_with fail
      refine (rsplit_any s _ (by omega)).mono ?_
      rintro e w1 ⟨v, xs, rfl, hsp, hsl, hX⟩
      obtain ⟨a, cap, rfl, hlc, hcm, hat⟩ := hsl.strs
      have HAT := Lib.hid hat
      have HSP := Lib.hid hsp
      have hll : (Nm.split (toL s)).length = xs.length := by rw [← hsp]; simp
      have HLL := Lib.hid hll
      unfold maxLen at hcm
      clear hat hsp hsl hll
      go_wp2_with fail
      go_loop [4] (fun i => ∃ k : Nat, k ≤ xs.length ∧ i = .int .i64 k ∧ Hid (∀ j, j < k → Nm.okAt (Nm.split (toL s)) j = true)) (fun i => xs.length - (intOf i).toNat)
      case atStart => exact ⟨0, Nat.zero_le _, rfl, (fun j hj => by omega : ∀ j, j < 0 → Nm.okAt (Nm.split (toL s)) j = true)⟩
      case round =>
        obtain ⟨k, hk, rfl, I⟩ := hrel
        by_cases hlt : k < xs.length
        · obtain ⟨x, hxk⟩ : ∃ x, xs[k]? = some x := ⟨_, List.getElem?_eq_getElem hlt⟩
          obtain ⟨b, off, rfl, hc, hxm⟩ := HAT.out k x hxk
          have hok : Nm.okAt (Nm.split (toL s)) k = (Nm.label (toL x) || (decide (k = 0) && decide (toL x = [42]))) := by
            rw [← HSP.out]; simp [Nm.okAt, List.getElem?_map, hxk]
          have HOK := Lib.hid hok
          clear hok hxk
          have eStar : (x.toList == [42]) = decide (toL x = [42]) := by rw [ByteArray.toList_eq, Bool.eq_iff_iff]; simp only [beq_iff_eq, decide_eq_true_eq]
          have EStar := Lib.hid eStar
          clear eStar
          cases hlb : Nm.label (toL x)
          · have HLB := Lib.hid hlb
            clear hlb
            by_cases h0 : 0 < k
            · have HNO : Hid (Nm.okAt (Nm.split (toL s)) k = false) := by
                have h1 := HOK.out
                rw [HLB.out, show decide (k = 0) = false by simp; omega] at h1
                exact h1
              go_wp2_with fail
              refine (rlabel_any x _ hxm).mono ?_
              rintro e w' ⟨rfl, rfl⟩
              rw [HLB.out]
              go_wp2_with fail
              go_ret
              exact ⟨by rw [HV.out, Nm.parts_no _ k (by rw [HLL.out]; exact hlt) HNO.out]; rfl, hX⟩
            · cases hst : (x.toList == [42])
              · have HNO : Hid (Nm.okAt (Nm.split (toL s)) k = false) := by
                  have h1 := HOK.out
                  rw [HLB.out, ← EStar.out, hst, Bool.and_false] at h1
                  exact h1
                have hne : (x.toList != [42]) = true := by simp only [bne, hst]; rfl
                go_wp2_with fail
                refine (rlabel_any x _ hxm).mono ?_
                rintro e w' ⟨rfl, rfl⟩
                rw [HLB.out]
                go_wp2_with fail
                go_ret
                exact ⟨by rw [HV.out, Nm.parts_no _ k (by rw [HLL.out]; exact hlt) HNO.out]; rfl, hX⟩
              · have HYES : Hid (Nm.okAt (Nm.split (toL s)) k = true) := by
                  have h1 := HOK.out
                  rw [HLB.out, ← EStar.out, hst, show decide (k = 0) = true by simp; omega] at h1
                  exact h1
                have hne : (x.toList != [42]) = false := by simp only [bne, hst]; rfl
                go_wp2_with fail
                refine (rlabel_any x _ hxm).mono ?_
                rintro e w' ⟨rfl, rfl⟩
                rw [HLB.out]
                go_wp2_with fail
                go_round
                case rel => exact ⟨k + 1, by omega, by go_num, Nm.upto_succ I.out HYES.out⟩
                case measure => simp [intOf]; omega
          · have HYES : Hid (Nm.okAt (Nm.split (toL s)) k = true) := by
              have h1 := HOK.out
              rw [hlb] at h1
              exact h1
            have HLB := Lib.hid hlb
            clear hlb
            go_wp2_with fail
            refine (rlabel_any x _ hxm).mono ?_
            rintro e w' ⟨rfl, rfl⟩
            rw [HLB.out]
            go_wp2_with fail
            go_round
            case rel => exact ⟨k + 1, by omega, by go_num, Nm.upto_succ I.out HYES.out⟩
            case measure => simp [intOf]; omega
        · obtain rfl : k = xs.length := by omega
          go_wp2_with fail
          go_ret
          exact ⟨ret_bool (by rw [HV.out, Nm.parts_yes _ (by rw [HLL.out]; exact I.out), HLL.out, Bool.eq_iff_iff]; simp; try omega), hX⟩
    · have HV := Lib.hid (Nm.valid_long (toL s) hr (by rw [hlen]; omega))
      clear hr hlen
      go_enter Tryd.func16, Tryd.ntmps16
      go_wp2_with fail
      go_ret
      exact ⟨by rw [HV.out]; rfl, Ext.refl _⟩

set_option maxHeartbeats 800000 in
theorem rparts_any (s : ByteArray) (w : World) (hs : s.size ≤ 1000) :
    Calls Tryd.prog 59 #[.string s] w (Ret (SlOf RdStr 1) (fun xs : List ByteArray => xs.map toL = Nm.labels (toL s)) w) := by
  by_cases hr : toL s = [46]
  · have hb : (s.toList == [46]) = true := by rw [ByteArray.toList_eq]; simp only [beq_iff_eq]; exact hr
    have HR := Lib.hid hr
    clear hr
    go_enter Tryd.func59, Tryd.ntmps59
    go_wp2
    go_ret
    exact ⟨_, [], rfl, by simp [Nm.labels, HR.out], SlOf.of_owns (World.ownsRow_nil _ 0 0 1) rfl (fun i x hi => by simp at hi), Ext.refl _⟩
  · have hb : (s.toList == [46]) = false := by rw [ByteArray.toList_eq]; simp only [beq_eq_false_iff_ne]; exact hr
    have HR := Lib.hid hr
    clear hr
    go_enter Tryd.func59, Tryd.ntmps59
    go_wp2_with fail
    refine (rsplit_any s _ hs).mono ?_
    rintro e w1 ⟨v, xs, rfl, hsp, hsl, hX⟩
    have HSP := Lib.hid hsp
    clear hsp
    go_wp2_with fail
    go_ret
    exact ⟨v, xs, rfl, by show xs.map toL = _; rw [HSP.out]; simp [Nm.labels, HR.out], hsl, hX⟩

set_option maxHeartbeats 800000 in
theorem rwild_any (s : ByteArray) (w : World) (hs : s.size ≤ maxLen) :
    Calls Tryd.prog 17 #[.string s] w fun e w' => e = .returned (.bool (Nm.wild (toL s))) ∧ w = w' := by
  unfold maxLen at hs
  by_cases h0 : 0 < s.size
  · have hh : Nm.wild (toL s) = decide ((s[0].toNat : Int) = 42) := by
      have e : toL s = s[0] :: (toL s).tail := by
        have hk : 0 < s.data.toList.length := by rw [Nm.len]; exact h0
        conv => lhs; rw [show toL s = s.data.toList from rfl, ← List.drop_zero (l := s.data.toList), List.drop_eq_getElem_cons hk]
        simp [toL]; rfl
      rw [e]
      simp only [Nm.wild]
      rw [Bool.eq_iff_iff]; simp only [beq_iff_eq, decide_eq_true_eq]
      constructor
      · intro e; rw [e]; rfl
      · intro e; apply UInt8.toNat.inj; show _ = 42; omega
    have HH := Lib.hid hh
    clear hh
    go_enter Tryd.func17, Tryd.ntmps17
    go_wp2
    go_ret
    exact ⟨ret_bool (by rw [HH.out, Bool.eq_iff_iff]; simp), rfl⟩
  · have hh : Nm.wild (toL s) = false := by
      have : toL s = [] := List.eq_nil_of_length_eq_zero (by rw [Nm.len]; omega)
      rw [this]; rfl
    have HH := Lib.hid hh
    clear hh
    go_enter Tryd.func17, Tryd.ntmps17
    go_wp2
    go_ret
    exact ⟨by rw [HH.out]; rfl, rfl⟩

/-- The parts at the end are the same. -/
theorem Nm.suffix_iff (m l : List (List UInt8)) : m <:+ l ↔ m.length ≤ l.length ∧ ∀ i, i < m.length → l[l.length - m.length + i]? = m[i]? := by
  constructor
  · rintro ⟨p, rfl⟩
    refine ⟨by simp, fun i hi => ?_⟩
    rw [show (p ++ m).length - m.length + i = p.length + i by simp, List.getElem?_append_right (by omega)]
    congr 1; omega
  · rintro ⟨h1, h2⟩
    refine ⟨l.take (l.length - m.length), ?_⟩
    conv => rhs; rw [← List.take_append_drop (l.length - m.length) l]
    congr 1
    apply List.ext_getElem?
    intro i
    rw [List.getElem?_drop]
    by_cases hi : i < m.length
    · rw [h2 i hi]
    · rw [List.getElem?_eq_none (by omega), List.getElem?_eq_none (by omega)]

set_option maxHeartbeats 800000 in
theorem rin_any (s z : ByteArray) (w : World) (hs : s.size ≤ 1000) (hz : z.size ≤ 1000) :
    Calls Tryd.prog 40 #[.string s, .string z] w fun e w' => e = .returned (.bool (Nm.under (toL s) (toL z))) ∧ Ext w w' := by
  go_enter Tryd.func40, Tryd.ntmps40
  go_wp2_with fail
  refine (rparts_any s _ hs).mono ?_
  rintro e w1 ⟨v, xs, rfl, hsp, hsl, hX⟩
  have HSP := Lib.hid hsp
  obtain ⟨a, cap, rfl, hlc, hcm, hat⟩ := hsl.strs
  go_wp2_with fail
  refine (rparts_any z _ hz).mono ?_
  rintro e w2 ⟨v2, zs, rfl, hsp2, hsl2, hX2⟩
  have HSP2 := Lib.hid hsp2
  obtain ⟨a2, cap2, rfl, hlc2, hcm2, hat2⟩ := hsl2.strs
  have HAT := Lib.hid hat
  have HAT2 := Lib.hid hat2
  unfold maxLen at hcm hcm2
  clear hat hat2 hsp hsp2 hsl hsl2
  have hXX := hX.trans hX2
  by_cases hle : zs.length ≤ xs.length
  · go_wp2_with fail
    go_loopw [7] (fun i wr => ∃ k : Nat, k ≤ zs.length ∧ i = .int .i64 k ∧ Ext w2 wr ∧ Hid (∀ j, j < k → xs[xs.length - zs.length + j]? = zs[j]?)) (fun i _ => zs.length - (intOf i).toNat)
    case atStart => exact ⟨0, Nat.zero_le _, rfl, Ext.refl _, (fun j hj => by omega : ∀ j, j < 0 → xs[xs.length - zs.length + j]? = zs[j]?)⟩
    case round =>
      obtain ⟨k, hk, rfl, hx, I⟩ := hrel
      by_cases hlt : k < zs.length
      · obtain ⟨x, hxk⟩ : ∃ x, xs[xs.length - zs.length + k]? = some x := ⟨_, List.getElem?_eq_getElem (by omega)⟩
        obtain ⟨y, hyk⟩ : ∃ y, zs[k]? = some y := ⟨_, List.getElem?_eq_getElem hlt⟩
        obtain ⟨b, off, rfl, hc, hxm⟩ := HAT.out _ x hxk
        obtain ⟨b2, off2, rfl, hc2, hym⟩ := HAT2.out _ y hyk
        have hc' := hx.keep (hX2.keep hc)
        have hc2' := hx.keep hc2
        have i1 : (0 : Int) ≤ (xs.length : Int) - (zs.length : Int) + (k : Int) := by omega
        have i2 : (xs.length : Int) - (zs.length : Int) + (k : Int) < (xs.length : Int) := by omega
        have i3 : ((xs.length : Int) - (zs.length : Int) + (k : Int)).toNat = xs.length - zs.length + k := by omega
        have i4 : IntKind.i64.wrap ((xs.length : Int) - (zs.length : Int)) = (xs.length : Int) - (zs.length : Int) := IntWalk.i64_in _ (by omega)
        have i5 : IntKind.i64.wrap ((xs.length : Int) - (zs.length : Int) + (k : Int)) = (xs.length : Int) - (zs.length : Int) + (k : Int) := IntWalk.i64_in _ (by omega)
        have HX := Lib.hid hxk
        have HY := Lib.hid hyk
        clear hxk hyk hc hc2
        have i6 : (0 : Int) ≤ (k : Int) := by omega
        have i7 : (k : Int) < (zs.length : Int) := by omega
        go_wp2_with fail
        go_quiet (fail)
        clear i1 i2 i3 i4 i5 i6 i7
        go_wp2_with fail
        · have hne : ¬ (toL x = toL y) := by
            have h : (!x.toList == y.toList) = true := by assumption
            rw [strEq] at h; simpa using h
          go_ret
          refine ⟨ret_bool ?_, hXX.trans (hx.drewN _)⟩
          symm
          simp only [Nm.under, decide_eq_false_iff_not, Nm.suffix_iff]
          rintro ⟨_, h⟩
          have hlx : (Nm.labels (toL s)).length = xs.length := by rw [← HSP.out]; simp
          have hlz : (Nm.labels (toL z)).length = zs.length := by rw [← HSP2.out]; simp
          have := h k (by rw [hlz]; exact hlt)
          rw [hlx, hlz, ← HSP.out, ← HSP2.out, List.getElem?_map, List.getElem?_map, HX.out, HY.out] at this
          simp at this
          exact hne (by rw [show toL x = x.data.toList from rfl, this])
        · have heq : toL x = toL y := by
            have h : (!x.toList == y.toList) = false := by assumption
            rw [strEq] at h; simpa using h
          refine ⟨⟨k + 1, by omega, by go_num, hx.drewN _, (fun j hj => ?_ : ∀ j, j < k + 1 → xs[xs.length - zs.length + j]? = zs[j]?)⟩, by simp [intOf]; omega⟩
          by_cases e : j = k
          · subst e; rw [HX.out, HY.out, toL_inj heq]
          · exact I.out j (by omega)
      · obtain rfl : k = zs.length := by omega
        go_wp2_with fail
        go_ret
        refine ⟨ret_bool ?_, hXX.trans hx⟩
        symm
        simp only [Nm.under, decide_eq_true_eq, Nm.suffix_iff]
        have hlx : (Nm.labels (toL s)).length = xs.length := by rw [← HSP.out]; simp
        have hlz : (Nm.labels (toL z)).length = zs.length := by rw [← HSP2.out]; simp
        refine ⟨by omega, fun i hi => ?_⟩
        rw [hlx, hlz, ← HSP.out, ← HSP2.out, List.getElem?_map, List.getElem?_map, I.out i (by omega)]
  · go_wp2_with fail
    go_ret
    refine ⟨ret_bool ?_, hXX⟩
    symm
    simp only [Nm.under, decide_eq_false_iff_not, Nm.suffix_iff]
    rintro ⟨h, _⟩
    rw [← HSP.out, ← HSP2.out] at h
    simp at h; omega

theorem Nm.valid_size (l : List UInt8) (h : Nm.valid l = true) : l.length ≤ 60 := by
  simp only [Nm.valid, Bool.or_eq_true, decide_eq_true_eq, Bool.and_eq_true] at h
  rcases h with h | h
  · rw [h]; simp
  · exact h.1
theorem Nm.valid_bsize (s : ByteArray) (h : Nm.valid (toL s) = true) : s.size ≤ 60 := by
  have := Nm.valid_size _ h
  rwa [show (toL s).length = s.size from Nm.len s] at this

/-- What Under says. -/
def Nm.vunder (s z : List UInt8) : Bool := Nm.valid s && Nm.valid z && Nm.under s z

set_option maxHeartbeats 800000 in
theorem runder_any (s z : ByteArray) (w : World) (hs : s.size ≤ maxLen) (hz : z.size ≤ maxLen) :
    Calls Tryd.prog 18 #[.string s, .string z] w fun e w' => e = .returned (.tuple #[.bool (Nm.vunder (toL s) (toL z)), .int .i64 (if Nm.valid (toL s) && Nm.valid (toL z) then 0 else 11)]) ∧ Ext w w' := by
  cases h1 : Nm.valid (toL s) <;> cases h2 : Nm.valid (toL z)
  case true.true =>
    have H1 := Lib.hid h1
    have H2 := Lib.hid h2
    clear h1 h2
    go_enter Tryd.func18, Tryd.ntmps18
    go_wp2_with fail
    refine (rvalid1_any s _ hs).mono ?_
    rintro e w1 ⟨rfl, hx1⟩
    rw [H1.out]
    go_wp2_with fail
    refine (rvalid1_any z _ hz).mono ?_
    rintro e w2 ⟨rfl, hx2⟩
    rw [H2.out]
    go_wp2_with fail
    refine (rin_any s z _ (by have := Nm.valid_bsize s H1.out; omega) (by have := Nm.valid_bsize z H2.out; omega)).mono ?_
    rintro e w3 ⟨rfl, hx3⟩
    go_wp2_with fail
    go_ret2
    exact ⟨by simp [Nm.vunder, H1.out, H2.out], (hx1.trans hx2).trans hx3⟩
  all_goals
    have H1 := Lib.hid h1
    have H2 := Lib.hid h2
    clear h1 h2
    go_enter Tryd.func18, Tryd.ntmps18
    go_wp2_with fail
    refine (rvalid1_any s _ hs).mono ?_
    rintro e w1 ⟨rfl, hx1⟩
    rw [H1.out]
    go_wp2_with fail
    refine (rvalid1_any z _ hz).mono ?_
    rintro e w2 ⟨rfl, hx2⟩
    rw [H2.out]
    go_wp2_with fail
    go_ret2
    exact ⟨by simp [Nm.vunder, H1.out, H2.out], hx1.trans hx2⟩

end Go.Proofs.YtklkmdoakhkikaaDoor
