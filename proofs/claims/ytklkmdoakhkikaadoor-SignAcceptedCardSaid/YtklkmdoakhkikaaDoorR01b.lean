/- Contracts of the names' reference: Split, Parts, Valid. -/
import Derived.Test.YtklkmdoakhkikaaDoorR01a
import Derived.Test.YtklkmdoakhkikaaDoorData
namespace Go.Proofs.YtklkmdoakhkikaaDoor
open Go.RowKit

/-- A text's letters. -/
abbrev toL (s : ByteArray) : List UInt8 := s.data.toList
theorem toL_inj {a b : ByteArray} (h : toL a = toL b) : a = b := by
  cases a; cases b; congr 1; exact Array.toList_inj.1 h

theorem Tryd.infoStr : (Tryd.prog.info? 9).map (fun i => (i.zero, i.size, i.bytes)) = some (some (.string ⟨#[]⟩), 1, 16) := by kernel_rfl

theorem Nm.split_step_dot (l : List UInt8) (k : Nat) (c : UInt8) (hk : l[k]? = some c) (hc : c = 46) : Nm.split (l.take (k + 1)) = Nm.split (l.take k) ++ [[]] := by
  subst hc
  rw [List.take_add_one, hk]
  exact Nm.split_snoc_dot _
theorem Nm.split_step (l : List UInt8) (k : Nat) (c : UInt8) (hk : l[k]? = some c) (hc : c ≠ 46) (i : List (List UInt8)) (x : List UInt8) (h : Nm.split (l.take k) = i ++ [x]) : Nm.split (l.take (k + 1)) = i ++ [x ++ [c]] := by
  rw [List.take_add_one, hk]
  obtain ⟨i', x', h1, h2⟩ := Nm.split_snoc (l.take k) c hc
  rw [h1] at h
  obtain ⟨rfl, e⟩ := List.append_inj' h rfl
  simp only [List.cons.injEq, and_true] at e
  subst e
  exact h2

theorem Nm.extract_one (s : ByteArray) (k : Nat) (h : k < s.size) : toL (s.extract k (k + 1)) = [s[k]] := by
  have h1 : (s.extract k (k + 1)).data = s.data.extract k (k + 1) := ByteArray.data_extract
  show (s.extract k (k + 1)).data.toList = _
  rw [h1, Array.toList_extract, List.extract_eq_take_drop, show k + 1 - k = 1 by omega]
  have hk : k < s.data.toList.length := by simpa using h
  rw [List.drop_eq_getElem_cons hk]
  rfl

/-- A result that reads as something. -/
def Ret {α : Type} (R : World → Value → α → Prop) (P : α → Prop) (w : World) (e : Ending) (w' : World) : Prop := ∃ v x, e = .returned v ∧ P x ∧ R w' v x ∧ Ext w w'

set_option maxHeartbeats 1000000 in
theorem rsplit_any (s : ByteArray) (w : World) (hs : s.size ≤ 1000) :
    Calls Tryd.prog 38 #[.string s] w (Ret (SlOf RdStr 1) (fun xs : List ByteArray => xs.map toL = Nm.split (toL s)) w) := by
  obtain ⟨i0, hi, hz0, hz1, hz2⟩ := info_parts Tryd.infoStr
  go_enter Tryd.func38, Tryd.ntmps38
  go_wp2
  go_loopw [3, 4] (fun v i wr => ∃ (k : Nat) (xs : List ByteArray), k ≤ s.size ∧ i = .int .i64 k ∧ xs.length ≤ k + 1 ∧ wr.ownsRow w.heap.size 9 1 v xs.length (xs.map Value.string) ∧ Ext w wr ∧
      Hid (xs.map toL = Nm.split ((toL s).take k) ∧ ∀ x ∈ xs, x.size ≤ k)) (fun _ i _ => s.size - (intOf i).toNat)
  case atStart =>
    refine ⟨0, [⟨#[]⟩], Nat.zero_le _, rfl, by simp, ?_, (Ext.refl _).alloc _, (⟨rfl, fun z hz => by rw [List.mem_singleton.1 hz]; exact Nat.le_refl _⟩ : _ ∧ _)⟩
    exact ⟨by simp, .inr ⟨w.heap.size, 1, #[.string ⟨#[]⟩], rfl, Nat.le_refl _, heap_alloc_new w _, by simp, by unfold maxLen; omega, by simp, by simp⟩⟩
  case round =>
    obtain ⟨k, xs, hk, rfl, hxl, hown, hx, I⟩ := hrel
    by_cases hlt : k < s.size
    · have hsplit : ∃ ys x, xs = ys ++ [x] := by
        have := Nm.split_ne ((toL s).take k)
        rw [← I.out.1] at this
        exact ⟨xs.dropLast, xs.getLast (by simpa using this), (List.dropLast_concat_getLast _).symm⟩
      obtain ⟨ys, x, rfl⟩ := hsplit
      obtain ⟨g, cap, rfl⟩ := Joins.ownsRow_form hown (by simp)
      have hxl' : ys.length ≤ k := by simpa using hxl
      have hgl := hown.lt g rfl
      have hch : (toL s)[k]? = some s[k] := by rw [List.getElem?_eq_getElem (by simpa [toL] using hlt)]; rfl
      have HCH := Lib.hid hch
      clear hch hxl
      by_cases hd : s[k] = 46
      · have hb : ((s[k].toNat : Int) == 46) = true := by rw [hd]; rfl
        have HD := Lib.hid hd
        clear hd
        go_wp2_with (at_builtin; refine wpList_append_own _ rfl _ _ 77 rfl w.heap.size 9 i0 (.string ⟨#[]⟩) 1 16 Tryd.underlying77 hi hz0 hz1 hz2 rfl (by decide) _ _ _ rfl (hown.alloc _) ⟨wr.heap.size, 0, none⟩ 1 1 [.string ⟨#[]⟩] rfl rfl (cell_one_new _ _ _) (by simp [Value.oneCell']) ?c3 ?c4 ?c5 ?_)
        case c3 => simp; unfold maxLen; omega
        case c4 => simp; omega
        case c5 => simp; have := hx.size; omega
        intro v' w1 hown' hgrow _
        have hX := (hx.alloc (.cells #[.string ⟨#[]⟩] 9)).grown hgrow (fun j e => by cases e; exact hgl.1)
        have H1 := Lib.hid hown'
        clear hown' hgrow hown
        go_wp2
        go_roundw
        case rel =>
          refine ⟨k + 1, ys ++ [x] ++ [⟨#[]⟩], by omega, by go_num, by simp; omega, by simpa using H1.out, hX, (⟨?_, ?_⟩ : _ ∧ _)⟩
          · rw [Nm.split_step_dot _ k _ HCH.out HD.out, ← I.out.1]; simp
          · intro z hz
            simp only [List.mem_append, List.mem_singleton] at hz
            rcases hz with hz | rfl
            · have := I.out.2 z (by simpa using hz); omega
            · exact Nat.zero_le _
        case measure => simp [intOf]; omega
      · have hb : ((s[k].toNat : Int) == 46) = false := by
          simp only [beq_eq_false_iff_ne]
          intro e; apply hd; apply UInt8.toNat.inj; show _ = 46; omega
        have HD := Lib.hid hd
        clear hd
        have hc := hown.cellAt ys.length (by simp)
        have hc' : wr.cell? ⟨g, ys.length, none⟩ = some (.string x) := by rw [hc]; simp
        have hf := hown.frozenAt ys.length
        clear hc
        have hxs : x.size ≤ k := I.out.2 x (by simp)
        have hes : (s.extract k (k + 1)).size ≤ 1 := by rw [ByteArray.size_extract]; omega
        have hadd : ∀ W, (Op.stringOp .add x (s.extract k (k + 1))).run Tryd.prog W = .ok (.string (x ++ s.extract k (k + 1))) W := fun W => run_string_add_sum W _ _ (by omega)
        have HES := Lib.hid (Nm.extract_one s k hlt)
        go_wp2
        go_region
        have hst := hown.stored ys.length (.string (x ++ s.extract k (k + 1)))
        have H1 := Lib.hid hst.1.drew
        have hX : Ext w (wr.setCell ⟨g, ys.length, none⟩ (.string (x ++ s.extract k (k + 1)))).drew := (hx.setCell hgl.1 _).drew
        clear hst hown hc' hf hadd
        go_wp2
        go_roundw
        case rel =>
          have hsp : Nm.split ((toL s).take k) = ys.map toL ++ [toL x] := by rw [← I.out.1]; simp
          refine ⟨k + 1, ys ++ [x ++ s.extract k (k + 1)], by omega, by go_num, by simp; omega, ?_, hX, (⟨?_, ?_⟩ : _ ∧ _)⟩
          · have h1 := H1.out
            simp only [List.map_append, List.map_cons, List.map_nil] at h1
            rw [List.set_append_right _ _ (by simp)] at h1
            simpa using h1
          · rw [Nm.split_step _ k _ HCH.out HD.out _ _ hsp]
            simp [toL]
            have := HES.out
            simpa [toL] using this
          · intro z hz
            simp only [List.mem_append, List.mem_singleton] at hz
            rcases hz with hz | rfl
            · have := I.out.2 z (by simp [hz]); omega
            · rw [ByteArray.size_append]; omega
        case measure => simp [intOf]; omega
    · obtain rfl : k = s.size := by omega
      have hform := Joins.ownsRow_forms hown
      go_wp2
      go_ret
      refine ⟨_, xs, rfl, ?_, SlOf.of_owns hown rfl (fun i z hz => ?_), hx⟩
      · show xs.map toL = _
        rw [I.out.1, List.take_of_length_le (Nat.le_of_eq (Nm.len s))]
      · have hi := (List.getElem?_eq_some_iff.1 hz)
        refine ⟨?_, ?_⟩
        · rw [Nat.mul_one, List.drop_eq_getElem_cons (by simpa using hi.1)]
          simp [hi.2]
        · have := I.out.2 z (List.mem_of_getElem? hz); unfold maxLen; omega

end Go.Proofs.YtklkmdoakhkikaaDoor
