/- The contract of name's iterator over labels, from the last one on. -/
import Derived.Test.YtklkmdoakhkikaaDoorName1
import Derived.Test.YtklkmdoakhkikaaDoorRange
namespace Go.Proofs.YtklkmdoakhkikaaDoor
open Go.RowKit Go.Shelf

attribute [local go_sem] Oper.semAt_some

/-- The text with some letters. -/
def bs (l : List UInt8) : ByteArray := ⟨l.toArray⟩
theorem toL_bs (l : List UInt8) : toL (bs l) = l := by simp [toL, bs]
theorem bs_toL (s : ByteArray) : bs (toL s) = s := toL_inj (toL_bs _)
/-- The labels of a text, from the last one on. -/
def Nm.back (s : ByteArray) : List ByteArray := (Nm.labels (toL s)).reverse.map bs
def strLen : Value → Nat
  | .string s => s.size
  | _ => 0

def Nm.IsBack (s : ByteArray) (xs : List ByteArray) : Prop := xs = Nm.back s
def Nm.OfBack (s : ByteArray) (xs : List ByteArray) : Prop := xs <+: Nm.back s

/-- What stands behind the last dot, and before it. -/
theorem Nm.last_none (r : ByteArray) (h : Nm.LastAt r 46 (-1)) : 46 ∉ toL r := by
  intro hm
  obtain ⟨j, hj, e⟩ := List.getElem_of_mem hm
  have hj' : j < r.size := by rw [show (toL r).length = r.size from Nm.len r] at hj; exact hj
  exact h.2.2.2 j hj' (by omega) e
theorem Nm.last_some (r : ByteArray) (m : Nat) (h : Nm.LastAt r 46 m) : Nm.split (toL r) = Nm.split ((toL r).take m) ++ [(toL r).drop (m + 1)] := by
  obtain ⟨_, h2, h3, h4⟩ := h
  have hm : m < r.size := by omega
  have hl : (toL r).length = r.size := Nm.len r
  have e : (toL r)[m]'(by omega) = 46 := h3 (by simpa using hm) (by omega)
  have hd : (toL r).drop m = 46 :: (toL r).drop (m + 1) := by rw [List.drop_eq_getElem_cons (by omega), e]
  have hno : 46 ∉ (toL r).drop (m + 1) := by
    intro hmem
    obtain ⟨j, hj, e⟩ := List.getElem_of_mem hmem
    rw [List.getElem_drop] at e
    rw [List.length_drop] at hj
    exact h4 (m + 1 + j) (by omega) (by omega) e
  conv => lhs; rw [← List.take_append_drop m (toL r), hd]
  rw [Nm.split_dot, Nm.split_nodot _ hno]

set_option maxRecDepth 100000 in
set_option maxHeartbeats 1000000 in
theorem backwards_in (n : Nat) (hn : 1 ≤ n) (s : ByteArray) (hs : s.size ≤ maxLen) (w : World) :
    Iterates Fence.wide n Tryd.prog 60 #[.string s] #[] (fun x : ByteArray => #[.string x]) (fun _ _ => True) (Nm.IsBack s) (Nm.OfBack s) (Nm.back s).length w := by
  intro l J Jx W hB hJ hJx hY h0
  unfold maxLen at hs
  refine callsIn_of_wp Tryd.func60 rfl trivial ?_ rfl
  simp only [Tryd.ntmps60, List.size_toArray, List.length_cons, List.length_nil, Nat.reduceAdd, Nat.reduceSub, Array.replicate_succ, Array.replicate_zero, List.push_toArray, List.append_toArray, List.nil_append, List.cons_append]
  by_cases hr : toL s = [46]
  · have hb : (s.toList == [46]) = true := by rw [ByteArray.toList_eq]; simp only [beq_iff_eq]; exact hr
    have HB : Hid (Nm.back s = []) := by show Nm.back s = []; simp [Nm.back, Nm.labels, hr]
    have HY := Lib.hid hY
    clear hY hr
    gi_wp2
    refine bodyPost_ret (results_none rfl _ _ _) rfl ?_
    exact ⟨⟨_, rfl⟩, .inl ⟨[], HB.out.symm, h0⟩⟩
  · have hb : (s.toList == [46]) = false := by rw [ByteArray.toList_eq]; simp only [beq_eq_false_iff_ne]; exact hr
    have HB : Hid (Nm.back s = (Nm.split (toL s)).reverse.map bs) := by show Nm.back s = _; simp [Nm.back, Nm.labels, hr]
    have HY := Lib.hid hY
    clear hY hr
    gi_wp2_with fail
    gi_loopw [4] (fun v wr => ∃ (pre : List ByteArray) (r : ByteArray), v = .string r ∧ r.size ≤ s.size ∧ J pre wr ∧ Hid (pre ++ (Nm.split (toL r)).reverse.map bs = Nm.back s)) (fun v _ => strLen v)
    case atStart => exact ⟨[], s, rfl, Nat.le_refl _, h0, (by rw [HB.out]; rfl : [] ++ (Nm.split (toL s)).reverse.map bs = Nm.back s)⟩
    case round =>
      obtain ⟨pre, r, rfl, hrs, hJp, I⟩ := hrel
      gi_wp2_with fail
      refine ⟨trivial, ?_⟩
      refine (callsIn_wide.2 (lastIndex_any r 46 _ (by unfold maxLen; omega))).mono ?_
      rintro e w' ⟨i, rfl, hi, rfl⟩
      have HI := Lib.hid hi
      obtain ⟨hi1, hi2, _, _⟩ := hi
      by_cases hneg : 0 ≤ i
      · obtain ⟨m, rfl⟩ := Int.eq_ofNat_of_zero_le hneg
        have hsp := Nm.last_some r m HI.out
        have hlen : pre.length < (Nm.back s).length := by
          rw [← I.out, hsp]; simp
        obtain ⟨fn, tmps, assign, body, hy, hR⟩ := HY.out pre (r.extract (m + 1) r.size) wr hJp hlen
        have HS := Lib.hid hsp
        have HR := Lib.hid hR
        clear hsp hR
        gi_wp2_with fail
        refine HR.out.mono ?_
        rintro e W3 (⟨rfl, hJ3, _⟩ | ⟨rfl, hJx3⟩)
        · gi_wp2_with fail
          go_roundw
          case rel =>
            refine ⟨pre ++ [r.extract (m + 1) r.size], r.extract 0 m, rfl, by rw [ByteArray.size_extract]; omega, hJ3, ?_⟩
            show pre ++ [r.extract (m + 1) r.size] ++ (Nm.split (toL (r.extract 0 m))).reverse.map bs = Nm.back s
            rw [← I.out, HS.out, Nm.take_bytes]
            simp only [List.reverse_append, List.reverse_cons, List.reverse_nil, List.nil_append, List.map_cons, List.append_assoc, List.cons_append]
            rw [← Nm.drop_bytes, bs_toL]
          case measure => simp only [strLen, ByteArray.size_extract]; omega
        · gi_wp2_with fail
          refine bodyPost_ret (results_none rfl _ _ _) rfl ?_
          refine ⟨⟨_, rfl⟩, .inr ⟨pre ++ [r.extract (m + 1) r.size], ?_, hJx3⟩⟩
          refine ⟨(Nm.split ((toL r).take m)).reverse.map bs, ?_⟩
          rw [← I.out, HS.out]
          simp only [List.reverse_append, List.reverse_cons, List.reverse_nil, List.nil_append, List.map_cons, List.append_assoc, List.cons_append]
          rw [← Nm.drop_bytes, bs_toL]
      · obtain rfl : i = -1 := by omega
        have hsp : Nm.split (toL r) = [toL r] := Nm.split_nodot _ (Nm.last_none r HI.out)
        have hlen : pre.length < (Nm.back s).length := by
          rw [← I.out, hsp]; simp
        have hx : r.extract 0 r.size = r := toL_inj (by rw [Nm.take_bytes, List.take_of_length_le (Nat.le_of_eq (Nm.len r))])
        obtain ⟨fn, tmps, assign, body, hy, hR⟩ := HY.out pre r wr hJp hlen
        have HS := Lib.hid hsp
        have HR := Lib.hid hR
        clear hsp hR
        gi_wp2_with fail
        refine HR.out.mono ?_
        rintro e W3 (⟨rfl, hJ3, _⟩ | ⟨rfl, hJx3⟩)
        · gi_wp2_with fail
          refine bodyPost_ret (results_none rfl _ _ _) rfl ?_
          refine ⟨⟨_, rfl⟩, .inl ⟨pre ++ [r], ?_, hJ3⟩⟩
          show pre ++ [r] = Nm.back s
          rw [← I.out, HS.out]; simp [bs_toL]
        · gi_wp2_with fail
          refine bodyPost_ret (results_none rfl _ _ _) rfl ?_
          refine ⟨⟨_, rfl⟩, .inr ⟨pre ++ [r], ?_, hJx3⟩⟩
          refine ⟨[], ?_⟩
          rw [← I.out, HS.out]; simp [bs_toL]

end Go.Proofs.YtklkmdoakhkikaaDoor
