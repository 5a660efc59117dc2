/- Contracts by the engine: a set's bytes. Conditions: lengths that Go allows. -/
import Derived.Test.YtklkmdoakhkikaaDoorP3
namespace Go.Proofs.YtklkmdoakhkikaaDoor.P
open Go Go.Eng
set_option maxRecDepth 100000

/-- A number's bytes, the most significant one first. -/
def numB (n : Int) : List DV := [56, 48, 40, 32, 24, 16, 8, 0].map fun k => .int .u8 (IntKind.u8.wrap (shI .shr .u64 (IntKind.u64.wrap n) k))
/-- A text's bytes behind its length. -/
def textB (t : Text) : List DV := .int .u8 (IntKind.u8.wrap t.length) :: t.map byteD
theorem numB_len (n : Int) : (numB n).length = 8 := rfl
theorem textB_len (t : Text) : (textB t).length = t.length + 1 := by simp [textB]
theorem numB_next (n : Int) {k : Nat} (h : k < 8) : (numB n).take k ++ [.int .u8 (IntKind.u8.wrap (shI .shr .u64 (IntKind.u64.wrap n) (56 - 8 * (k : Int)).toNat))] = (numB n).take (k + 1) := by
  match k, h with
  | 0, _ => rfl
  | 1, _ => rfl
  | 2, _ => rfl
  | 3, _ => rfl
  | 4, _ => rfl
  | 5, _ => rfl
  | 6, _ => rfl
  | 7, _ => rfl

theorem appendText_a (l : List DV) (t : Text) (hl : l.length + t.length < 2147483648) : ACalls E 44 [.arr 0 (5, 1) l] [.own 0 0, .d (.str t)] (fun a b => a = .own 0 2 ∧ b = [.arr 2 (5, 1) (l ++ textB t)]) := by
  refine ACalls.run E_ok (fn := Tryd.f44) Tryd.func44 (body := Tryd.f44.body.getD .skip) rfl (by decide) 2000 rfl ?_
  conv => whnf
  refine need_intro ⟨by simp; omega, by simp [DV.cells]⟩ ?_
  conv => whnf
  refine AWL.run E_ok Tryd.func44 2000 ?_
  conv => whnf
  refine need_intro ⟨by simp; omega, by simp [byteD, DV.cells]⟩ ?_
  conv => whnf
  refine AWL.run E_ok Tryd.func44 2000 ?_
  conv => whnf
  simp [textB]
theorem appendText_n (t : Text) (hl : t.length < 2147483648) : ACalls E 44 [] [.d .nilsl, .d (.str t)] (fun a b => a = .own 0 2 ∧ b = [.arr 2 (5, 1) (textB t)]) := by
  refine ACalls.run E_ok (fn := Tryd.f44) Tryd.func44 (body := Tryd.f44.body.getD .skip) rfl (by decide) 2000 rfl ?_
  conv => whnf
  refine need_intro ⟨by simp, by simp [DV.cells]⟩ ?_
  conv => whnf
  refine AWL.run E_ok Tryd.func44 2000 ?_
  conv => whnf
  refine need_intro ⟨by simp; omega, by simp [byteD, DV.cells]⟩ ?_
  conv => whnf
  refine AWL.run E_ok Tryd.func44 2000 ?_
  conv => whnf
  simp [textB]

theorem appendNumber_a (l : List DV) (n : Int) (hl : l.length < 2000000000) : ACalls E 45 [.arr 0 (5, 1) l] [.own 0 0, .d (.int .i64 n)] (fun a b => a = .own 0 1 ∧ b = [.arr 1 (5, 1) (l ++ numB n)]) := by
  refine ACalls.run E_ok (fn := Tryd.f45) Tryd.func45 (body := Tryd.f45.body.getD .skip) rfl (by decide) 2000 rfl ?_
  conv => whnf
  refine AWL.loop (κ := Nat) [0, 5, 6, 7, 8, 9, 10, 11, 12, 13, 14, 15, 16, 17] (fun k => [(5, .d (.int .i64 (56 - 8 * (k : Int)))), (0, .own 0 1)]) (fun k => [(0, .arr 1 (5, 1) (l ++ (numB n).take k))]) (fun k => k ≤ 8) (fun k => 8 - k) 0 (Nat.zero_le _) ?_ ?_
  · conv => whnf
    repeat (first | exact trivial | (refine And.intro (by first | with_reducible rfl | exact congrArg (DV.int .i64) (by omega) | exact congrArg (DV.int .i64) (wrap64 (by omega) (by omega)) | exact congrArg (DV.int .i64) ((wrap64 (by omega) (by omega)).trans (by omega))) ?_; conv => whnf))
    refine And.intro (by simp) ?_
    conv => whnf
    repeat (first | exact trivial | (refine And.intro (by first | with_reducible rfl | exact congrArg (DV.int .i64) (by omega) | exact congrArg (DV.int .i64) (wrap64 (by omega) (by omega)) | exact congrArg (DV.int .i64) ((wrap64 (by omega) (by omega)).trans (by omega))) ?_; conv => whnf))
  · intro k hk IH
    refine AWL.head E_ok Tryd.func45 2000 ?_
    conv => whnf
    refine caseB_split (fun h => ?_) (fun h => ?_)
    · have hlt : k < 8 := by simp at h; omega
      conv => whnf
      refine AWL.run E_ok Tryd.func45 2000 ?_
      conv => whnf
      refine need_intro (by omega) ?_
      conv => whnf
      refine AWL.run E_ok Tryd.func45 2000 ?_
      conv => whnf
      refine need_intro ⟨by simp [numB_len]; omega, by simp [DV.cells]⟩ ?_
      conv => whnf
      refine AWL.run E_ok Tryd.func45 2000 ?_
      conv => whnf
      refine AWL.back (IH (k + 1) (by omega) (by omega)) ?_
      conv => whnf
      repeat (first | exact trivial | (refine And.intro (by first | with_reducible rfl | exact congrArg (DV.int .i64) (by omega) | exact congrArg (DV.int .i64) (wrap64 (by omega) (by omega)) | exact congrArg (DV.int .i64) ((wrap64 (by omega) (by omega)).trans (by omega))) ?_; conv => whnf))
      refine And.intro (by rw [List.append_assoc, numB_next n hlt]) ?_
      conv => whnf
      repeat (first | exact trivial | (refine And.intro (by first | with_reducible rfl | exact congrArg (DV.int .i64) (by omega) | exact congrArg (DV.int .i64) (wrap64 (by omega) (by omega)) | exact congrArg (DV.int .i64) ((wrap64 (by omega) (by omega)).trans (by omega))) ?_; conv => whnf))
    · have hge : k = 8 := by simp at h; omega
      subst hge
      conv => whnf
      refine AWL.run E_ok Tryd.func45 2000 ?_
      conv => whnf
      simp [show List.take 8 (numB n) = numB n from rfl]

def datumB (d : Datum) : List DV := textB d.text ++ numB d.n ++ numB d.m
def headB (s : RSet) : List DV := textB s.name ++ numB s.type ++ numB s.life ++ [.int .u8 (IntKind.u8.wrap s.data.length)]
/-- The bytes of a valid set. -/
def setB (s : RSet) : List DV := headB s ++ s.data.flatMap datumB

theorem valid_len {l : Text} (h : Nm.valid l = true) : l.length ≤ 60 := by
  simp only [Nm.valid, Bool.or_eq_true, decide_eq_true_eq, Bool.and_eq_true] at h
  rcases h with rfl | h
  · simp
  · exact h.1
theorem textOK_len {r : Rule} {t : Text} (h : textOK r t = true) : t.length ≤ 60 := by
  unfold textOK at h
  split at h
  · simp at h; exact valid_len h.1
  · split at h
    · exact valid_len h
    · split at h
      · simp [freeB] at h; omega
      · simp at h; simp [h]
theorem dataB_mem {r : Rule} : ∀ {p : Option Datum} {l : List Datum}, dataB r p l = true → ∀ d ∈ l, datumOK r d = true
  | _, [], _, d, hd => by simp at hd
  | p, e :: l, h, d, hd => by
    simp only [dataB, Bool.and_eq_true] at h
    rcases List.mem_cons.1 hd with rfl | hd
    · exact h.1.1
    · exact dataB_mem h.2 d hd
theorem setOK_lens {s : RSet} (h : setOK s = true) : s.name.length ≤ 60 ∧ s.data.length ≤ 8 ∧ 1 ≤ s.data.length ∧ ∀ d ∈ s.data, d.text.length ≤ 60 := by
  simp only [setOK, Bool.and_eq_true, decide_eq_true_eq] at h
  obtain ⟨⟨⟨⟨⟨⟨h1, h2⟩, h3⟩, h4⟩, h5⟩, h6⟩, h7⟩ := h
  refine ⟨valid_len h1, by omega, by omega, fun d hd => ?_⟩
  have := dataB_mem h7 d hd
  simp only [datumOK, Bool.and_eq_true] at this
  exact textOK_len this.2
theorem datumB_len {d : Datum} (h : d.text.length ≤ 60) : (datumB d).length ≤ 77 := by simp [datumB, textB_len, numB_len]; omega
theorem dataB_len {l : List Datum} (h : ∀ d ∈ l, d.text.length ≤ 60) : (l.flatMap datumB).length ≤ 77 * l.length := by
  induction l with
  | nil => simp
  | cons d l ih =>
    have h1 := datumB_len (h d (List.mem_cons_self ..))
    have h2 := ih (fun e he => h e (List.mem_cons_of_mem _ he))
    simp only [List.flatMap_cons, List.length_append, List.length_cons]
    omega
theorem headB_len {s : RSet} (h : s.name.length ≤ 60) : (headB s).length ≤ 78 := by simp [headB, textB_len, numB_len]; omega
theorem take_next {α : Type} {l : List α} {k : Nat} {x : α} (h : l[k]? = some x) : l.take (k + 1) = l.take k ++ [x] := by
  rw [List.take_add_one, h]; rfl

theorem bytesNo_p (s : RSet) (hf : s.Fits) (hs : setOK s = false) : PCalls E 23 [s.enc] (· = .tup [.nilsl, .int .i64 1]) := by
  refine PCalls.run E_ok (fn := Tryd.f23) Tryd.func23 (body := Tryd.f23.body.getD .skip) rfl (by decide) 2000 ?_
  conv => whnf
  with_reducible refine callP_eq (setOK_p s hf) ?_
  conv => whnf
  refine AWL.run E_ok Tryd.func23 2000 ?_
  conv => whnf
  rw [hs]
  refine caseB_true ?_
  conv => whnf
  refine AWL.run E_ok Tryd.func23 2000 ?_
  conv => whnf
theorem bytes_p (s : RSet) (hf : s.Fits) (hs : setOK s = true) : PCalls E 23 [s.enc] (· = .tup [.sl (setB s), .int .i64 0]) := by
  obtain ⟨hn, hd, -, ht⟩ := setOK_lens hs
  have hh := headB_len hn
  have hlen : ∀ k, (headB s ++ (s.data.take k).flatMap datumB).length ≤ 700 := fun k => by
    have h1 := dataB_len (l := s.data.take k) (fun d hd => ht d (List.mem_of_mem_take hd))
    have h2 : (s.data.take k).length ≤ 8 := by simp; omega
    simp only [List.length_append]
    omega
  refine PCalls.run E_ok (fn := Tryd.f23) Tryd.func23 (body := Tryd.f23.body.getD .skip) rfl (by decide) 2000 ?_
  conv => whnf
  with_reducible refine callP_eq (setOK_p s hf) ?_
  conv => whnf
  refine AWL.run E_ok Tryd.func23 2000 ?_
  conv => whnf
  rw [hs]
  refine caseB_false ?_
  conv => whnf
  refine AWL.run E_ok Tryd.func23 2000 ?_
  conv => whnf
  refine callP_own (appendText_n _ (by omega)) rfl ?_
  conv => whnf
  refine AWL.run E_ok Tryd.func23 2000 ?_
  conv => whnf
  with_reducible refine callS_eq (appendNumber_a _ _ (by simp [textB_len]; omega)) ?_
  conv => whnf
  refine AWL.run E_ok Tryd.func23 2000 ?_
  conv => whnf
  with_reducible refine callS_eq (appendNumber_a _ _ (by simp [textB_len, numB_len]; omega)) ?_
  conv => whnf
  refine AWL.run E_ok Tryd.func23 2000 ?_
  conv => whnf
  refine need_intro ⟨by simp [textB_len, numB_len]; omega, by simp [DV.cells]⟩ ?_
  conv => whnf
  refine AWL.run E_ok Tryd.func23 2000 ?_
  conv => whnf
  refine AWL.loop (κ := Nat) [4, 6, 32, 33, 34, 35, 36, 37, 38, 39, 40, 41, 42, 43, 44, 45, 46, 47, 48] (fun k => [(32, .d (.int .i64 k)), (4, .own 1 1)]) (fun k => [(1, .arr 1 (5, 1) (headB s ++ (s.data.take k).flatMap datumB))]) (fun k => k ≤ s.data.length) (fun k => s.data.length - k) 0 (Nat.zero_le _) ?_ ?_
  · conv => whnf
    repeat (first | exact trivial | (refine And.intro (by first | with_reducible rfl | exact congrArg (DV.int .i64) (by omega) | exact congrArg (DV.int .i64) (wrap64 (by omega) (by omega)) | exact congrArg (DV.int .i64) ((wrap64 (by omega) (by omega)).trans (by omega))) ?_; conv => whnf))
    refine And.intro (by simp [headB, List.length_map]) ?_
    conv => whnf
    repeat (first | exact trivial | (refine And.intro (by first | with_reducible rfl | exact congrArg (DV.int .i64) (by omega) | exact congrArg (DV.int .i64) (wrap64 (by omega) (by omega)) | exact congrArg (DV.int .i64) ((wrap64 (by omega) (by omega)).trans (by omega))) ?_; conv => whnf))
  · intro k hk IH
    have hlk := hlen k
    refine AWL.head E_ok Tryd.func23 2000 ?_
    conv => whnf
    refine caseB_split (fun h => ?_) (fun h => ?_)
    · have hlt : k < s.data.length := by simpa using h
      obtain ⟨d, hd⟩ := some_of_lt hlt
      have htd := ht d (List.mem_of_getElem? hd)
      conv => whnf
      refine AWL.run E_ok Tryd.func23 2000 ?_
      conv => whnf
      refine elemP_intro d.enc (by omega) (elem_map hd) rfl ?_
      conv => whnf
      refine AWL.run E_ok Tryd.func23 2000 ?_
      conv => whnf
      with_reducible refine callS_eq (appendText_a _ _ (by omega)) ?_
      conv => whnf
      refine AWL.run E_ok Tryd.func23 2000 ?_
      conv => whnf
      with_reducible refine callS_eq (appendNumber_a _ _ (by rw [List.length_append, textB_len]; omega)) ?_
      conv => whnf
      refine AWL.run E_ok Tryd.func23 2000 ?_
      conv => whnf
      with_reducible refine callS_eq (appendNumber_a _ _ (by rw [List.length_append, List.length_append, textB_len, numB_len]; omega)) ?_
      conv => whnf
      refine AWL.run E_ok Tryd.func23 2000 ?_
      conv => whnf
      refine AWL.back (IH (k + 1) (by omega) (by omega)) ?_
      conv => whnf
      repeat (first | exact trivial | (refine And.intro (by first | with_reducible rfl | exact congrArg (DV.int .i64) (by omega) | exact congrArg (DV.int .i64) (wrap64 (by omega) (by omega)) | exact congrArg (DV.int .i64) ((wrap64 (by omega) (by omega)).trans (by omega))) ?_; conv => whnf))
      refine And.intro (by simp [take_next hd, datumB]) ?_
      conv => whnf
      repeat (first | exact trivial | (refine And.intro (by first | with_reducible rfl | exact congrArg (DV.int .i64) (by omega) | exact congrArg (DV.int .i64) (wrap64 (by omega) (by omega)) | exact congrArg (DV.int .i64) ((wrap64 (by omega) (by omega)).trans (by omega))) ?_; conv => whnf))
    · have hge : k = s.data.length := by simp at h; omega
      subst hge
      conv => whnf
      refine AWL.run E_ok Tryd.func23 2000 ?_
      conv => whnf
      simp [setB]

end Go.Proofs.YtklkmdoakhkikaaDoor.P
