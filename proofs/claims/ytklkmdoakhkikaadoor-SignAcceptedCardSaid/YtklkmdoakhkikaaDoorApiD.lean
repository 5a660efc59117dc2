/- The data of package api: when a value is such as Go allows, and how an argument reads as one. Made by a program. No conditions. -/
import Derived.Test.YtklkmdoakhkikaaDoorApi
import Derived.Test.YtklkmdoakhkikaaDoorDec
namespace Go.Proofs.YtklkmdoakhkikaaDoor.P
open Go Go.Eng
set_option maxRecDepth 100000

def U64 (n : Int) : Prop := 0 ≤ n ∧ n ≤ 18446744073709551615
def U8 (n : Int) : Prop := 0 ≤ n ∧ n ≤ 255
theorem i64_wf {n : Int} (h : (Lit.int .i64 n).wf = true) : I64 n := by
  simp [Lit.wf, IntKind.min, IntKind.max, IntKind.signed, IntKind.bits] at h
  exact h
theorem u64_wf {n : Int} (h : (Lit.int .u64 n).wf = true) : U64 n := by
  simp [Lit.wf, IntKind.min, IntKind.max, IntKind.signed, IntKind.bits] at h
  exact h
theorem u8_wf {n : Int} (h : (Lit.int .u8 n).wf = true) : U8 n := by
  simp [Lit.wf, IntKind.min, IntKind.max, IntKind.signed, IntKind.bits] at h
  exact h
theorem dec_int {x : DV} (h : ∃ m, HasT E m 3 x.cells) (he : ElemT (kindT E 3) x) : ∃ n : Int, x = .int .i64 n ∧ I64 n := by
  obtain ⟨m, h⟩ := h
  obtain ⟨n, h1, h2⟩ := hasT_int (k := .i64) (by kernel_rfl) h
  have he : x.cells = [x] := he
  rw [he] at h1
  cases h1
  exact ⟨n, rfl, i64_wf h2⟩
theorem dec_u64 {x : DV} (h : ∃ m, HasT E m 27 x.cells) (he : ElemT (kindT E 27) x) : ∃ n : Int, x = .int .u64 n ∧ U64 n := by
  obtain ⟨m, h⟩ := h
  obtain ⟨n, h1, h2⟩ := hasT_int (k := .u64) (by kernel_rfl) h
  have he : x.cells = [x] := he
  rw [he] at h1
  cases h1
  exact ⟨n, rfl, u64_wf h2⟩
theorem dec_u8 {x : DV} (h : ∃ m, HasT E m 5 x.cells) (he : ElemT (kindT E 5) x) : ∃ n : Int, x = .int .u8 n ∧ U8 n := by
  obtain ⟨m, h⟩ := h
  obtain ⟨n, h1, h2⟩ := hasT_int (k := .u8) (by kernel_rfl) h
  have he : x.cells = [x] := he
  rw [he] at h1
  cases h1
  exact ⟨n, rfl, u8_wf h2⟩
theorem dec_str {x : DV} (h : ∃ m, HasT E m 9 x.cells) (he : ElemT (kindT E 9) x) : ∃ n : Text, x = .str n ∧ n.length ≤ maxLen := by
  obtain ⟨m, h⟩ := h
  obtain ⟨n, h1, h2⟩ := hasT_str (by kernel_rfl) h
  have he : x.cells = [x] := he
  rw [he] at h1
  cases h1
  exact ⟨n, rfl, h2⟩

def Datum.Good (a : Datum) : Prop := (a.text.length ≤ maxLen) ∧ (I64 a.n) ∧ (I64 a.m)
theorem decC_Datum {m : Nat} {ds : List DV} (h : HasT E m 38 ds) : ∃ a : Datum, DV.agg ds = a.enc ∧ a.Good := by
  obtain ⟨m, hl, hf⟩ := hasT_struct (fs := [(0, 9), (1, 3), (2, 3)]) (by kernel_rfl) h
  have hl : ds.length = 3 := hl
  match ds, hl with
  | [x0, x1, x2], _ =>
    obtain ⟨v0, e0, g0⟩ := hasT_str (by kernel_rfl) (hf (0, 9) (by simp))
    have e0 : [x0] = [DV.str v0] := e0
    cases e0
    obtain ⟨v1, e1, g1⟩ := hasT_int (k := .i64) (by kernel_rfl) (hf (1, 3) (by simp))
    have e1 : [x1] = [DV.int .i64 v1] := e1
    cases e1
    obtain ⟨v2, e2, g2⟩ := hasT_int (k := .i64) (by kernel_rfl) (hf (2, 3) (by simp))
    have e2 : [x2] = [DV.int .i64 v2] := e2
    cases e2
    exact ⟨⟨v0, v1, v2⟩, rfl, ⟨g0, i64_wf g1, i64_wf g2⟩⟩
theorem dec_Datum {x : DV} (h : ∃ m, HasT E m 38 x.cells) (he : ElemT (kindT E 38) x) : ∃ a : Datum, x = a.enc ∧ a.Good := by
  obtain ⟨m, h⟩ := h
  obtain ⟨cs, rfl⟩ : ∃ cs, x = .agg cs := he
  have h : HasT E m 38 cs := h
  exact decC_Datum h

def RSet.Good (a : RSet) : Prop := (a.name.length ≤ maxLen) ∧ (I64 a.type) ∧ (I64 a.life) ∧ (a.data.length ≤ maxLen ∧ ∀ x ∈ a.data, x.Good)
theorem decC_RSet {m : Nat} {ds : List DV} (h : HasT E m 24 ds) : ∃ a : RSet, DV.agg ds = a.enc ∧ a.Good := by
  obtain ⟨m, hl, hf⟩ := hasT_struct (fs := [(0, 9), (1, 3), (2, 3), (3, 22)]) (by kernel_rfl) h
  have hl : ds.length = 4 := hl
  match ds, hl with
  | [x0, x1, x2, x3], _ =>
    obtain ⟨v0, e0, g0⟩ := hasT_str (by kernel_rfl) (hf (0, 9) (by simp))
    have e0 : [x0] = [DV.str v0] := e0
    cases e0
    obtain ⟨v1, e1, g1⟩ := hasT_int (k := .i64) (by kernel_rfl) (hf (1, 3) (by simp))
    have e1 : [x1] = [DV.int .i64 v1] := e1
    cases e1
    obtain ⟨v2, e2, g2⟩ := hasT_int (k := .i64) (by kernel_rfl) (hf (2, 3) (by simp))
    have e2 : [x2] = [DV.int .i64 v2] := e2
    cases e2
    obtain ⟨l3, e3, n3, g3⟩ := hasT_slice (e := 38) (by kernel_rfl) (hf (3, 22) (by simp))
    have e3 : [x3] = [DV.sl l3] := e3
    cases e3
    obtain ⟨v3, rfl, q3⟩ := dec_list (good := Datum.Good) (fun x h1 h2 => dec_Datum h1 h2) g3
    exact ⟨⟨v0, v1, v2, v3⟩, rfl, ⟨g0, i64_wf g1, i64_wf g2, ⟨by simpa using n3, q3⟩⟩⟩
theorem dec_RSet {x : DV} (h : ∃ m, HasT E m 24 x.cells) (he : ElemT (kindT E 24) x) : ∃ a : RSet, x = a.enc ∧ a.Good := by
  obtain ⟨m, h⟩ := h
  obtain ⟨cs, rfl⟩ : ∃ cs, x = .agg cs := he
  have h : HasT E m 24 cs := h
  exact decC_RSet h

def Key.Good (a : Key) : Prop := (I64 a.n) ∧ (I64 a.alg)
theorem decC_Key {m : Nat} {ds : List DV} (h : HasT E m 26 ds) : ∃ a : Key, DV.agg ds = a.enc ∧ a.Good := by
  obtain ⟨m, hl, hf⟩ := hasT_struct (fs := [(0, 3), (1, 3)]) (by kernel_rfl) h
  have hl : ds.length = 2 := hl
  match ds, hl with
  | [x0, x1], _ =>
    obtain ⟨v0, e0, g0⟩ := hasT_int (k := .i64) (by kernel_rfl) (hf (0, 3) (by simp))
    have e0 : [x0] = [DV.int .i64 v0] := e0
    cases e0
    obtain ⟨v1, e1, g1⟩ := hasT_int (k := .i64) (by kernel_rfl) (hf (1, 3) (by simp))
    have e1 : [x1] = [DV.int .i64 v1] := e1
    cases e1
    exact ⟨⟨v0, v1⟩, rfl, ⟨i64_wf g0, i64_wf g1⟩⟩
theorem dec_Key {x : DV} (h : ∃ m, HasT E m 26 x.cells) (he : ElemT (kindT E 26) x) : ∃ a : Key, x = a.enc ∧ a.Good := by
  obtain ⟨m, h⟩ := h
  obtain ⟨cs, rfl⟩ : ∃ cs, x = .agg cs := he
  have h : HasT E m 26 cs := h
  exact decC_Key h

def Sig.Good (a : Sig) : Prop := (a.zone.length ≤ maxLen) ∧ (I64 a.key) ∧ (I64 a.alg) ∧ (I64 a.frm) ∧ (I64 a.upto) ∧ (U64 a.sum)
theorem decC_Sig {m : Nat} {ds : List DV} (h : HasT E m 29 ds) : ∃ a : Sig, DV.agg ds = a.enc ∧ a.Good := by
  obtain ⟨m, hl, hf⟩ := hasT_struct (fs := [(0, 9), (1, 3), (2, 3), (3, 3), (4, 3), (5, 27)]) (by kernel_rfl) h
  have hl : ds.length = 6 := hl
  match ds, hl with
  | [x0, x1, x2, x3, x4, x5], _ =>
    obtain ⟨v0, e0, g0⟩ := hasT_str (by kernel_rfl) (hf (0, 9) (by simp))
    have e0 : [x0] = [DV.str v0] := e0
    cases e0
    obtain ⟨v1, e1, g1⟩ := hasT_int (k := .i64) (by kernel_rfl) (hf (1, 3) (by simp))
    have e1 : [x1] = [DV.int .i64 v1] := e1
    cases e1
    obtain ⟨v2, e2, g2⟩ := hasT_int (k := .i64) (by kernel_rfl) (hf (2, 3) (by simp))
    have e2 : [x2] = [DV.int .i64 v2] := e2
    cases e2
    obtain ⟨v3, e3, g3⟩ := hasT_int (k := .i64) (by kernel_rfl) (hf (3, 3) (by simp))
    have e3 : [x3] = [DV.int .i64 v3] := e3
    cases e3
    obtain ⟨v4, e4, g4⟩ := hasT_int (k := .i64) (by kernel_rfl) (hf (4, 3) (by simp))
    have e4 : [x4] = [DV.int .i64 v4] := e4
    cases e4
    obtain ⟨v5, e5, g5⟩ := hasT_int (k := .u64) (by kernel_rfl) (hf (5, 27) (by simp))
    have e5 : [x5] = [DV.int .u64 v5] := e5
    cases e5
    exact ⟨⟨v0, v1, v2, v3, v4, v5⟩, rfl, ⟨g0, i64_wf g1, i64_wf g2, i64_wf g3, i64_wf g4, u64_wf g5⟩⟩
theorem dec_Sig {x : DV} (h : ∃ m, HasT E m 29 x.cells) (he : ElemT (kindT E 29) x) : ∃ a : Sig, x = a.enc ∧ a.Good := by
  obtain ⟨m, h⟩ := h
  obtain ⟨cs, rfl⟩ : ∃ cs, x = .agg cs := he
  have h : HasT E m 29 cs := h
  exact decC_Sig h

def Signed.Good (a : Signed) : Prop := (a.set.Good) ∧ (a.sigs.length ≤ maxLen ∧ ∀ x ∈ a.sigs, x.Good)
theorem decC_Signed {m : Nat} {ds : List DV} (h : HasT E m 67 ds) : ∃ a : Signed, DV.agg ds = a.enc ∧ a.Good := by
  obtain ⟨m, hl, hf⟩ := hasT_struct (fs := [(0, 24), (4, 65)]) (by kernel_rfl) h
  have hl : ds.length = 5 := hl
  match ds, hl with
  | [x0, x1, x2, x3, x4], _ =>
    obtain ⟨v0, e0, g0⟩ := decC_RSet (hf (0, 24) (by simp))
    have e0 : DV.agg [x0, x1, x2, x3] = v0.enc := e0
    cases e0
    obtain ⟨l1, e1, n1, g1⟩ := hasT_slice (e := 29) (by kernel_rfl) (hf (4, 65) (by simp))
    have e1 : [x4] = [DV.sl l1] := e1
    cases e1
    obtain ⟨v1, rfl, q1⟩ := dec_list (good := Sig.Good) (fun x h1 h2 => dec_Sig h1 h2) g1
    exact ⟨⟨v0, v1⟩, rfl, ⟨g0, ⟨by simpa using n1, q1⟩⟩⟩
theorem dec_Signed {x : DV} (h : ∃ m, HasT E m 67 x.cells) (he : ElemT (kindT E 67) x) : ∃ a : Signed, x = a.enc ∧ a.Good := by
  obtain ⟨m, h⟩ := h
  obtain ⟨cs, rfl⟩ : ∃ cs, x = .agg cs := he
  have h : HasT E m 67 cs := h
  exact decC_Signed h

def Zone.Good (a : Zone) : Prop := (a.apex.length ≤ maxLen) ∧ (a.sets.length ≤ maxLen ∧ ∀ x ∈ a.sets, x.Good)
theorem decC_Zone {m : Nat} {ds : List DV} (h : HasT E m 43 ds) : ∃ a : Zone, DV.agg ds = a.enc ∧ a.Good := by
  obtain ⟨m, hl, hf⟩ := hasT_struct (fs := [(0, 9), (1, 41)]) (by kernel_rfl) h
  have hl : ds.length = 2 := hl
  match ds, hl with
  | [x0, x1], _ =>
    obtain ⟨v0, e0, g0⟩ := hasT_str (by kernel_rfl) (hf (0, 9) (by simp))
    have e0 : [x0] = [DV.str v0] := e0
    cases e0
    obtain ⟨l1, e1, n1, g1⟩ := hasT_slice (e := 67) (by kernel_rfl) (hf (1, 41) (by simp))
    have e1 : [x1] = [DV.sl l1] := e1
    cases e1
    obtain ⟨v1, rfl, q1⟩ := dec_list (good := Signed.Good) (fun x h1 h2 => dec_Signed h1 h2) g1
    exact ⟨⟨v0, v1⟩, rfl, ⟨g0, ⟨by simpa using n1, q1⟩⟩⟩
theorem dec_Zone {x : DV} (h : ∃ m, HasT E m 43 x.cells) (he : ElemT (kindT E 43) x) : ∃ a : Zone, x = a.enc ∧ a.Good := by
  obtain ⟨m, h⟩ := h
  obtain ⟨cs, rfl⟩ : ∃ cs, x = .agg cs := he
  have h : HasT E m 43 cs := h
  exact decC_Zone h

theorem dec_Keys {x : DV} (h : ∃ m, HasT E m 46 x.cells) (he : ElemT (kindT E 46) x) : ∃ l : List Key, x = .sl (l.map Key.enc) ∧ l.length ≤ maxLen ∧ ∀ a ∈ l, Key.Good a := by
  obtain ⟨m, h⟩ := h
  obtain ⟨l, h1, h2, h3⟩ := hasT_slice (e := 26) (by kernel_rfl) h
  have he : x.cells = [x] := he
  rw [he] at h1
  cases h1
  obtain ⟨v, rfl, q⟩ := dec_list (good := Key.Good) (fun x h1 h2 => dec_Key h1 h2) h3
  exact ⟨v, rfl, by simpa using h2, q⟩

theorem dec_ints {x : DV} (h : ∃ m, HasT E m 82 x.cells) (he : ElemT (kindT E 82) x) : ∃ l : List Int, x = .sl (l.map (.int .i64)) ∧ l.length ≤ maxLen ∧ ∀ a ∈ l, I64 a := by
  obtain ⟨m, h⟩ := h
  obtain ⟨l, h1, h2, h3⟩ := hasT_slice (e := 3) (by kernel_rfl) h
  have he : x.cells = [x] := he
  rw [he] at h1
  cases h1
  obtain ⟨v, rfl, q⟩ := dec_list (good := I64) (fun x h1 h2 => dec_int h1 h2) h3
  exact ⟨v, rfl, by simpa using h2, q⟩

theorem dec_bytes {x : DV} (h : ∃ m, HasT E m 48 x.cells) (he : ElemT (kindT E 48) x) : ∃ l : List Int, x = .sl (l.map (.int .u8)) ∧ l.length ≤ maxLen ∧ ∀ a ∈ l, U8 a := by
  obtain ⟨m, h⟩ := h
  obtain ⟨l, h1, h2, h3⟩ := hasT_slice (e := 5) (by kernel_rfl) h
  have he : x.cells = [x] := he
  rw [he] at h1
  cases h1
  obtain ⟨v, rfl, q⟩ := dec_list (good := U8) (fun x h1 h2 => dec_u8 h1 h2) h3
  exact ⟨v, rfl, by simpa using h2, q⟩

end Go.Proofs.YtklkmdoakhkikaaDoor.P
