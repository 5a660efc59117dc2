/- Contracts by the engine: package sign, up to Check. Conditions: lengths that Go allows. -/
import Derived.Test.YtklkmdoakhkikaaDoorP4
namespace Go.Proofs.YtklkmdoakhkikaaDoor.P
open Go Go.Eng
set_option maxRecDepth 100000

theorem nunder_p (t z : Text) (ht : t.length ≤ maxLen) (hz : z.length ≤ maxLen) : PCalls E 24 [.str t, .str z] (· = .tup [.bool (Nm.vunder t z), .int .i64 (if Nm.valid t && Nm.valid z then 0 else 11)]) :=
  ofTexts (g := fun t z => .tup [.bool (Nm.vunder t z), .int .i64 (if Nm.valid t && Nm.valid z then 0 else 11)]) t z ⟨_, Tryd.func24, rfl, by decide⟩ fun w => (nunder_any ⟨t.toArray⟩ ⟨z.toArray⟩ w (size_mk ht) (size_mk hz)).mono fun e w' ⟨h1, h2⟩ => ⟨_, h1, fun _ _ => by
    simp only [toL_mk]
    exact .tup _ _ rfl (fun j x v hx hv => by
      match j with
      | 0 => simp at hx hv; subst hx; subst hv; exact .bool _
      | 1 => simp at hx hv; subst hx; subst hv; exact .int _ _
      | j + 2 => simp at hx), h2⟩

/-- One byte more of a digest. -/
def digStep (d : Int) (x : DV) : Int := match x with
  | .int _ n => IntKind.u64.wrap (bitI .xor .u64 d (IntKind.u64.wrap n) * 1099511628211)
  | _ => d
def dig (d : Int) (l : List DV) : Int := l.foldl digStep d
@[reducible] def isByte (x : DV) : Prop := ∃ n, x = .int .u8 n
theorem dig_append (d : Int) (l m : List DV) : dig d (l ++ m) = dig (dig d l) m := List.foldl_append
theorem dig_next {d : Int} {l : List DV} {k : Nat} {x : DV} (h : l[k]? = some x) : dig d (l.take (k + 1)) = digStep (dig d (l.take k)) x := by rw [take_next h, dig_append]; rfl

theorem add_a (d : Int) (l : List DV) (hl : l.length ≤ 2147483648) (hb : ∀ x ∈ l, isByte x) : ACalls E 32 [.cells [.d (.int .u64 d)]] [.ptr 0 0, .d (.sl l)] (fun a b => a = .tup [] ∧ b = [.cells [.d (.int .u64 (dig d l))]]) := by
  refine ACalls.run E_ok (fn := Tryd.f32) Tryd.func32 (body := Tryd.f32.body.getD .skip) rfl (by decide) 2000 rfl ?_
  conv => whnf
  refine AWL.loop (κ := Nat) [5, 8, 9, 10, 11, 12, 13, 14, 15, 16, 17, 18, 19, 20, 21] (fun k => [(8, .d (.int .i64 k))]) (fun k => [(0, .cells [.d (.int .u64 (dig d (l.take k)))])]) (fun k => k ≤ l.length) (fun k => l.length - k) 0 (Nat.zero_le _) ?_ ?_
  · conv => whnf
    repeat (first | exact trivial | (refine And.intro (by first | with_reducible rfl | exact congrArg (DV.int .i64) (by omega) | exact rfl | exact congrArg (DV.int .i64) (wrap64 (by omega) (by omega)) | exact congrArg (DV.int .i64) ((wrap64 (by omega) (by omega)).trans (by omega))) ?_; conv => whnf))
  · intro k hk IH
    refine AWL.head E_ok Tryd.func32 2000 ?_
    conv => whnf
    refine caseB_split (fun h => ?_) (fun h => ?_)
    · have hlt : k < l.length := by simpa using h
      obtain ⟨x, hx⟩ := some_of_lt hlt
      obtain ⟨n, rfl⟩ := hb x (List.mem_of_getElem? hx)
      conv => whnf
      refine AWL.run E_ok Tryd.func32 2000 ?_
      conv => whnf
      refine elemP_intro (.int .u8 n) (by omega) (by simpa using hx) rfl ?_
      conv => whnf
      refine AWL.run E_ok Tryd.func32 2000 ?_
      conv => whnf
      refine AWL.back (IH (k + 1) (by omega) (by omega)) ?_
      conv => whnf
      repeat (first | exact trivial | (refine And.intro (by first | with_reducible rfl | exact congrArg (DV.int .i64) (by omega) | exact congrArg _ (dig_next hx).symm | exact congrArg (DV.int .i64) (wrap64 (by omega) (by omega)) | exact congrArg (DV.int .i64) ((wrap64 (by omega) (by omega)).trans (by omega))) ?_; conv => whnf))
    · have hge : k = l.length := by simp at h; omega
      subst hge
      conv => whnf
      refine AWL.run E_ok Tryd.func32 2000 ?_
      conv => whnf
      simp

theorem numB_byte (n : Int) : ∀ x ∈ numB n, isByte x := by
  intro x hx
  simp only [numB, List.mem_map] at hx
  obtain ⟨k, -, rfl⟩ := hx
  exact ⟨_, rfl⟩
theorem textB_byte (t : Text) : ∀ x ∈ textB t, isByte x := by
  intro x hx
  simp only [textB, List.mem_cons, List.mem_map] at hx
  rcases hx with rfl | ⟨b, -, rfl⟩
  · exact ⟨_, rfl⟩
  · exact ⟨_, rfl⟩

def numsB (l : List Int) : List DV := l.flatMap numB
theorem numsB_next {l : List Int} {k : Nat} {x : Int} (h : l[k]? = some x) : numsB (l.take (k + 1)) = numsB (l.take k) ++ numB x := by
  rw [take_next h]; simp [numsB]

theorem numbers_a (d : Int) (l : List Int) (hl : l.length ≤ 2147483648) : ACalls E 47 [.cells [.d (.int .u64 d)]] [.d (.sl (l.map (.int .i64))), .ptr 0 0] (fun a b => a = .tup [] ∧ b = [.cells [.d (.int .u64 (dig d (numsB l)))]]) := by
  refine ACalls.run E_ok (fn := Tryd.f47) Tryd.func47 (body := Tryd.f47.body.getD .skip) rfl (by decide) 2000 rfl ?_
  conv => whnf
  refine AWL.loop (κ := Nat) [4, 5, 6, 9, 10, 11, 12, 13, 14, 15, 16, 17, 18, 19, 20, 21, 22, 23, 24, 25, 26, 27, 28] (fun k => [(9, .d (.int .i64 k))]) (fun k => [(0, .cells [.d (.int .u64 (dig d (numsB (l.take k))))])]) (fun k => k ≤ l.length) (fun k => l.length - k) 0 (Nat.zero_le _) ?_ ?_
  · conv => whnf
    repeat (first | exact trivial | (refine And.intro (by first | with_reducible rfl | exact congrArg (DV.int .i64) (by omega) | exact rfl | exact congrArg (DV.int .i64) (wrap64 (by omega) (by omega)) | exact congrArg (DV.int .i64) ((wrap64 (by omega) (by omega)).trans (by omega))) ?_; conv => whnf))
  · intro k hk IH
    refine AWL.head E_ok Tryd.func47 2000 ?_
    conv => whnf
    refine caseB_split (fun h => ?_) (fun h => ?_)
    · have hlt : k < l.length := by simpa using h
      obtain ⟨n, hn⟩ := some_of_lt hlt
      conv => whnf
      refine AWL.run E_ok Tryd.func47 2000 ?_
      conv => whnf
      refine elemP_intro (.int .i64 n) (by omega) (elem_map hn) rfl ?_
      conv => whnf
      refine AWL.run E_ok Tryd.func47 2000 ?_
      conv => whnf
      refine AWL.unroll ?_
      refine AWL.run E_ok Tryd.func47 2000 ?_
      conv => whnf
      iterate 8
        refine caseB_yes (by decide) ?_
        conv => whnf
        refine AWL.run E_ok Tryd.func47 2000 ?_
        conv => whnf
        refine need_intro (by decide) ?_
        conv => whnf
        refine AWL.run E_ok Tryd.func47 2000 ?_
        conv => whnf
        refine AWL.again ?_
        refine AWL.run E_ok Tryd.func47 2000 ?_
        conv => whnf
      refine caseB_no (by decide) ?_
      conv => whnf
      refine AWL.run E_ok Tryd.func47 2000 ?_
      conv => whnf
      refine callS_eq (add_a _ (numB n) (by simp [numB_len]) (numB_byte n)) ?_
      conv => whnf
      refine AWL.run E_ok Tryd.func47 2000 ?_
      conv => whnf
      refine AWL.back (IH (k + 1) (by omega) (by omega)) ?_
      conv => whnf
      repeat (first | exact trivial | (refine And.intro (by first | with_reducible rfl | exact congrArg (DV.int .i64) (by omega) | exact congrArg _ (by rw [numsB_next hn, dig_append]) | exact congrArg (DV.int .i64) (wrap64 (by omega) (by omega)) | exact congrArg (DV.int .i64) ((wrap64 (by omega) (by omega)).trans (by omega))) ?_; conv => whnf))
    · have hge : k = l.length := by simp at h; omega
      subst hge
      conv => whnf
      refine AWL.run E_ok Tryd.func47 2000 ?_
      conv => whnf
      simp

def dig0 : Int := 14695981039346656037
theorem digest_p (l : List DV) (hl : l.length ≤ 2147483648) (hb : ∀ x ∈ l, isByte x) : PCalls E 11 [.sl l] (· = .int .u64 (dig dig0 l)) := by
  refine PCalls.run E_ok (fn := Tryd.f11) Tryd.func11 (body := Tryd.f11.body.getD .skip) rfl (by decide) 2000 ?_
  conv => whnf
  with_reducible refine callS_eq (add_a _ l hl hb) ?_
  conv => whnf
  refine AWL.run E_ok Tryd.func11 2000 ?_
  conv => whnf
  rfl

/-- What is summed up. -/
def sumB (b : List DV) (zone : Text) (k : Key) (frm upto : Int) : List DV := b ++ textB zone ++ numsB [k.n, k.alg, frm, upto]
theorem sum_p (b : List DV) (zone : Text) (k : Key) (frm upto : Int) (hl : b.length ≤ 2147483648) (hb : ∀ x ∈ b, isByte x) (hz : zone.length ≤ 2147483647) : PCalls E 25 [.sl b, .str zone, k.enc, .int .i64 frm, .int .i64 upto] (· = .int .u64 (dig dig0 (sumB b zone k frm upto))) := by
  refine PCalls.run E_ok (fn := Tryd.f25) Tryd.func25 (body := Tryd.f25.body.getD .skip) rfl (by decide) 2000 ?_
  conv => whnf
  with_reducible refine callS_eq (add_a _ b hl hb) ?_
  conv => whnf
  refine AWL.run E_ok Tryd.func25 2000 ?_
  conv => whnf
  with_reducible refine callS_eq (add_a _ _ (by simp) (by simp [isByte])) ?_
  conv => whnf
  refine AWL.run E_ok Tryd.func25 2000 ?_
  conv => whnf
  with_reducible refine callS_eq (add_a _ _ (by simp; omega) (fun x hx => by obtain ⟨c, -, rfl⟩ := List.mem_map.1 hx; exact ⟨_, rfl⟩)) ?_
  conv => whnf
  refine AWL.run E_ok Tryd.func25 2000 ?_
  conv => whnf
  refine callS_eq (numbers_a _ [k.n, k.alg, frm, upto] (by simp)) ?_
  conv => whnf
  refine AWL.run E_ok Tryd.func25 2000 ?_
  conv => whnf
  simp only [sumB, textB, dig_append]
  rfl

def keyOK (k : Key) : Bool := decide (k.n ≥ 1) && decide (k.n ≤ 1000000) && decide (k.alg ≥ 1) && decide (k.alg ≤ 3)
theorem keyOK_p (k : Key) : PCalls E 19 [k.enc] (· = .bool (keyOK k)) := by
  refine PCalls.run E_ok (fn := Tryd.f19) Tryd.func19 (body := Tryd.f19.body.getD .skip) rfl (by decide) 2000 ?_
  conv => whnf
  repeat' (first | with_reducible refine caseB_true ?_ | with_reducible refine caseB_false ?_ | with_reducible refine caseB_yes (by decide) ?_ | with_reducible refine caseB_no (by decide) ?_ | with_reducible refine caseB_split (fun _ => ?_) (fun _ => ?_) | ((conv => whnf); (with_reducible refine AWL.run E_ok Tryd.func19 2000 ?_); (conv => whnf); fail_if_success (with_reducible refine AWL.of ?_)) | ((conv => whnf); (with_reducible refine DWL.run E_ok 2000 ?_); (conv => whnf); fail_if_success (with_reducible refine DWL.is ?_)) | ((conv => whnf); (with_reducible refine SWL.run E_ok 2000 ?_); (conv => whnf); fail_if_success (with_reducible refine SWL.is ?_)))
  all_goals simp_all [keyOK]
  all_goals omega
def winOK (a b : Int) : Bool := decide (a ≥ 0) && decide (a ≤ b) && decide (b ≤ 20000000)
theorem winOK_p (a b : Int) : PCalls E 20 [.int .i64 a, .int .i64 b] (· = .bool (winOK a b)) := by
  refine PCalls.run E_ok (fn := Tryd.f20) Tryd.func20 (body := Tryd.f20.body.getD .skip) rfl (by decide) 2000 ?_
  conv => whnf
  repeat' (first | with_reducible refine caseB_true ?_ | with_reducible refine caseB_false ?_ | with_reducible refine caseB_yes (by decide) ?_ | with_reducible refine caseB_no (by decide) ?_ | with_reducible refine caseB_split (fun _ => ?_) (fun _ => ?_) | ((conv => whnf); (with_reducible refine AWL.run E_ok Tryd.func20 2000 ?_); (conv => whnf); fail_if_success (with_reducible refine AWL.of ?_)) | ((conv => whnf); (with_reducible refine DWL.run E_ok 2000 ?_); (conv => whnf); fail_if_success (with_reducible refine DWL.is ?_)) | ((conv => whnf); (with_reducible refine SWL.run E_ok 2000 ?_); (conv => whnf); fail_if_success (with_reducible refine SWL.is ?_)))
  all_goals simp_all [winOK]
  all_goals omega

def signOK (s : RSet) (zone : Text) (k : Key) (frm upto : Int) : Bool := keyOK k && winOK frm upto && Nm.valid zone && !Nm.wild zone && setOK s && Nm.vunder s.name zone
def sigOf (s : RSet) (zone : Text) (k : Key) (frm upto : Int) : Sig := ⟨zone, k.n, k.alg, frm, upto, dig dig0 (sumB (setB s) zone k frm upto)⟩
def sig0 : Sig := ⟨[], 0, 0, 0, 0, 0⟩
def signR (s : RSet) (zone : Text) (k : Key) (frm upto : Int) : Sig := if signOK s zone k frm upto then sigOf s zone k frm upto else sig0
def signE (s : RSet) (zone : Text) (k : Key) (frm upto : Int) : Int := if signOK s zone k frm upto then 0 else 1

theorem setB_byte (s : RSet) : ∀ x ∈ setB s, isByte x := by
  intro x hx
  simp only [setB, headB, List.mem_append, List.mem_flatMap, datumB, List.mem_singleton] at hx
  rcases hx with (((h | h) | h) | h) | ⟨d, -, ((h | h) | h)⟩
  · exact textB_byte _ x h
  · exact numB_byte _ x h
  · exact numB_byte _ x h
  · exact ⟨_, h⟩
  · exact textB_byte _ x h
  · exact numB_byte _ x h
  · exact numB_byte _ x h
theorem setB_len {s : RSet} (h : setOK s = true) : (setB s).length ≤ 700 := by
  obtain ⟨hn, hd, -, ht⟩ := setOK_lens h
  have h1 := headB_len hn
  have h2 := dataB_len ht
  simp only [setB, List.length_append]
  omega

theorem sign_p (s : RSet) (zone : Text) (k : Key) (frm upto : Int) (hf : s.Fits) (hz : zone.length ≤ maxLen) : PCalls E 7 [s.enc, .str zone, k.enc, .int .i64 frm, .int .i64 upto] (· = .tup [(signR s zone k frm upto).enc, .int .i64 (signE s zone k frm upto)]) := by
  have no : signOK s zone k frm upto = false → signR s zone k frm upto = sig0 ∧ signE s zone k frm upto = 1 := fun h => by simp [signR, signE, h]
  cases hs : setOK s
  · refine PCalls.run E_ok (fn := Tryd.f7) Tryd.func7 (body := Tryd.f7.body.getD .skip) rfl (by decide) 2000 ?_
    conv => whnf
    repeat' (first | with_reducible refine callP_eq (keyOK_p _) ?_ | with_reducible refine callP1_eq (keyOK_p _) ?_ | with_reducible refine callP_eq (winOK_p _ _) ?_ | with_reducible refine callP1_eq (winOK_p _ _) ?_ | with_reducible refine callP_eq (nvalid_p _ hz) ?_ | with_reducible refine callP1_eq (nvalid_p _ hz) ?_ | with_reducible refine callP_eq (hasPrefix_p _ _) ?_ | with_reducible refine callP1_eq (hasPrefix_p _ _) ?_ | with_reducible refine callP_eq (bytesNo_p s hf hs) ?_ | with_reducible refine callP1_eq (bytesNo_p s hf hs) ?_ | with_reducible refine caseB_true ?_ | with_reducible refine caseB_false ?_ | with_reducible refine caseB_yes (by decide) ?_ | with_reducible refine caseB_no (by decide) ?_ | with_reducible refine caseB_split (fun _ => ?_) (fun _ => ?_) | ((conv => whnf); (with_reducible refine AWL.run E_ok Tryd.func7 2000 ?_); (conv => whnf); fail_if_success (with_reducible refine AWL.of ?_)) | ((conv => whnf); (with_reducible refine DWL.run E_ok 2000 ?_); (conv => whnf); fail_if_success (with_reducible refine DWL.is ?_)) | ((conv => whnf); (with_reducible refine SWL.run E_ok 2000 ?_); (conv => whnf); fail_if_success (with_reducible refine SWL.is ?_)))
    all_goals (rw [(no (by simp_all [signOK, pre_star])).1, (no (by simp_all [signOK, pre_star])).2]; rfl)
  · refine PCalls.run E_ok (fn := Tryd.f7) Tryd.func7 (body := Tryd.f7.body.getD .skip) rfl (by decide) 2000 ?_
    conv => whnf
    repeat' (first | with_reducible refine callP_eq (keyOK_p _) ?_ | with_reducible refine callP1_eq (keyOK_p _) ?_ | with_reducible refine callP_eq (winOK_p _ _) ?_ | with_reducible refine callP1_eq (winOK_p _ _) ?_ | with_reducible refine callP_eq (nvalid_p _ hz) ?_ | with_reducible refine callP1_eq (nvalid_p _ hz) ?_ | with_reducible refine callP_eq (hasPrefix_p _ _) ?_ | with_reducible refine callP1_eq (hasPrefix_p _ _) ?_ | with_reducible refine callP_eq (bytes_p s hf hs) ?_ | with_reducible refine callP1_eq (bytes_p s hf hs) ?_ | with_reducible refine callP_eq (nunder_p _ _ hf.name hz) ?_ | with_reducible refine callP1_eq (nunder_p _ _ hf.name hz) ?_ | with_reducible refine caseB_true ?_ | with_reducible refine caseB_false ?_ | with_reducible refine caseB_yes (by decide) ?_ | with_reducible refine caseB_no (by decide) ?_ | with_reducible refine caseB_split (fun _ => ?_) (fun _ => ?_) | ((conv => whnf); (with_reducible refine AWL.run E_ok Tryd.func7 2000 ?_); (conv => whnf); fail_if_success (with_reducible refine AWL.of ?_)) | ((conv => whnf); (with_reducible refine DWL.run E_ok 2000 ?_); (conv => whnf); fail_if_success (with_reducible refine DWL.is ?_)) | ((conv => whnf); (with_reducible refine SWL.run E_ok 2000 ?_); (conv => whnf); fail_if_success (with_reducible refine SWL.is ?_)))
    all_goals try (rw [(no (by simp_all [signOK, pre_star])).1, (no (by simp_all [signOK, pre_star])).2]; rfl)
    rename_i h1 h2 h3 h4 h5
    have hok : signOK s zone k frm upto = true := by simp_all [signOK, pre_star]
    have hzl : zone.length ≤ 60 := valid_len (by simpa using h3)
    have hbl := setB_len hs
    conv => whnf
    refine AWL.run E_ok Tryd.func7 2000 ?_
    conv => whnf
    refine AWL.draw E_ok E_mixed 14 2000 (by kernel_rfl) ?_
    conv => whnf
    with_reducible refine callP1_eq (sum_p _ _ _ _ _ (by omega) (setB_byte s) (by omega)) ?_
    conv => whnf
    refine DWL.run E_ok 2000 ?_
    conv => whnf
    conv => whnf
    refine SWL.run E_ok 2000 ?_
    conv => whnf
    conv => whnf
    refine AWL.run E_ok Tryd.func7 2000 ?_
    conv => whnf
    simp only [signR, signE, hok, if_true]
    rfl

/-- Two signatures, compared field by field. -/
def sigEq (a b : Sig) : Bool := (a.zone == b.zone && (a.key == b.key && (a.alg == b.alg && (a.frm == b.frm && (a.upto == b.upto && (a.sum == b.sum && true))))))
theorem sigEq_iff {a b : Sig} : sigEq a b = true ↔ a = b := by
  obtain ⟨a1, a2, a3, a4, a5, a6⟩ := a
  obtain ⟨b1, b2, b3, b4, b5, b6⟩ := b
  simp [sigEq]
/-- Is a signature that of the set by the key? -/
def checkB (s : RSet) (g : Sig) (k : Key) : Bool := signOK s g.zone k g.frm g.upto && sigEq (sigOf s g.zone k g.frm g.upto) g
theorem check_p (s : RSet) (g : Sig) (k : Key) (hf : s.Fits) (hz : g.zone.length ≤ maxLen) : PCalls E 8 [s.enc, g.enc, k.enc] (· = .bool (checkB s g k)) := by
  refine PCalls.run E_ok (fn := Tryd.f8) Tryd.func8 (body := Tryd.f8.body.getD .skip) rfl (by decide) 2000 ?_
  conv => whnf
  with_reducible refine callP_eq (sign_p s g.zone k g.frm g.upto hf hz) ?_
  conv => whnf
  refine AWL.run E_ok Tryd.func8 2000 ?_
  conv => whnf
  cases h : signOK s g.zone k g.frm g.upto
  · simp only [signR, signE, h, checkB]
    repeat' (first | with_reducible refine caseB_true ?_ | with_reducible refine caseB_false ?_ | with_reducible refine caseB_yes (by decide) ?_ | with_reducible refine caseB_no (by decide) ?_ | with_reducible refine caseB_split (fun _ => ?_) (fun _ => ?_) | ((conv => whnf); (with_reducible refine AWL.run E_ok Tryd.func8 2000 ?_); (conv => whnf); fail_if_success (with_reducible refine AWL.of ?_)) | ((conv => whnf); (with_reducible refine DWL.run E_ok 2000 ?_); (conv => whnf); fail_if_success (with_reducible refine DWL.is ?_)) | ((conv => whnf); (with_reducible refine SWL.run E_ok 2000 ?_); (conv => whnf); fail_if_success (with_reducible refine SWL.is ?_)))
    rfl
  · simp only [signR, signE, h, checkB]
    repeat' (first | with_reducible refine caseB_true ?_ | with_reducible refine caseB_false ?_ | with_reducible refine caseB_yes (by decide) ?_ | with_reducible refine caseB_no (by decide) ?_ | with_reducible refine caseB_split (fun _ => ?_) (fun _ => ?_) | ((conv => whnf); (with_reducible refine AWL.run E_ok Tryd.func8 2000 ?_); (conv => whnf); fail_if_success (with_reducible refine AWL.of ?_)) | ((conv => whnf); (with_reducible refine DWL.run E_ok 2000 ?_); (conv => whnf); fail_if_success (with_reducible refine DWL.is ?_)) | ((conv => whnf); (with_reducible refine SWL.run E_ok 2000 ?_); (conv => whnf); fail_if_success (with_reducible refine SWL.is ?_)))
    rfl

end Go.Proofs.YtklkmdoakhkikaaDoor.P
