/- The law SignDamage by the engine: the walk. Conditions: what Go allows of the arguments. -/
import Derived.Test.YtklkmdoakhkikaaDoorZLaw08a
import Derived.Test.YtklkmdoakhkikaaDoorZM8
namespace Go.Proofs.YtklkmdoakhkikaaDoor.P
open Go Go.Eng
set_option maxRecDepth 100000
set_option maxHeartbeats 4000000

theorem damage_p (s : RSet) (apex : Text) (k : Key) (frm upto b life which : Int) (ht : ∀ d ∈ s.data, d.text.length ≤ maxLen) (hz : apex.length ≤ maxLen) (hb : U64 b) (hl : U8 life) (hw : U8 which) : PCalls E 4 [s.enc, .str apex, k.enc, .int .i64 frm, .int .i64 upto, .int .u64 b, .int .u8 life, .int .u8 which] (· = .bool true) := by
  cases hu : usableB s apex k frm upto
  · refine PCalls.run E_ok (fn := Tryd.f4) Tryd.func4 (body := Tryd.f4.body.getD .skip) rfl (by decide) 2000 ?_
    conv => whnf
    with_reducible refine callP_eq (head08_p) ?_
    conv => whnf
    refine AWL.run E_ok Tryd.func4 2000 ?_
    conv => whnf
    with_reducible refine callP_eq (usable_p s apex k frm upto ht hz) ?_
    conv => whnf
    refine AWL.run E_ok Tryd.func4 2000 ?_
    conv => whnf
    rw [hu]
    refine caseB_yes (by decide) ?_
    conv => whnf
    refine AWL.run E_ok Tryd.func4 2000 ?_
    conv => whnf
  · obtain ⟨hs, hfew⟩ := usable_ok hu
    have hf := fewS_fits hfew ht
    have hsg := sign_p s apex k frm upto hf hz
    simp only [signR, signE, hs, if_true] at hsg
    have hz1 : (wrongSig (sigOf s apex k frm upto) b).zone.length ≤ maxLen := hz
    have hz2 : (sigOf s apex k frm upto).zone.length ≤ maxLen := hz
    have hfl : (otherLife s life).Fits := ⟨hf.name, hf.data, hf.texts⟩
    have hdl : 1 ≤ s.data.length ∧ s.data.length ≤ 8 := by
      obtain ⟨-, a, b, -⟩ := setOK_lens (signOK_set hs)
      exact ⟨b, a⟩
    have hm : 0 ≤ which % (s.data.length : Int) ∧ which % (s.data.length : Int) < s.data.length := ⟨Int.emod_nonneg _ (by omega), Int.emod_lt_of_pos _ (by omega)⟩
    have hmod : which.tmod (s.data.length : Int) = (((which % (s.data.length : Int)).toNat : Nat) : Int) := by
      rw [Int.tmod_eq_emod_of_nonneg hw.1]
      omega
    generalize hi : (which % (s.data.length : Int)).toNat = i at hmod
    have hil : i < s.data.length := by omega
    obtain ⟨d, hd⟩ := some_of_lt hil
    have hfd : (otherData s i (otherN d life)).Fits := ⟨hf.name, by simpa using hf.data, fun y hy => by
      rcases List.mem_or_eq_of_mem_set hy with h | rfl
      · exact hf.texts y h
      · exact hf.texts d (List.mem_of_getElem? hd)⟩
    have hww : IntKind.i64.wrap which = which := wrap64 (by have := hw.1; omega) (by have := hw.2; omega)
    have part2 : True := trivial
    refine PCalls.run E_ok (fn := Tryd.f4) Tryd.func4 (body := Tryd.f4.body.getD .skip) rfl (by decide) 2000 ?_
    conv => whnf
    with_reducible refine callP_eq (head08_p) ?_
    conv => whnf
    refine AWL.run E_ok Tryd.func4 2000 ?_
    conv => whnf
    with_reducible refine callP_eq (usable_p s apex k frm upto ht hz) ?_
    conv => whnf
    refine AWL.run E_ok Tryd.func4 2000 ?_
    conv => whnf
    rw [hu]
    refine caseB_no (by decide) ?_
    conv => whnf
    refine AWL.run E_ok Tryd.func4 2000 ?_
    conv => whnf
    with_reducible refine callP_eq (hsg) ?_
    conv => whnf
    refine AWL.run E_ok Tryd.func4 2000 ?_
    conv => whnf
    refine caseB_no (by decide) ?_
    conv => whnf
    refine AWL.run E_ok Tryd.func4 2000 ?_
    conv => whnf
    refine caseB_split (fun hb1 => ?_) (fun hb1 => ?_)
    all_goals first
      | (have hb0 : b ≠ 0 := by simpa using hb1
         have c1 := check_p s (wrongSig (sigOf s apex k frm upto) b) k hf hz1
         rw [check_wrong hb hb0] at c1
         conv => whnf
         refine AWL.run E_ok Tryd.func4 2000 ?_
         conv => whnf
         with_reducible refine callP_eq (c1) ?_
         conv => whnf
         refine AWL.run E_ok Tryd.func4 2000 ?_
         conv => whnf
         refine caseB_false ?_)
      | skip
    all_goals
      conv => whnf
      refine AWL.run E_ok Tryd.func4 2000 ?_
      conv => whnf
      refine caseB_split (fun hl1 => ?_) (fun hl1 => ?_)
      · have hl0 : life ≠ 0 := by simpa using hl1
        have c2 := check_p (otherLife s life) (sigOf s apex k frm upto) k hfl hz2
        rw [check_life hs hl hl0] at c2
        have c3 := check_p (otherData s i (otherN d life)) (sigOf s apex k frm upto) k hfd hz2
        rw [check_data hs hl hl0 hd] at c3
        conv => whnf
        refine AWL.run E_ok Tryd.func4 2000 ?_
        conv => whnf
        with_reducible refine callP_eq (c2) ?_
        conv => whnf
        refine AWL.run E_ok Tryd.func4 2000 ?_
        conv => whnf
        refine caseB_false ?_
        conv => whnf
        refine AWL.run E_ok Tryd.func4 2000 ?_
        conv => whnf
        refine need_intro ⟨by simp; omega, fun e he => by obtain ⟨d', -, rfl⟩ := List.mem_map.1 he; rfl⟩ ?_
        conv => whnf
        refine AWL.run E_ok Tryd.func4 2000 ?_
        conv => whnf
        have hidx : divI .rem .i64 (IntKind.i64.wrap which) (([] ++ s.data.map Datum.enc).length : Int) = (i : Int) := by simp [divI, hww, hmod]
        have hel : ([] ++ s.data.map Datum.enc)[((i : Nat) : Int).toNat]? = some d.enc := by simp [hd]
        refine AWL.draw E_ok E_mixed 16 2000 (by kernel_rfl) ?_
        conv => whnf
        refine need_intro (by have := hdl.1; simp; intro h; rw [h] at this; simp at this) ?_
        conv => whnf
        refine DWL.run E_ok 2000 ?_
        conv => whnf
        rw [hidx]
        refine need_intro ⟨by omega, by simp; omega⟩ ?_
        conv => whnf
        refine DWL.run E_ok 2000 ?_
        conv => whnf
        refine elemP_intro d.enc (by omega) (by simpa using hel) rfl ?_
        conv => whnf
        refine DWL.run E_ok 2000 ?_
        conv => whnf
        refine need_intro ⟨by omega, by simp; omega⟩ ?_
        conv => whnf
        refine DWL.run E_ok 2000 ?_
        conv => whnf
        conv => whnf
        refine SWL.run E_ok 2000 ?_
        conv => whnf
        refine elemP_intro d.enc (by omega) (by simpa using hel) rfl ?_
        conv => whnf
        refine SWL.run E_ok 2000 ?_
        conv => whnf
        have hset : ([] ++ List.map Datum.enc s.data).set ((i : Nat) : Int).toNat (DV.agg [.str d.text, .int .i64 (bitI .xor .i64 d.n (IntKind.i64.wrap life)), .int .i64 d.m]) = (s.data.set i (otherN d life)).map Datum.enc := by simp [List.map_set]
        rw [hset]
        conv => whnf
        first
          | (refine AWL.freeze 5 ?_
             conv => whnf
             refine AWL.run E_ok Tryd.func4 2000 ?_
             conv => whnf)
          | (refine AWL.freeze 4 ?_
             conv => whnf
             refine AWL.run E_ok Tryd.func4 2000 ?_
             conv => whnf)
        with_reducible refine callP_eq (c3) ?_
        conv => whnf
        refine AWL.run E_ok Tryd.func4 2000 ?_
        conv => whnf
        refine caseB_false ?_
        conv => whnf
        refine AWL.run E_ok Tryd.func4 2000 ?_
        conv => whnf
      · conv => whnf
        refine AWL.run E_ok Tryd.func4 2000 ?_
        conv => whnf

theorem damage_g (s : RSet) (apex : Text) (k : Key) (frm upto b life which : Int) (g0 : s.Good) (g1 : apex.length ≤ maxLen) (_ : k.Good) (_ : I64 frm) (_ : I64 upto) (g5 : U64 b) (g6 : U8 life) (g7 : U8 which) : PCalls E 4 [s.enc, .str apex, k.enc, .int .i64 frm, .int .i64 upto, .int .u64 b, .int .u8 life, .int .u8 which] (· = .bool true) :=
  damage_p s apex k frm upto b life which (fun d hd => (g0.2.2.2.2 d hd).1) g1 g5 g6 g7

end Go.Proofs.YtklkmdoakhkikaaDoor.P
