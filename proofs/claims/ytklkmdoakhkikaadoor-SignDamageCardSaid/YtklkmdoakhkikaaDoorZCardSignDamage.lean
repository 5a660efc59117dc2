/- SignDamage: for every input the law returns true, and each argument reads as before; the card ties the table that it reads to the program's text. Conditions: none beyond the row's own. -/
import Derived.Test.YtklkmdoakhkikaaDoorZLaw08b
import Derived.Test.YtklkmdoakhkikaaDoorZM7
import Derived.Test.YtklkmdoakhkikaaDoorCards
import Derived.Test.YtklkmdoakhkikaaDoorTie
namespace Go.Proofs.YtklkmdoakhkikaaDoor.signDamage
open Go Go.Eng Go.ChangeShapes Go.WideShapes Go.ChangeAt Go.RowKit
set_option maxRecDepth 100000

theorem args_p (xs : List DV) (h : ArgsT E Tryd.f4.params.toList xs) : PCalls E 4 xs (· = .bool true) := by
  have h : ArgsT E [24, 9, 26, 3, 3, 27, 5, 5] xs := h
  obtain ⟨x0, xs0, rfl, h0, r0⟩ := argsT_cons h
  obtain ⟨a0, rfl, g0⟩ := P.dec_RSet h0.1 h0.2
  obtain ⟨x1, xs1, rfl, h1, r1⟩ := argsT_cons r0
  obtain ⟨a1, rfl, g1⟩ := P.dec_str h1.1 h1.2
  obtain ⟨x2, xs2, rfl, h2, r2⟩ := argsT_cons r1
  obtain ⟨a2, rfl, g2⟩ := P.dec_Key h2.1 h2.2
  obtain ⟨x3, xs3, rfl, h3, r3⟩ := argsT_cons r2
  obtain ⟨a3, rfl, g3⟩ := P.dec_int h3.1 h3.2
  obtain ⟨x4, xs4, rfl, h4, r4⟩ := argsT_cons r3
  obtain ⟨a4, rfl, g4⟩ := P.dec_int h4.1 h4.2
  obtain ⟨x5, xs5, rfl, h5, r5⟩ := argsT_cons r4
  obtain ⟨a5, rfl, g5⟩ := P.dec_u64 h5.1 h5.2
  obtain ⟨x6, xs6, rfl, h6, r6⟩ := argsT_cons r5
  obtain ⟨a6, rfl, g6⟩ := P.dec_u8 h6.1 h6.2
  obtain ⟨x7, xs7, rfl, h7, r7⟩ := argsT_cons r6
  obtain ⟨a7, rfl, g7⟩ := P.dec_u8 h7.1 h7.2
  obtain rfl : xs7 = [] := r7
  exact P.damage_g a0 a1 a2 a3 a4 a5 a6 a7 g0 g1 g2 g3 g4 g5 g6 g7

theorem contract (H : Type) (enc : TypeId × Value → H) (W : World) (base : Nat) (args : Array Value) (ds gs : List (DataW H)) (before : List MemPlace)
    (hval : ∀ (j : Nat) t v, Tryd.f4.params[j]? = some t → args[j]? = some v → Value.okWide Tryd.prog W .any base t v)
    (hW : DataW.Whole enc Tryd.prog Tryd.f4.params.toList Rows.signDamageSpec.vars false W args.toList ds gs before) (hL : laidMetH Tryd.prog Rows.signDamageRow.laid W) :
    Calls Tryd.prog 4 args W fun e W' => ∃ v, e = .returned v ∧ Rows.signDamageSpec.post enc Tryd.prog Tryd.f4 false true false false W args v W' :=
  engine_law (tb := 4) hval hW (globs_ok (laid := Rows.signDamageRow.laid) hL (List.mem_singleton.2 rfl)) (by kernel_rfl) (readable_of (by kernel_rfl)) rfl rfl (by kernel_rfl)
    (fun ds hd => by
      have hd : ds.length = 8 := hd
      match ds, hd with
      | [_, _, _, _, _, _, _, _], _ => exact ⟨rfl, rfl, rfl⟩) args_p

theorem laid_met (os : Os) : laidMet Tryd.prog Rows.signDamageRow.laid ((laidWorld os).forCall (fun _ _ => 0) ⟨#[], #[.agg #[.string ⟨#[]⟩, .int .i64 0, .int .i64 0, .slice none 0 0], .string ⟨#[]⟩, .agg #[.int .i64 0, .int .i64 0], .int .i64 0, .int .i64 0, .int .u64 0, .int .u8 0, .int .u8 0], []⟩).memory :=
  laidMet_of_run' 8 (by kernel_rfl) (by kernel_rfl)
theorem reads (os : Os) {H : Type} (enc : TypeId × Value → H) : ∃ places, DataW.whole enc Tryd.prog ((laidWorld os).forCall (fun _ _ => 0) ⟨#[], #[.agg #[.string ⟨#[]⟩, .int .i64 0, .int .i64 0, .slice none 0 0], .string ⟨#[]⟩, .agg #[.int .i64 0, .int .i64 0], .int .i64 0, .int .i64 0, .int .u64 0, .int .u8 0, .int .u8 0], []⟩).memory Tryd.f4.params.toList Rows.signDamageSpec.vars false (#[.agg #[.string ⟨#[]⟩, .int .i64 0, .int .i64 0, .slice none 0 0], .string ⟨#[]⟩, .agg #[.int .i64 0, .int .i64 0], .int .i64 0, .int .i64 0, .int .u64 0, .int .u8 0, .int .u8 0] : Array Value).toList 8 = some ([.agg [.lit (.string []), .lit (.int .i64 0), .lit (.int .i64 0), .nil], .lit (.string []), .agg [.lit (.int .i64 0), .lit (.int .i64 0)], .lit (.int .i64 0), .lit (.int .i64 0), .lit (.int .u64 0), .lit (.int .u8 0), .lit (.int .u8 0)], [], places) :=
  ⟨[], by kernel_rfl⟩

theorem lifted (os : Os) (started : os.Started) (H : Type) (enc : TypeId × Value → H) (F : Stop.Interp) :
    ReturnsInHanded {} Tryd.checked os 4 .any ((OpenSpec.ofChange Rows.signDamageSpec).preRow enc Tryd.prog Tryd.f4 Rows.signDamageRow.domain false Rows.signDamageRow.laid) (((OpenSpec.ofChange Rows.signDamageSpec).at F).post enc Tryd.prog Tryd.f4 false true false false) := by
  obtain ⟨places, hx⟩ := reads os enc
  refine returnsInHanded_of_row (C := Tryd.checked) (s := OpenSpec.ofChange Rows.signDamageSpec) Tryd.own started (by kernel_rfl) Tryd.func4
    (witness_row_at (enc := enc) (C := Tryd.checked) false (laidWorld os) #[.agg #[.string ⟨#[]⟩, .int .i64 0, .int .i64 0, .slice none 0 0], .string ⟨#[]⟩, .agg #[.int .i64 0, .int .i64 0], .int .i64 0, .int .i64 0, .int .u64 0, .int .u8 0, .int .u8 0] rfl (by kernel_rfl) (by kernel_rfl) (by kernel_rfl)
      (OpenSpec.preRow_of_cond 8 hx (by kernel_rfl) (fun k hk => by cases hk) (by kernel_rfl) (laid_met os))) ?_
  intro W base args ds gs before hval hW _ _ _ hL _ _
  exact contract H enc W base args ds gs before hval hW hL

theorem said : Rows.SignDamageSaid :=
  OpenClaim.holds_of_cond 4 Tryd.f4 rfl rfl rfl rfl rfl rfl rfl ⟨rfl, rfl, rfl, rfl, rfl⟩ rfl rfl rfl rfl rfl (by kernel_rfl) Tryd.func4 (by kernel_rfl)
    (of_decide_eq_true (by kernel_rfl)) (by unfold Func.isWrapper; first | (rw [if_pos (by decide +kernel)]; kernel_rfl) | (rw [if_neg (by decide +kernel)]; exact ⟨rfl, rfl⟩))
    (fun os started H enc _ F => by rw [OpenClaim.pre_eq_preRow]; exact lifted os started H enc F)

theorem plain (f : FuncId) (fn : Func) (hf : Tryd.pinned.checked.prog.funcNamed "nameplan/nameplanlaw08.SignDamage" = some f) (hfn : Tryd.pinned.checked.prog.funcs[f]? = some fn) :
    false = Tryd.pinned.checked.prog.looks [] ∧ ∀ (j : Nat) t, fn.params[j]? = some t → Tryd.pinned.checked.prog.wantsStandIn t = false := by
  obtain rfl : f = 4 := Option.some.inj ((show Tryd.prog.funcNamed "nameplan/nameplanlaw08.SignDamage" = some 4 by kernel_rfl).symm.trans hf) |>.symm
  obtain rfl : fn = Tryd.f4 := (Option.some.inj (Tryd.func4.symm.trans hfn)).symm
  refine ⟨by kernel_rfl, fun j t ht => ?_⟩
  have hall : (Tryd.f4.params.toList.all fun t => !Tryd.prog.wantsStandIn t) = true := by kernel_rfl
  have := List.all_eq_true.1 hall t (by have := Array.mem_of_getElem? ht; simpa using this)
  have : Tryd.prog.wantsStandIn t = false := by simpa using this
  exact this

theorem card : Rows.SignDamageCardSaid :=
  Claim7.holds_tied_plain_at .later [] _ _ _ _ said (fun _ h => by cases h) (by kernel_rfl) (fun _ h => by cases h) signDamage_row_tie rfl ⟨rfl, rfl⟩ (by kernel_rfl) rfl plain (by kernel_rfl)
end Go.Proofs.YtklkmdoakhkikaaDoor.signDamage
namespace Go.Proofs.YtklkmdoakhkikaaDoor
theorem signDamage_card : Rows.SignDamageCardSaid := signDamage.card
end Go.Proofs.YtklkmdoakhkikaaDoor
