/- SignAccepted: for every input the law returns true, and each argument reads as before; the card ties the table that it reads to the program's text. Conditions: none beyond the row's own. -/
import Derived.Test.YtklkmdoakhkikaaDoorLaw08a
import Derived.Test.YtklkmdoakhkikaaDoorApiD
import Derived.Test.YtklkmdoakhkikaaDoorLawE
import Derived.Test.YtklkmdoakhkikaaDoorCards
import Derived.Test.YtklkmdoakhkikaaDoorTie
namespace Go.Proofs.YtklkmdoakhkikaaDoor.signAccepted
open Go Go.Eng Go.ChangeShapes Go.WideShapes Go.ChangeAt Go.RowKit
set_option maxRecDepth 100000

theorem args_p (xs : List DV) (h : ArgsT E Tryd.f3.params.toList xs) : PCalls E 3 xs (· = .bool true) := by
  have h : ArgsT E [24, 9, 26, 26, 3, 3, 29] xs := h
  obtain ⟨x0, xs0, rfl, h0, r0⟩ := argsT_cons h
  obtain ⟨a0, rfl, g0⟩ := P.dec_RSet h0.1 h0.2
  obtain ⟨x1, xs1, rfl, h1, r1⟩ := argsT_cons r0
  obtain ⟨a1, rfl, g1⟩ := P.dec_str h1.1 h1.2
  obtain ⟨x2, xs2, rfl, h2, r2⟩ := argsT_cons r1
  obtain ⟨a2, rfl, g2⟩ := P.dec_Key h2.1 h2.2
  obtain ⟨x3, xs3, rfl, h3, r3⟩ := argsT_cons r2
  obtain ⟨a3, rfl, g3⟩ := P.dec_Key h3.1 h3.2
  obtain ⟨x4, xs4, rfl, h4, r4⟩ := argsT_cons r3
  obtain ⟨a4, rfl, g4⟩ := P.dec_int h4.1 h4.2
  obtain ⟨x5, xs5, rfl, h5, r5⟩ := argsT_cons r4
  obtain ⟨a5, rfl, g5⟩ := P.dec_int h5.1 h5.2
  obtain ⟨x6, xs6, rfl, h6, r6⟩ := argsT_cons r5
  obtain ⟨a6, rfl, g6⟩ := P.dec_Sig h6.1 h6.2
  obtain rfl : xs6 = [] := r6
  exact P.accepted_g a0 a1 a2 a3 a4 a5 a6 g0 g1 g2 g3 g4 g5 g6

theorem contract (H : Type) (enc : TypeId × Value → H) (W : World) (base : Nat) (args : Array Value) (ds gs : List (DataW H)) (before : List MemPlace)
    (hval : ∀ (j : Nat) t v, Tryd.f3.params[j]? = some t → args[j]? = some v → Value.okWide Tryd.prog W .any base t v)
    (hW : DataW.Whole enc Tryd.prog Tryd.f3.params.toList Rows.signAcceptedSpec.vars false W args.toList ds gs before) (hL : laidMetH Tryd.prog Rows.signAcceptedRow.laid W) :
    Calls Tryd.prog 3 args W fun e W' => ∃ v, e = .returned v ∧ Rows.signAcceptedSpec.post enc Tryd.prog Tryd.f3 false true false false W args v W' :=
  engine_law (tb := 4) hval hW (globs_ok (laid := Rows.signAcceptedRow.laid) hL (List.mem_singleton.2 rfl)) (by kernel_rfl) (readable_of (by kernel_rfl)) rfl rfl (by kernel_rfl)
    (fun ds hd => by
      have hd : ds.length = 7 := hd
      match ds, hd with
      | [_, _, _, _, _, _, _], _ => exact ⟨rfl, rfl, rfl⟩) args_p

theorem laid_met (os : Os) : laidMet Tryd.prog Rows.signAcceptedRow.laid ((laidWorld os).forCall (fun _ _ => 0) ⟨#[], #[.agg #[.string ⟨#[]⟩, .int .i64 0, .int .i64 0, .slice none 0 0], .string ⟨#[]⟩, .agg #[.int .i64 0, .int .i64 0], .agg #[.int .i64 0, .int .i64 0], .int .i64 0, .int .i64 0, .agg #[.string ⟨#[]⟩, .int .i64 0, .int .i64 0, .int .i64 0, .int .i64 0, .int .u64 0]], []⟩).memory :=
  laidMet_of_run' 8 (by kernel_rfl) (by kernel_rfl)
theorem reads (os : Os) {H : Type} (enc : TypeId × Value → H) : ∃ places, DataW.whole enc Tryd.prog ((laidWorld os).forCall (fun _ _ => 0) ⟨#[], #[.agg #[.string ⟨#[]⟩, .int .i64 0, .int .i64 0, .slice none 0 0], .string ⟨#[]⟩, .agg #[.int .i64 0, .int .i64 0], .agg #[.int .i64 0, .int .i64 0], .int .i64 0, .int .i64 0, .agg #[.string ⟨#[]⟩, .int .i64 0, .int .i64 0, .int .i64 0, .int .i64 0, .int .u64 0]], []⟩).memory Tryd.f3.params.toList Rows.signAcceptedSpec.vars false (#[.agg #[.string ⟨#[]⟩, .int .i64 0, .int .i64 0, .slice none 0 0], .string ⟨#[]⟩, .agg #[.int .i64 0, .int .i64 0], .agg #[.int .i64 0, .int .i64 0], .int .i64 0, .int .i64 0, .agg #[.string ⟨#[]⟩, .int .i64 0, .int .i64 0, .int .i64 0, .int .i64 0, .int .u64 0]] : Array Value).toList 8 = some ([.agg [.lit (.string []), .lit (.int .i64 0), .lit (.int .i64 0), .nil], .lit (.string []), .agg [.lit (.int .i64 0), .lit (.int .i64 0)], .agg [.lit (.int .i64 0), .lit (.int .i64 0)], .lit (.int .i64 0), .lit (.int .i64 0), .agg [.lit (.string []), .lit (.int .i64 0), .lit (.int .i64 0), .lit (.int .i64 0), .lit (.int .i64 0), .lit (.int .u64 0)]], [], places) :=
  ⟨[], by kernel_rfl⟩

theorem lifted (os : Os) (started : os.Started) (H : Type) (enc : TypeId × Value → H) (F : Stop.Interp) :
    ReturnsInHanded {} Tryd.checked os 3 .any ((OpenSpec.ofChange Rows.signAcceptedSpec).preRow enc Tryd.prog Tryd.f3 Rows.signAcceptedRow.domain false Rows.signAcceptedRow.laid) (((OpenSpec.ofChange Rows.signAcceptedSpec).at F).post enc Tryd.prog Tryd.f3 false true false false) := by
  obtain ⟨places, hx⟩ := reads os enc
  refine returnsInHanded_of_row (C := Tryd.checked) (s := OpenSpec.ofChange Rows.signAcceptedSpec) Tryd.own started (by kernel_rfl) Tryd.func3
    (witness_row_at (enc := enc) (C := Tryd.checked) false (laidWorld os) #[.agg #[.string ⟨#[]⟩, .int .i64 0, .int .i64 0, .slice none 0 0], .string ⟨#[]⟩, .agg #[.int .i64 0, .int .i64 0], .agg #[.int .i64 0, .int .i64 0], .int .i64 0, .int .i64 0, .agg #[.string ⟨#[]⟩, .int .i64 0, .int .i64 0, .int .i64 0, .int .i64 0, .int .u64 0]] rfl (by kernel_rfl) (by kernel_rfl) (by kernel_rfl)
      (OpenSpec.preRow_of_cond 8 hx (by kernel_rfl) (fun k hk => by cases hk) (by kernel_rfl) (laid_met os))) ?_
  intro W base args ds gs before hval hW _ _ _ hL _ _
  exact contract H enc W base args ds gs before hval hW hL

theorem said : Rows.SignAcceptedSaid :=
  OpenClaim.holds_of_cond 3 Tryd.f3 rfl rfl rfl rfl rfl rfl rfl ⟨rfl, rfl, rfl, rfl, rfl⟩ rfl rfl rfl rfl rfl (by kernel_rfl) Tryd.func3 (by kernel_rfl)
    (of_decide_eq_true (by kernel_rfl)) (by unfold Func.isWrapper; first | (rw [if_pos (by decide +kernel)]; kernel_rfl) | (rw [if_neg (by decide +kernel)]; exact ⟨rfl, rfl⟩))
    (fun os started H enc _ F => by rw [OpenClaim.pre_eq_preRow]; exact lifted os started H enc F)

theorem plain (f : FuncId) (fn : Func) (hf : Tryd.pinned.checked.prog.funcNamed "nameplan/nameplanlaw08.SignAccepted" = some f) (hfn : Tryd.pinned.checked.prog.funcs[f]? = some fn) :
    false = Tryd.pinned.checked.prog.looks [] ∧ ∀ (j : Nat) t, fn.params[j]? = some t → Tryd.pinned.checked.prog.wantsStandIn t = false := by
  obtain rfl : f = 3 := Option.some.inj ((show Tryd.prog.funcNamed "nameplan/nameplanlaw08.SignAccepted" = some 3 by kernel_rfl).symm.trans hf) |>.symm
  obtain rfl : fn = Tryd.f3 := (Option.some.inj (Tryd.func3.symm.trans hfn)).symm
  refine ⟨by kernel_rfl, fun j t ht => ?_⟩
  have hall : (Tryd.f3.params.toList.all fun t => !Tryd.prog.wantsStandIn t) = true := by kernel_rfl
  have := List.all_eq_true.1 hall t (by have := Array.mem_of_getElem? ht; simpa using this)
  have : Tryd.prog.wantsStandIn t = false := by simpa using this
  exact this

theorem card : Rows.SignAcceptedCardSaid :=
  Claim7.holds_tied_plain_at .later [] _ _ _ _ said (fun _ h => by cases h) (by kernel_rfl) (fun _ h => by cases h) signAccepted_row_tie rfl ⟨rfl, rfl⟩ (by kernel_rfl) rfl plain (by kernel_rfl)
end Go.Proofs.YtklkmdoakhkikaaDoor.signAccepted
namespace Go.Proofs.YtklkmdoakhkikaaDoor
theorem signAccepted_card : Rows.SignAcceptedCardSaid := signAccepted.card
end Go.Proofs.YtklkmdoakhkikaaDoor
