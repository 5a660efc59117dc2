/- From a law's contract by the engine to what its row asks of a call. No conditions. -/
import Derived.Test.YtklkmdoakhkikaaDoorEngG
import Derived.Test.YtklkmdoakhkikaaDoorLaw
import Derived.Deep.DeepHandedRow
import Derived.Lib.LaidTab
set_option maxRecDepth 100000
namespace Go.Proofs.YtklkmdoakhkikaaDoor
open Go Go.Eng Go.ChangeShapes Go.WideShapes Go.ChangeAt Go.RowKit

theorem trodAll_len {H : Type} {enc : TypeId × Value → H} {P : Program} {W : World} : ∀ {ts : List TypeId} {vs : List Value} {ds : List (DataW H)} {ps : List MemPlace} {held : Bool}, DataW.TrodAll enc P W 0 (fun _ => true) held ts vs ds ps → ds.length = ts.length
  | [], _, _, _, _, h => by obtain ⟨rfl, rfl, rfl⟩ := trodAll_nil h; rfl
  | t :: ts, _, _, _, _, h => by
    obtain ⟨v, vs1, d, ds1, a, b, rfl, rfl, rfl, h1, h2⟩ := trodAll_cons h
    simp [trodAll_len h2]

theorem engine_law {H : Type} {enc : TypeId × Value → H} {fid : FuncId} {fn : Func} {s : ChangeSpec} {W : World} {base : Nat} {args : Array Value} {ds gs : List (DataW H)} {before : List MemPlace} {tb : TypeId}
    (hval : ∀ (j : Nat) t v, fn.params[j]? = some t → args[j]? = some v → Value.okWide Tryd.prog W .any base t v)
    (hW : DataW.Whole enc Tryd.prog fn.params.toList s.vars false W args.toList ds gs before) (hG : GlobOK E.G (fun _ => False) W)
    (hok : fn.params.toList.all (okT E 20) = true) (hr : ∀ t ∈ fn.params.toList, Tryd.prog.readableRec t = true ∧ t < Tryd.prog.types.size) (hv : s.vars = []) (ht : fn.resultTypes = #[tb]) (hb : Tryd.prog.underlying tb = some .bool)
    (hs : ∀ ds : List (DataW H), ds.length = fn.params.toList.length → (s.fn H (ds ++ [])).results = [.lit (.bool true)] ∧ (s.fn H (ds ++ [])).args = ds ∧ (s.fn H (ds ++ [])).vars = [])
    (hc : ∀ xs, ArgsT E fn.params.toList xs → PCalls E fid xs (· = .bool true)) :
    Calls Tryd.prog fid args W fun e W' => ∃ v, e = .returned v ∧ s.post enc Tryd.prog fn false true false false W args v W' := by
  have hW' := hW
  obtain ⟨p, q, hA, hV, rfl, hfz, hnd⟩ := hW
  have hval' : ∀ (j : Nat) t v, fn.params.toList[j]? = some t → args.toList[j]? = some v → Value.okWide E.P W .any base t v := fun j t v ht hv => hval j t v (by rwa [Array.getElem?_toList] at ht) (by rwa [Array.getElem?_toList] at hv)
  obtain ⟨xs, h1, h2⟩ := args_has E_ok hok hval' hA
  obtain ⟨s1, s2, s3⟩ := hs ds (trodAll_len hA)
  have hcall := hc xs h2
  unfold PCalls at hcall
  have := hcall.2 (fun _ => False) W args.toList (fun _ h => h.elim) hG h1
  rw [Array.toArray_toList] at this
  refine this.mono fun e W' hpost => ?_
  obtain ⟨v, r, rfl, rfl, hvd, hx⟩ := hpost
  cases hvd
  exact ⟨_, rfl, law_post Tryd.laidOut hr hv ht hb s1 s2 s3 hW' hx⟩

theorem argsT_cons {E : Env} {t : Nat} {ts : List Nat} {xs : List DV} (h : ArgsT E (t :: ts) xs) : ∃ x r, xs = x :: r ∧ ArgT E t x ∧ ArgsT E ts r := by
  cases xs with
  | nil => exact h.elim
  | cons x r => exact ⟨x, r, rfl, h⟩
theorem readable_of {P : Program} {l : List TypeId} (h : (l.all fun t => P.readableRec t && Nat.blt t P.types.size) = true) : ∀ t ∈ l, P.readableRec t = true ∧ t < P.types.size := fun t ht => by
  have := List.all_eq_true.1 h t ht
  rw [Bool.and_eq_true] at this
  exact ⟨this.1, blt_lt this.2⟩

/-- The package-level tables are as they are laid. -/
theorem globs_ok {laid : List (String × DataW Unit)} {W : World} (hl : laidMet Tryd.prog laid W) (hm : ("nameplan/record.rules", Rows.laid_nameplan_record_rules) ∈ laid) : GlobOK E.G (fun _ => False) W := by
  intro g e hg
  have : (g, e) = (0, glob_nameplan_record_rules) := by
    have : (g, e) ∈ globs := hg
    simpa [globs] using this
  cases this
  exact glob_of E_ok (n := 8) (m := 8) (t := 98) (vs := (litC 8 (Rows.laid_nameplan_record_rules (H := Unit))).getD []) hl hm (by kernel_rfl) (by kernel_rfl) (by kernel_rfl) (by kernel_rfl) (by kernel_rfl) (by simp [glob_nameplan_record_rules, DV.cells]) (fun h => h)

def litV : DV → Value
  | .int k n => .int k n
  | .bool b => .bool b
  | .str l => .string ⟨l.toArray⟩
  | _ => undef
def layIn (d : DV) (o : Obj) : Obj := match o with
  | .cells _ t frozen => .cells (d.cells.map litV).toArray t frozen
  | o => o
/-- A world for the witness: the settled one, with the tables as they are laid. -/
noncomputable def laidWorld (os : Os) : World :=
  { World.holding Tryd.prog os ⟨#[], #[], []⟩ with heap := globs.foldl (fun h p => h.modify p.1 (layIn p.2)) (World.holding Tryd.prog os ⟨#[], #[], []⟩).heap }

end Go.Proofs.YtklkmdoakhkikaaDoor
