/- Keys sorted by their numbers. Conditions: a length that Go allows. -/
import Derived.Test.YtebielkakdhelaaGreatDoorZSrtP
import Derived.Test.YtebielkakdhelaaGreatDoorZShelf
import Derived.Test.YtebielkakdhelaaGreatDoorZM6
set_option linter.unusedVariables false
set_option linter.unusedSimpArgs false
namespace Go.Proofs.YtebielkakdhelaaGreatDoor.P
open Go Go.Eng Go.Sort Go.RowKit

set_option maxHeartbeats 1000000 in
theorem keyClosure (x y : Int × Int) (W : World) : Calls Tryz.prog 55 #[.agg #[.int .i64 x.1, .int .i64 x.2], .agg #[.int .i64 y.1, .int .i64 y.2]] W fun e w' => e = .returned (.int .i64 (Lib.compareInt x.1 y.1)) ∧ ∃ q os', w' = grow (W.drewN q) os' := by
  have hcon := fun W' => AnyG.cmp_Compare_int Tryz.cmpInt x.1 y.1 W'
  change ∀ W', Calls Tryz.prog 56 _ _ _ at hcon
  generalize Lib.compareInt x.1 y.1 = r at hcon ⊢
  go_enter Tryz.func55, Tryz.ntmps55
  go_wp2_with (go_at_call 56; refine (hcon _).mono ?_; rintro e w' ⟨rfl, rfl⟩)
  go_ret
  exact ⟨rfl, 0, _, by rw [alloc_eq_grow, alloc_eq_grow, grow_grow]; rfl⟩

theorem sortsKey : SortsP Tryz.prog 54 55 (·.1) := fun blk cap d w hH hblk hsz => by
  have eg : ∀ args w, (callFunc 55 args).run Tryz.prog w = .ok (.enter 55 args) w := enters_of Tryz.func55 (by kernel_rfl) rfl
  have hcon := AnyQ.slices_SortFunc Tryz.sortKey 2 Tryz.isAgg46 Tryz.sizeOf46 encP (fun _ => rfl) (fun x v hv => by simp [encP] at hv; rcases hv with rfl | rfl <;> rfl) (fun x y => Lib.compareInt x.1 y.1) (swoP (·.1)) 55 #[] blk 0 cap d w eg (fun _ _ _ _ x y => keyClosure x y _) hH hblk hsz
  exact hcon

theorem sortKey_a (l : List Key) (hl : l ≠ []) (hlen : l.length < 4611686018427387904) :
    ACalls E 54 [.arr 0 (46, 2) (l.map Key.enc)] [.own 0 0, .fn (.func 55) [] []] (fun a b => a = .tup [] ∧ ∃ l' : List Key, l'.Perm l ∧ l'.Pairwise (fun x y => x.n ≤ y.n) ∧ b = [.arr 0 (46, 2) (l'.map Key.enc)]) := by
  have h := sort_a (E := E) (t := 46) sortsKey ⟨_, Tryz.func54, rfl, by decide⟩ (l.map fun k => (k.n, k.alg)) (by simpa using hl) (by simpa using hlen)
  have e1 : ∀ m : List Key, (m.map fun k => (k.n, k.alg)).map dvP = m.map Key.enc := fun m => by rw [List.map_map]; rfl
  rw [e1] at h
  refine h.mono fun a b ⟨ha, l', hp, hs, hb⟩ => ⟨ha, l'.map fun p => ⟨p.1, p.2⟩, ?_, ?_, ?_⟩
  · have := hp.map fun p : Int × Int => (⟨p.1, p.2⟩ : Key)
    rw [List.map_map] at this
    have e2 : ((fun p : Int × Int => (⟨p.1, p.2⟩ : Key)) ∘ fun k : Key => (k.n, k.alg)) = id := rfl
    rw [e2, List.map_id] at this
    exact this
  · exact List.pairwise_map.2 hs
  · rw [hb, List.map_map]
    rfl

end Go.Proofs.YtebielkakdhelaaGreatDoor.P
