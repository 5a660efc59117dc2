/- Signing a zone: what it returns, and plain lemmas. Conditions: none. -/
import Derived.Test.YtebielkakdhelaaGreatDoorZP27
set_option linter.unusedVariables false
set_option linter.unusedSimpArgs false
namespace Go.Proofs.YtebielkakdhelaaGreatDoor.P
open Go Go.Eng
set_option maxRecDepth 100000
set_option maxHeartbeats 4000000

/-- All numbers so far differ. -/
theorem nodup_next {keys : List Key} {i : Nat} {x : Key} (h : ((keys.take i).map (·.n)).Nodup) (hx : keys[i]? = some x) (hn : x.n ∉ (keys.take i).map (·.n)) : ((keys.take (i + 1)).map (·.n)).Nodup := by
  rw [take_next hx, List.map_append, List.nodup_append]
  refine ⟨h, by simp, fun a ha b hb e => ?_⟩
  simp at hb
  subst hb; subst e
  exact hn ha
theorem twice_of {keys : List Key} {i k : Nat} {x y : Key} (hx : keys[i]? = some x) (hy : keys[k]? = some y) (hki : k < i) (h : x.n = y.n) : twiceB keys = true := by
  have hn : ¬ (keys.map (·.n)).Nodup := fun hn => by
    have h1 : (keys.map (·.n))[i]? = some x.n := by simp [hx]
    have h2 : (keys.map (·.n))[k]? = some x.n := by simp [hy, h]
    obtain ⟨p1, e1⟩ := List.getElem?_eq_some_iff.1 h1
    obtain ⟨p2, e2⟩ := List.getElem?_eq_some_iff.1 h2
    exact List.pairwise_iff_getElem.1 (List.nodup_iff_pairwise_ne.1 hn) k i p2 p1 hki (e2.trans e1.symm)
  simp [twiceB, hn]

def allD (z : Zone) (keys : List Key) (frm upto : Int) : DV := if allOK z keys frm upto && !twiceB keys then .tup [(signZ z (ordK keys) frm upto).enc, .int .i64 0] else .tup [.agg [.str [], .nilsl], .int .i64 (if allOK z keys frm upto then 5 else 1)]
theorem allD_norm (z : Zone) (keys : List Key) (frm upto : Int) : norm (allD z keys frm upto) = .tup [(allZ z keys frm upto).enc, .int .i64 (allE z keys frm upto)] := by
  unfold allD allZ allE
  cases h1 : allOK z keys frm upto <;> cases h2 : twiceB keys <;> rfl

end Go.Proofs.YtebielkakdhelaaGreatDoor.P
