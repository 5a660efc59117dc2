/- How the program's data lie in memory, and what they read as. -/
import Derived.Test.YtklkmdoakhkikaaDoorBase
import Derived.Lib.SmallJoins
namespace Go.Proofs.YtklkmdoakhkikaaDoor
open Go.RowKit

/-- The cells cs lie at an address. -/
def At (w : World) (b off : Nat) (cs : List Value) : Prop := ∀ j u, cs[j]? = some u → w.cell? ⟨b, off + j, none⟩ = some u

theorem At.ext {w w' : World} (hx : Ext w w') {b off : Nat} {cs : List Value} (h : At w b off cs) : At w' b off cs := fun j u hj => hx.keep (h j u hj)

/-- A slice whose elements, of so many cells each, read as a list. -/
def SlOf {α : Type} (R : World → List Value → α → Prop) (size : Nat) (w : World) (v : Value) (l : List α) : Prop :=
  ∃ a cap, v = .slice a l.length cap ∧ l.length ≤ cap ∧ cap ≤ maxLen ∧
    (∀ b, a = some b → b.spot = none) ∧
    ∀ (i : Nat) (x : α), l[i]? = some x → ∃ b off cs, a = some ⟨b, off, none⟩ ∧ cs.length = size ∧ At w b (off + i * size) cs ∧ R w cs x

/-- What reads as something still does in a world that has only grown. -/
def Steady {α : Type} (R : World → List Value → α → Prop) : Prop := ∀ (w w' : World) (cs : List Value) (x : α), Ext w w' → R w cs x → R w' cs x

theorem SlOf.ext {α : Type} {R : World → List Value → α → Prop} (hR : Steady R) {size : Nat} {w w' : World} {v : Value} {l : List α} (hx : Ext w w') (h : SlOf R size w v l) : SlOf R size w' v l := by
  obtain ⟨a, cap, h1, h2, h3, h4, h5⟩ := h
  refine ⟨a, cap, h1, h2, h3, h4, fun i x hi => ?_⟩
  obtain ⟨b, off, cs, g1, g2, g3, g4⟩ := h5 i x hi
  exact ⟨b, off, cs, g1, g2, g3.ext hx, hR _ _ _ _ hx g4⟩

/-- An owned row of which each element reads as something. -/
theorem SlOf.of_owns {α : Type} {R : World → List Value → α → Prop} {size : Nat} {w : World} {base : Nat} {e : TypeId} {v : Value} {n : Nat} {xs : List Value} {l : List α} (h : w.ownsRow base e size v n xs) (hl : l.length = n)
    (hR : ∀ (i : Nat) (x : α), l[i]? = some x → R w ((xs.drop (i * size)).take size) x) : SlOf R size w v l := by
  subst hl
  obtain ⟨hlen, h1 | ⟨g, cap, cur, h1, h2, h3, h4, h5, h6, h7⟩⟩ := h
  · obtain ⟨rfl, h0⟩ := h1
    refine ⟨none, 0, by rw [h0], by omega, by unfold maxLen; omega, (fun b hb => by cases hb), fun i x hi => ?_⟩
    rw [List.eq_nil_of_length_eq_zero h0] at hi; simp at hi
  · have h : w.ownsRow base e size v l.length xs := ⟨hlen, .inr ⟨g, cap, cur, h1, h2, h3, h4, h5, h6, h7⟩⟩
    subst h1
    refine ⟨some ⟨g, 0, none⟩, cap, rfl, h4, h5, (fun b hb => by cases hb; rfl), fun i x hi => ?_⟩
    have hil : i < l.length := (List.getElem?_eq_some_iff.1 hi).1
    have hb : i * size + size ≤ l.length * size := by
      have : (i + 1) * size ≤ l.length * size := Nat.mul_le_mul_right _ hil
      rwa [Nat.add_mul, Nat.one_mul] at this
    refine ⟨g, 0, (xs.drop (i * size)).take size, rfl, by rw [List.length_take, List.length_drop, hlen]; omega, fun j u hj => ?_, hR i x hi⟩
    have hj' : j < size := by
      have := (List.getElem?_eq_some_iff.1 hj).1
      rw [List.length_take] at this; omega
    have hc := h.cellAt (i * size + j) (by omega)
    rw [List.getElem?_take, if_pos hj', List.getElem?_drop] at hj
    rw [hj] at hc
    simpa using hc

/-- A cell that holds a text. -/
def RdStr (_ : World) (cs : List Value) (s : ByteArray) : Prop := cs = [.string s] ∧ s.size ≤ maxLen
theorem RdStr.steady : Steady RdStr := fun _ _ _ _ _ h => h
/-- A cell that holds a number. -/
def RdInt (_ : World) (cs : List Value) (n : Int) : Prop := cs = [.int .i64 n] ∧ -9223372036854775808 ≤ n ∧ n ≤ 9223372036854775807
theorem RdInt.steady : Steady RdInt := fun _ _ _ _ _ h => h
/-- A cell that holds a byte. -/
def RdByte (_ : World) (cs : List Value) (c : UInt8) : Prop := cs = [.int .u8 c.toNat]
theorem RdByte.steady : Steady RdByte := fun _ _ _ _ _ h => h

structure Datum where
  text : ByteArray
  n : Int
  m : Int
structure RSet where
  name : ByteArray
  type : Int
  life : Int
  data : List Datum
structure Key where
  n : Int
  alg : Int
structure Sig where
  zone : ByteArray
  key : Int
  alg : Int
  frm : Int
  til : Int
  sum : Int
structure Signed where
  set : RSet
  sigs : List Sig
structure Zone where
  apex : ByteArray
  sets : List Signed

/-- An int of 64 bits. -/
def I64 (n : Int) : Prop := -9223372036854775808 ≤ n ∧ n ≤ 9223372036854775807
def U64 (n : Int) : Prop := 0 ≤ n ∧ n ≤ 18446744073709551615

def RdDatum (_ : World) (cs : List Value) (d : Datum) : Prop := cs = [.string d.text, .int .i64 d.n, .int .i64 d.m] ∧ d.text.size ≤ maxLen ∧ I64 d.n ∧ I64 d.m
theorem RdDatum.steady : Steady RdDatum := fun _ _ _ _ _ h => h
def RdSet (w : World) (cs : List Value) (s : RSet) : Prop := ∃ vd, cs = [.string s.name, .int .i64 s.type, .int .i64 s.life, vd] ∧ s.name.size ≤ maxLen ∧ I64 s.type ∧ I64 s.life ∧ SlOf RdDatum 3 w vd s.data
theorem RdSet.steady : Steady RdSet := fun _ _ _ _ hx ⟨vd, h1, h2, h3, h4, h5⟩ => ⟨vd, h1, h2, h3, h4, h5.ext RdDatum.steady hx⟩
def RdKey (_ : World) (cs : List Value) (k : Key) : Prop := cs = [.int .i64 k.n, .int .i64 k.alg] ∧ I64 k.n ∧ I64 k.alg
theorem RdKey.steady : Steady RdKey := fun _ _ _ _ _ h => h
def RdSig (_ : World) (cs : List Value) (g : Sig) : Prop := cs = [.string g.zone, .int .i64 g.key, .int .i64 g.alg, .int .i64 g.frm, .int .i64 g.til, .int .u64 g.sum] ∧ g.zone.size ≤ maxLen ∧ I64 g.key ∧ I64 g.alg ∧ I64 g.frm ∧ I64 g.til ∧ U64 g.sum
theorem RdSig.steady : Steady RdSig := fun _ _ _ _ _ h => h
def RdSigned (w : World) (cs : List Value) (s : Signed) : Prop := ∃ c0 vs, cs = c0 ++ [vs] ∧ RdSet w c0 s.set ∧ SlOf RdSig 6 w vs s.sigs
theorem RdSigned.steady : Steady RdSigned := fun _ _ _ _ hx ⟨c0, vs, h1, h2, h3⟩ => ⟨c0, vs, h1, RdSet.steady _ _ _ _ hx h2, h3.ext RdSig.steady hx⟩
def RdZone (w : World) (cs : List Value) (z : Zone) : Prop := ∃ vs, cs = [.string z.apex, vs] ∧ z.apex.size ≤ maxLen ∧ SlOf RdSigned 5 w vs z.sets
theorem RdZone.steady : Steady RdZone := fun _ _ _ _ hx ⟨vs, h1, h2, h3⟩ => ⟨vs, h1, h2, h3.ext RdSigned.steady hx⟩

end Go.Proofs.YtklkmdoakhkikaaDoor
