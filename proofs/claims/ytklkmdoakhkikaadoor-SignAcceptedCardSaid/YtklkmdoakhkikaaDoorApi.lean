/- The data of package api as plain structures, and how they stand as pure values. No conditions. -/
import Derived.Test.YtklkmdoakhkikaaDoorEnv
namespace Go.Proofs.YtklkmdoakhkikaaDoor.P
open Go Go.Eng

abbrev Text := List UInt8
structure Datum where
  text : Text
  n : Int
  m : Int
  deriving DecidableEq
structure RSet where
  name : Text
  type : Int
  life : Int
  data : List Datum
  deriving DecidableEq
structure Key where
  n : Int
  alg : Int
  deriving DecidableEq
structure Sig where
  zone : Text
  key : Int
  alg : Int
  frm : Int
  upto : Int
  sum : Int
  deriving DecidableEq
structure Signed where
  set : RSet
  sigs : List Sig
  deriving DecidableEq
structure Zone where
  apex : Text
  sets : List Signed
  deriving DecidableEq

@[reducible] def Datum.enc (d : Datum) : DV := .agg [.str d.text, .int .i64 d.n, .int .i64 d.m]
@[reducible] def encData (l : List Datum) : DV := .sl (l.map Datum.enc)
@[reducible] def RSet.enc (s : RSet) : DV := .agg [.str s.name, .int .i64 s.type, .int .i64 s.life, encData s.data]
@[reducible] def Key.enc (k : Key) : DV := .agg [.int .i64 k.n, .int .i64 k.alg]
@[reducible] def Sig.enc (g : Sig) : DV := .agg [.str g.zone, .int .i64 g.key, .int .i64 g.alg, .int .i64 g.frm, .int .i64 g.upto, .int .u64 g.sum]
@[reducible] def encSigs (l : List Sig) : DV := .sl (l.map Sig.enc)
@[reducible] def Signed.enc (x : Signed) : DV := .agg [.str x.set.name, .int .i64 x.set.type, .int .i64 x.set.life, encData x.set.data, encSigs x.sigs]
@[reducible] def encSets (l : List Signed) : DV := .sl (l.map Signed.enc)
@[reducible] def Zone.enc (z : Zone) : DV := .agg [.str z.apex, encSets z.sets]

/-- A number of Go's int. -/
def I64 (n : Int) : Prop := -9223372036854775808 ≤ n ∧ n ≤ 9223372036854775807

theorem wrap64 {n : Int} (h1 : -9223372036854775808 ≤ n) (h2 : n ≤ 9223372036854775807) : IntKind.i64.wrap n = n := by
  rw [IntWalk.i64_in n ⟨h1, h2⟩]

end Go.Proofs.YtklkmdoakhkikaaDoor.P
