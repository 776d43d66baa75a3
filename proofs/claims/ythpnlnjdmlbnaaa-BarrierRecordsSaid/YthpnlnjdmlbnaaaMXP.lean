/- The contract of BarrierRecords. No condition. -/
import Derived.Test.YthpnlnjdmlbnaaaMX
namespace Go.Proofs.Ythpnlnjdmlbnaaa
open Go.RowKit
theorem barrierRecords_dc (s : Sp) (r : List RSet) (l : List Int) (slot w what at' by' : Int) (hs : SpW s) (hr : RawSets r) (hl : (∀ x ∈ l, I64 x) ∧ l.length ≤ 9223372036854775807) (h1 : I64 slot) (h2 : U64 w) (h3 : I64 what) (h4 : I64 at') (h5 : I64 by') :
    DCall Try.prog 3 [.agg (spC s), .sl (r.map RSet.c), .sl (l.map iC), DI slot, DU w, DI what, DI at', DI by'] [] (DB true) [] := F_law19_BarrierRecords_ok (records_true hs hr hl.1 hl.2 h1 h2 h3 h4 h5)
end Go.Proofs.Ythpnlnjdmlbnaaa
