/- The contract of BarrierWithin. No condition. -/
import Derived.Test.YthpnlnjdmlbnaaaMW14
namespace Go.Proofs.Ythpnlnjdmlbnaaa
open Go.RowKit
theorem barrierWithin_dc (l : List Int) (a b i j : Int) (hl : (∀ x ∈ l, I64 x) ∧ l.length ≤ 9223372036854775807) (h1 : I64 a) (h2 : I64 b) (h3 : I64 i) (h4 : I64 j) :
    DCall Try.prog 4 [.sl (l.map iC), DI a, DI b, DI i, DI j] [] (DB true) [] := F_law19_BarrierWithin_ok (within_true hl.1 hl.2 h1 h2 h3 h4)
end Go.Proofs.Ythpnlnjdmlbnaaa
