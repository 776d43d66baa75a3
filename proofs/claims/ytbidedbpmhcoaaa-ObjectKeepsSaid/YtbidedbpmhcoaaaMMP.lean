/- The contracts of four object laws. No condition. -/
import Derived.Test.YtbidedbpmhcoaaaMM5
namespace Go.Proofs.Ytbidedbpmhcoaaa
open Go.RowKit
theorem objectShapes_dc (s : Sp) (l : List Int) (a what at' by' : Int) (hs : SpW s) (hl : (∀ x ∈ l, I64 x) ∧ l.length ≤ 9223372036854775807) (h1 : I64 a) (h4 : I64 what) (h5 : I64 at') (h6 : I64 by') :
    DCall Try.prog 4 [.agg (spC s), .sl (l.map iC), DI a, DI what, DI at', DI by'] [] (DB true) [] := F_law08_ObjectShapes_ok (shapes_true hs hl.1 hl.2 h1 h4 h5 h6)
theorem objectFields_dc (s : Sp) (l : List Int) (a i w what at' by' : Int) (hs : SpW s) (hl : (∀ x ∈ l, I64 x) ∧ l.length ≤ 9223372036854775807) (h1 : I64 a) (h2 : I64 i) (hw : U64 w) (h4 : I64 what) (h5 : I64 at') (h6 : I64 by') :
    DCall Try.prog 5 [.agg (spC s), .sl (l.map iC), DI a, DI i, DU w, DI what, DI at', DI by'] [] (DB true) [] := F_law08_ObjectFields_ok (fields_true hs hl.1 hl.2 h1 h2 h4 h5 h6)
theorem objectKeeps_dc (l : List Int) (a i w : Int) (ref : Bool) (hl : (∀ x ∈ l, I64 x) ∧ l.length ≤ 9223372036854775807) (h1 : I64 a) (h2 : I64 i) (hw : U64 w) :
    DCall Try.prog 7 [.sl (l.map iC), DI a, DI i, DU w, DB ref] [] (DB true) [] := F_law08_ObjectKeeps_ok (keeps_true hl.1 hl.2 h1 h2 hw)
end Go.Proofs.Ytbidedbpmhcoaaa
