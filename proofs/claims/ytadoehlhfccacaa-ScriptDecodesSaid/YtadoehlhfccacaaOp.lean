/- One drawn operation, for any graph that has at most 250 handles. -/
import Derived.Test.YtadoehlhfccacaaOpS
import Derived.Test.YtadoehlhfccacaaOpB
namespace Go.Proofs.Ytadoehlhfccacaa
open Go.RowKit

theorem op_any (B g : Nat) (w : World) (hd : Deck B w g) (nv rv : Option Addr) (nl nc rl rc : Nat) (uv : Value) (bs : List Bool) (hu : Rd boolE w uv bs) (hbl : bs.length ≤ 250) :
    Calls Try.prog 17 #[.pointer (some ⟨g, 0, none⟩), .agg #[.slice nv nl nc, uv, .slice rv rl rc]] w fun e w' => ∃ o : Op4, e = .returned (.agg #[.int .i64 o.c, .int .i64 o.x, .int .i64 o.y, .int .i64 o.z]) ∧ OpOk' o ∧ Deck B w' g ∧ w.grownBy w' (some g) := by
  cases hx : decide (20 < (trues bs).length) with
  | false => exact op_small B g w hd nv rv nl nc rl rc uv bs hu hbl hx
  | true => exact op_big B g w hd nv rv nl nc rl rc uv bs hu hbl hx

theorem op_none (B g : Nat) (w : World) (hd : Deck B w g) :
    Calls Try.prog 17 #[.pointer (some ⟨g, 0, none⟩), .agg #[.slice none 0 0, .slice none 0 0, .slice none 0 0]] w fun e w' => ∃ o : Op4, e = .returned (.agg #[.int .i64 o.c, .int .i64 o.x, .int .i64 o.y, .int .i64 o.z]) ∧ OpOk' o ∧ Deck B w' g ∧ w.grownBy w' (some g) :=
  op_any B g w hd none none 0 0 0 0 (.slice none 0 0) [] (Rd.nil _ _) (by simp)
end Go.Proofs.Ytadoehlhfccacaa
