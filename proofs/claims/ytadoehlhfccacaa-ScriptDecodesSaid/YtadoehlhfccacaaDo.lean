/- The reference model's Do, for every operation whose operands are from 0 to 255: it returns a valid graph of one node more at most. -/
import Derived.Test.YtadoehlhfccacaaDo0
import Derived.Test.YtadoehlhfccacaaDo1
import Derived.Test.YtadoehlhfccacaaDo2
import Derived.Test.YtadoehlhfccacaaDo3
import Derived.Test.YtadoehlhfccacaaDo4
import Derived.Test.YtadoehlhfccacaaDo5
import Derived.Test.YtadoehlhfccacaaDo6
import Derived.Test.YtadoehlhfccacaaDo7
import Derived.Test.YtadoehlhfccacaaDo8
import Derived.Test.YtadoehlhfccacaaDo9
import Derived.Test.YtadoehlhfccacaaDo10
import Derived.Test.YtadoehlhfccacaaEncP
namespace Go.Proofs.Ytadoehlhfccacaa
open Go.RowKit

theorem do_any (w : World) (B rb : Nat) (hB : B ≤ w.heap.size) (nv uv rv : Value) (g : Gr) (hg : GrM w B rb nv uv rv g) (n : Nat) (hok : GrOk n g) (hn : n ≤ 900) (o : Op4) (ho : OpOk' o) :
    Calls Try.prog 22 #[.agg #[nv, uv, rv], .agg #[.int .i64 o.c, .int .i64 o.x, .int .i64 o.y, .int .i64 o.z]] w (DoPost w B n) := by
  obtain ⟨c, x, y, z⟩ := o
  obtain ⟨⟨hc0, hc1⟩, hx, hy, hz, _⟩ := ho
  simp only at hc0 hc1 hx hy hz ⊢
  have : c = 0 ∨ c = 1 ∨ c = 2 ∨ c = 3 ∨ c = 4 ∨ c = 5 ∨ c = 6 ∨ c = 7 ∨ c = 8 ∨ c = 9 ∨ c = 10 := by omega
  rcases this with rfl | rfl | rfl | rfl | rfl | rfl | rfl | rfl | rfl | rfl | rfl
  · exact do_c0 w B rb hB nv uv rv g hg n hok hn x y z hx hy hz
  · exact do_c1 w B rb hB nv uv rv g hg n hok hn x y z hx hy hz
  · exact do_c2 w B rb hB nv uv rv g hg n hok hn x y z hx hy hz
  · exact do_c3 w B rb hB nv uv rv g hg n hok hn x y z hx hy hz
  · exact do_c4 w B rb hB nv uv rv g hg n hok hn x y z hx hy hz
  · exact do_c5 w B rb hB nv uv rv g hg n hok hn x y z hx hy hz
  · exact do_c6 w B rb hB nv uv rv g hg n hok hn x y z hx hy hz
  · exact do_c7 w B rb hB nv uv rv g hg n hok hn x y z hx hy hz
  · exact do_c8 w B rb hB nv uv rv g hg n hok hn x y z hx hy hz
  · exact do_c9 w B rb hB nv uv rv g hg n hok hn x y z hx hy hz
  · exact do_c10 w B rb hB nv uv rv g hg n hok hn x y z hx hy hz
end Go.Proofs.Ytadoehlhfccacaa
