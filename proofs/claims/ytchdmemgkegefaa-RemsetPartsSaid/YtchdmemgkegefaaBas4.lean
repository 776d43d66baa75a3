/- Blocks that stay, beside Bas3. No condition. -/
import Derived.Test.YtchdmemgkegefaaBas3
import Derived.Test.YtchdmemgkegefaaDeck
namespace Go.Proofs.Ytchdmemgkegefaa
open Go.RowKit

theorem grown_block {w w' : World} {row : Option Nat} {b : Nat} {o : Obj} (hg : w.grownBy w' row) (h : w.heap[b]? = some o) (hne : some b ≠ row) : w'.heap[b]? = some o := by
  rw [hg.block b (Array.getElem?_eq_some_iff.1 h).1 hne]; exact h
theorem alloc_block {w : World} {b : Nat} {o o' : Obj} (h : w.heap[b]? = some o) : (w.alloc o').heap[b]? = some o := by
  rw [Below.heap_alloc _ _ _ (Array.getElem?_eq_some_iff.1 h).1]; exact h
theorem below_block {B : Nat} {w w' : World} {b : Nat} {o : Obj} (hb : Below B w w') (hB : b < B) (h : w.heap[b]? = some o) : w'.heap[b]? = some o := by
  rw [hb.block b hB]; exact h
/-- blocks of different elements are different blocks -/
theorem Own.ne_block {α : Type} {E : El α} {w : World} {B T T' b : Nat} {v : Value} {xs : List α} {cs : Array Value} {fr : Nat × Nat} (h : Own E w B T v xs) (hb : w.heap[b]? = some (.cells cs T' fr)) (hT : T ≠ T') : some b ≠ v.ownBlock := by
  intro e
  obtain ⟨C, ⟨_, hrow⟩, _⟩ := h
  rcases hrow with ⟨rfl, _⟩ | ⟨g, cap, cur, rfl, _, hh, _⟩
  · simp [Value.ownBlock] at e
  · simp only [Value.ownBlock, Option.some.injEq] at e
    subst e
    rw [hb] at hh
    simp only [Option.some.injEq, Obj.cells.injEq] at hh
    exact hT hh.2.1.symm
theorem block_lt {w : World} {b : Nat} {o : Obj} (h : w.heap[b]? = some o) : b < w.heap.size := (Array.getElem?_eq_some_iff.1 h).1
end Go.Proofs.Ytchdmemgkegefaa
