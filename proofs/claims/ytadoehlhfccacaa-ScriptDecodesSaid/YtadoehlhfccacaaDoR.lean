/- Facts for the regions of Do that draw their order and end in the stores of the two results. -/
import Derived.Test.YtadoehlhfccacaaDoS
namespace Go.Proofs.Ytadoehlhfccacaa
open Go.RowKit

/-- of every world in such a region: the boxes; the results are boxes still -/
structure DrG (w0 : World) (nv uv rv nv' uv' rv' : Value) (c x y z : Int) (p B rb rb' : Nat) (g g' : Gr) (W : World) : Prop where
  bel : Below w0.heap.size w0 W
  b0 : W.heap[w0.heap.size]? = some (.cells #[nv, uv, rv] 45 (0, 0))
  b1 : W.heap[w0.heap.size + 1]? = some (.cells #[.int .i64 c, .int .i64 x, .int .i64 y, .int .i64 z] 35 (0, 0))
  b2 : ∃ z0 z1 z2, W.heap[w0.heap.size + 1 + 1]? = some (.cells #[z0, z1, z2] 45 (0, 0))
  b3 : ∃ z0 z1, W.heap[w0.heap.size + 1 + 1 + 1]? = some (.cells #[z0, z1] 53 (0, 0))
  hp : w0.heap.size + 1 + 1 + 1 + 1 ≤ p
  b6 : W.heap[p]? = some (.cells #[nv', uv', rv'] 45 (0, 0))
  ins : GrM W B rb nv uv rv g
  out : GrM W (w0.heap.size + 1 + 1 + 1 + 1) rb' nv' uv' rv' g'
section
variable {w0 W W' : World} {nv uv rv nv' uv' rv' : Value} {c x y z : Int} {p B rb rb' : Nat} {g g' : Gr}
theorem DrG.of (h : DoSt w0 nv uv rv nv' uv' rv' c x y z p W) (hi : GrM W B rb nv uv rv g) (ho : GrM W (w0.heap.size + 1 + 1 + 1 + 1) rb' nv' uv' rv' g') : DrG w0 nv uv rv nv' uv' rv' c x y z p B rb rb' g g' W :=
  ⟨h.bel, h.b0, h.b1, ⟨_, _, _, h.b2⟩, ⟨_, _, h.b3⟩, h.hp, h.b6, hi, ho⟩
theorem DrG.keep (h : DrG w0 nv uv rv nv' uv' rv' c x y z p B rb rb' g g' W) (hb : Below W.heap.size W W') : DrG w0 nv uv rv nv' uv' rv' c x y z p B rb rb' g g' W' := by
  obtain ⟨z0, z1, z2, h2⟩ := h.b2
  obtain ⟨y0, y1, h3⟩ := h.b3
  exact ⟨h.bel.trans (hb.mono h.bel.size), below_block hb (block_lt h.b0) h.b0, below_block hb (block_lt h.b1) h.b1, ⟨_, _, _, below_block hb (block_lt h2) h2⟩, ⟨_, _, below_block hb (block_lt h3) h3⟩, h.hp, below_block hb (block_lt h.b6) h.b6, h.ins.below hb, h.out.below hb⟩
theorem DrG.cells (h : DrG w0 nv uv rv nv' uv' rv' c x y z p B rb rb' g g' W) : W.cell? ⟨w0.heap.size, 0, none⟩ = some nv ∧ W.cell? ⟨w0.heap.size, 1, none⟩ = some uv ∧ W.cell? ⟨w0.heap.size, 2, none⟩ = some rv ∧
    W.cell? ⟨w0.heap.size + 1, 0, none⟩ = some (.int .i64 c) ∧ W.cell? ⟨w0.heap.size + 1, 1, none⟩ = some (.int .i64 x) ∧ W.cell? ⟨w0.heap.size + 1, 2, none⟩ = some (.int .i64 y) ∧ W.cell? ⟨w0.heap.size + 1, 3, none⟩ = some (.int .i64 z) ∧
    W.cell? ⟨p, 0, none⟩ = some nv' ∧ W.cell? ⟨p, 1, none⟩ = some uv' ∧ W.cell? ⟨p, 2, none⟩ = some rv' :=
  ⟨by rw [cell_block h.b0]; rfl, by rw [cell_block h.b0]; rfl, by rw [cell_block h.b0]; rfl, by rw [cell_block h.b1]; rfl, by rw [cell_block h.b1]; rfl, by rw [cell_block h.b1]; rfl, by rw [cell_block h.b1]; rfl, by rw [cell_block h.b6]; rfl, by rw [cell_block h.b6]; rfl, by rw [cell_block h.b6]; rfl⟩
theorem DrG.sizes (h : DrG w0 nv uv rv nv' uv' rv' c x y z p B rb rb' g g' W) : w0.heap.size < W.heap.size ∧ w0.heap.size + 1 < W.heap.size ∧ w0.heap.size + 1 + 1 < W.heap.size ∧ w0.heap.size + 1 + 1 + 1 < W.heap.size ∧ p < W.heap.size := by
  obtain ⟨_, _, h3⟩ := h.b3
  have := block_lt h3
  exact ⟨by omega, by omega, by omega, this, block_lt h.b6⟩
/-- a store into a result -/
theorem DrG.set2 {o : Nat} {v : Value} (h : DrG w0 nv uv rv nv' uv' rv' c x y z p B rb rb' g g' W) : DrG w0 nv uv rv nv' uv' rv' c x y z p B rb rb' g g' (W.setCell ⟨w0.heap.size + 1 + 1, o, none⟩ v) := by
  obtain ⟨z0, z1, z2, h2⟩ := h.b2
  have hp := h.hp
  have gc := (Gc.refl W).set (o := o) h2 (.inl rfl) v
  refine ⟨bset h.bel (by omega) _, by rw [setCell_other _ (by omega)]; exact h.b0, by rw [setCell_other _ (by omega)]; exact h.b1, ?_, by rw [setCell_other _ (by omega)]; exact h.b3, h.hp, by rw [setCell_other _ (by omega)]; exact h.b6, h.ins.gc gc, h.out.gc gc⟩
  rw [setCell_block h2]
  rcases o with _ | _ | _ | o
  · exact ⟨_, _, _, rfl⟩
  · exact ⟨_, _, _, rfl⟩
  · exact ⟨_, _, _, rfl⟩
  · exact ⟨z0, z1, z2, by simp⟩
theorem DrG.set3 {o : Nat} {v : Value} (h : DrG w0 nv uv rv nv' uv' rv' c x y z p B rb rb' g g' W) : DrG w0 nv uv rv nv' uv' rv' c x y z p B rb rb' g g' (W.setCell ⟨w0.heap.size + 1 + 1 + 1, o, none⟩ v) := by
  obtain ⟨z0, z1, h2⟩ := h.b3
  have hp := h.hp
  have gc := (Gc.refl W).set (o := o) h2 (.inr rfl) v
  refine ⟨bset h.bel (by omega) _, by rw [setCell_other _ (by omega)]; exact h.b0, by rw [setCell_other _ (by omega)]; exact h.b1, by rw [setCell_other _ (by omega)]; exact h.b2, ?_, h.hp, by rw [setCell_other _ (by omega)]; exact h.b6, h.ins.gc gc, h.out.gc gc⟩
  rw [setCell_block h2]
  rcases o with _ | _ | o
  · exact ⟨_, _, rfl⟩
  · exact ⟨_, _, rfl⟩
  · exact ⟨z0, z1, by simp⟩
end

/-- how the world changes: at the stores of the results only these -/
def DrE (b2 s4 s5 : Nat) (i : Nat) (W W' : World) : Prop := W.heap.size ≤ W'.heap.size ∧ ∀ k, k < W.heap.size → (i = s4 → k ≠ b2) → (i = s5 → k ≠ b2 + 1) → W'.heap[k]? = W.heap[k]?
theorem DrE.gw {b2 s4 s5 i : Nat} {W W' : World} (hs : W.heap.size ≤ W'.heap.size) (h : Gw W W') : DrE b2 s4 s5 i W W' := ⟨hs, fun k hk _ _ => h k hk⟩
theorem DrE.refl {b2 s4 s5 i : Nat} {W : World} : DrE b2 s4 s5 i W W := ⟨Nat.le_refl _, fun _ _ _ _ => rfl⟩
theorem DrE.set4 {b2 s4 s5 : Nat} {W W' : World} (hs : W'.heap.size = W.heap.size) (h : ∀ k, k ≠ b2 → W'.heap[k]? = W.heap[k]?) : DrE b2 s4 s5 s4 W W' := ⟨by omega, fun k _ h1 _ => h k (h1 rfl)⟩
theorem DrE.set5 {b2 s4 s5 : Nat} {W W' : World} (hs : W'.heap.size = W.heap.size) (h : ∀ k, k ≠ b2 + 1 → W'.heap[k]? = W.heap[k]?) : DrE b2 s4 s5 s5 W W' := ⟨by omega, fun k _ _ h1 => h k (h1 rfl)⟩
theorem DrE.blk {b2 s4 s5 i k : Nat} {W W' : World} {o : Obj} (h : DrE b2 s4 s5 i W W') (ho : W.heap[k]? = some o) (h4 : i = s4 → k ≠ b2) (h5 : i = s5 → k ≠ b2 + 1) : W'.heap[k]? = some o := by rw [h.2 k (block_lt ho) h4 h5]; exact ho
end Go.Proofs.Ytadoehlhfccacaa
