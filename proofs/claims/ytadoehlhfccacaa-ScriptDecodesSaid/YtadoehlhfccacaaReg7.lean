/- A new node for a graph's copy. -/
import Derived.Test.YtadoehlhfccacaaReg4
namespace Go.Proofs.Ytadoehlhfccacaa
open Go.RowKit

theorem run_make_els2 {P : Program} {α : Type} {f : α → List Value} {hf : ∀ x, (f x).length = 1} {st T bytes : Nat} {z : Value} (S : SlT P st T 1 bytes z) (x0 : α) (hz : f x0 = z.cells.toList) (B : Nat) (W : World) (kl kc : IntKind) (n : Nat)
    (hb : bytes * n ≤ 281474976710656) (hn : n ≤ maxLen) (hB : B ≤ W.heap.size) :
    ∃ W', (Instr.makeSlice st (.int kl (n : Int)) (.int kc (n : Int))).run P W = .ok (.slice (some ⟨W.heap.size, 0, none⟩) n n) W' ∧ Own (flat 1 f hf) W' B T (.slice (some ⟨W.heap.size, 0, none⟩) n n) (List.replicate n x0) ∧ W.grownBy W' none ∧ W'.heap.size = W.heap.size + 1 := by
  obtain ⟨W', h1, h2, h3⟩ := run_make_els S x0 hz B W kl kc n hb hn hB (hf := hf)
  obtain ⟨i0, hi, hz0, hz1, hz2⟩ := info_parts S.info
  have hn' : (n : Int) ≤ 9223372036854775807 := by unfold maxLen at hn; omega
  have hb' : (i0.bytes : Int) * (n : Int) ≤ 281474976710656 := by
    have h : ((i0.bytes * n : Nat) : Int) ≤ 281474976710656 := by rw [hz2]; omega
    rwa [Int.natCast_mul] at h
  have h4 := run_make (P := P) W st T i0 z S.und hi hz0 kl kc n n (by omega) (Int.le_refl _) hb' hn'
  rw [h1] at h4
  injection h4 with _ h4
  exact ⟨W', h1, h2, h3, by rw [h4]; simp⟩

/-- at the head of a round: the new node's box; what lay before it stands -/
def AlL (V0 : World) (yk xk : Nat) (i : Value) (W : World) : Prop := ∃ (k : Nat) (rs ds : Value), i = .int .i64 k ∧ k ≤ xk ∧ Below V0.heap.size V0 W ∧ W.heap[V0.heap.size + 1]? = some (.cells #[rs, ds] 64 (0, 0)) ∧
  Own i64E W V0.heap.size 3 rs (List.replicate k (-1)) ∧ Own u64E W V0.heap.size 51 ds (List.replicate yk 0)
theorem AlL.out {V0 : World} {yk xk : Nat} {i : Value} {W : World} (h : AlL V0 yk xk i W) : ∃ (k : Nat) (rs ds : Value), i = .int .i64 k ∧ k ≤ xk ∧ Below V0.heap.size V0 W ∧ W.heap[V0.heap.size + 1]? = some (.cells #[rs, ds] 64 (0, 0)) ∧
  Own i64E W V0.heap.size 3 rs (List.replicate k (-1)) ∧ Own u64E W V0.heap.size 51 ds (List.replicate yk 0) := h

def nodeUp (g : Gr) (x : Nd) : Gr := { g with nodes := g.nodes ++ [x] }
theorem nodeUp_ok {n : Nat} {g : Gr} (h : GrOk n g) {x : Nd} (h1 : x.refs.length ≤ 15) (h2 : x.data.length ≤ 32) (h3 : ∀ r ∈ x.refs, r = -1) : GrOk (n + 1) (nodeUp g x) := by
  have hn := h.nl
  refine ⟨h.ul, h.rl, by simp [nodeUp]; omega, fun i hi => ?_, fun y hy => ?_⟩
  · have := h.root i hi
    simp only [nodeUp, List.length_append, List.length_singleton]
    omega
  · simp only [nodeUp, List.length_append, List.length_singleton, List.mem_append, List.mem_singleton] at hy ⊢
    rcases hy with hy | rfl
    · obtain ⟨o1, o2, o3⟩ := h.node y hy
      exact ⟨o1, o2, fun r hr => by have := o3 r hr; omega⟩
    · exact ⟨h1, h2, fun r hr => by have := h3 r hr; omega⟩
section
variable {w0 W W' : World} {nv uv rv nv' uv' rv' : Value} {c x y z : Int} {p B rb rb' : Nat} {g : Gr}
theorem DrG.node {v : Value} {nd : Nd} (h : DrG w0 nv uv rv nv' uv' rv' c x y z p B rb rb' g g W) (hin : GrM w0 B rb nv uv rv g) (hg : W.grownBy W' nv'.ownBlock)
    (ho : Own (ndE (w0.heap.size + 1 + 1 + 1 + 1) rb') W' (w0.heap.size + 1 + 1 + 1 + 1) 64 v (g.nodes ++ [nd])) :
    DrG w0 nv uv rv v uv' rv' c x y z p B rb rb' g (nodeUp g nd) (W'.setCell ⟨p, 0, none⟩ v) := by
  have how := h.out.nodes
  have hp := h.hp
  have hs := h.sizes
  have hbel : Below w0.heap.size w0 W' := h.bel.trans ((Below.refl _ _).grown hg h.bel.size (fun k hk => by have := (how.lt k hk).1; omega))
  have hk : ∀ {k : Nat} {cs : Array Value} {T : TypeId}, W.heap[k]? = some (.cells cs T (0, 0)) → T ≠ 64 → W'.heap[k]? = some (.cells cs T (0, 0)) := fun {k cs T} e hT => grown_block hg e (how.ne_block e (Ne.symm hT))
  obtain ⟨q0, q1, q2, h3⟩ := h.b2
  obtain ⟨q3, q4, h4⟩ := h.b3
  have k6 := hk h.b6 (by decide)
  have gc := (Gc.refl W').set (o := 0) k6 (.inl rfl) v
  have hb2 := bset hbel (show w0.heap.size ≤ p by omega) v (o := 0)
  have hm : GrM W' (w0.heap.size + 1 + 1 + 1 + 1) rb' v uv' rv' (nodeUp g nd) := ⟨ho, h.out.used.kept hg (h.out.used.ne_own how (by decide)) (fun _ _ e => e), h.out.roots.kept hg (h.out.roots.ne_own how (by decide)) (fun _ _ e => e), h.out.rb⟩
  exact ⟨hb2, by rw [setCell_other _ (by omega)]; exact hk h.b0 (by decide), by rw [setCell_other _ (by omega)]; exact hk h.b1 (by decide), ⟨_, _, _, by rw [setCell_other _ (by omega)]; exact hk h3 (by decide)⟩, ⟨_, _, by rw [setCell_other _ (by omega)]; exact hk h4 (by decide)⟩, h.hp, by rw [setCell_block k6]; rfl, hin.below hb2, hm.gc gc⟩
end
end Go.Proofs.Ytadoehlhfccacaa
