/- The boxes with a node's box; stores into nodes of a graph's copy. -/
import Derived.Test.YtadoehlhfccacaaReg4
namespace Go.Proofs.Ytadoehlhfccacaa
open Go.RowKit

/-- the boxes, and the box of a node -/
structure DrN (w0 : World) (nv uv rv nv' uv' rv' : Value) (c x y z : Int) (p B rb rb' : Nat) (g g' : Gr) (b : Nat) (xa xb : Value) (W : World) : Prop extends DrG w0 nv uv rv nv' uv' rv' c x y z p B rb rb' g g' W where
  nb : W.heap[b]? = some (.cells #[xa, xb] 64 (0, 0))
section
variable {w0 W W' : World} {nv uv rv nv' uv' rv' : Value} {c x y z : Int} {p B rb rb' : Nat} {g g' : Gr} {b : Nat} {xa xb : Value}
theorem DrN.keep (h : DrN w0 nv uv rv nv' uv' rv' c x y z p B rb rb' g g' b xa xb W) (hb : Below W.heap.size W W') : DrN w0 nv uv rv nv' uv' rv' c x y z p B rb rb' g g' b xa xb W' := ⟨h.toDrG.keep hb, below_block hb (block_lt h.nb) h.nb⟩
theorem ne_ty {W : World} {k b : Nat} {cs cs' : Array Value} {T T' : TypeId} (h : W.heap[k]? = some (.cells cs T (0, 0))) (h' : W.heap[b]? = some (.cells cs' T' (0, 0))) (hT : T ≠ T') : k ≠ b := by
  rintro rfl
  rw [h] at h'
  injection h' with h'
  injection h' with _ h'
  exact hT h'
theorem DrN.set2 {o : Nat} {v : Value} (h : DrN w0 nv uv rv nv' uv' rv' c x y z p B rb rb' g g' b xa xb W) : DrN w0 nv uv rv nv' uv' rv' c x y z p B rb rb' g g' b xa xb (W.setCell ⟨w0.heap.size + 1 + 1, o, none⟩ v) := by
  obtain ⟨_, _, _, h2⟩ := h.b2
  exact ⟨h.toDrG.set2, by rw [setCell_other _ (ne_ty h.nb h2 (by decide))]; exact h.nb⟩
theorem DrN.set3 {o : Nat} {v : Value} (h : DrN w0 nv uv rv nv' uv' rv' c x y z p B rb rb' g g' b xa xb W) : DrN w0 nv uv rv nv' uv' rv' c x y z p B rb rb' g g' b xa xb (W.setCell ⟨w0.heap.size + 1 + 1 + 1, o, none⟩ v) := by
  obtain ⟨_, _, h2⟩ := h.b3
  exact ⟨h.toDrG.set3, by rw [setCell_other _ (ne_ty h.nb h2 (by decide))]; exact h.nb⟩
theorem DrN.n0 (h : DrN w0 nv uv rv nv' uv' rv' c x y z p B rb rb' g g' b xa xb W) : W.cell? ⟨b, 0, none⟩ = some xa := by rw [cell_block h.nb]; rfl
theorem DrN.n1 (h : DrN w0 nv uv rv nv' uv' rv' c x y z p B rb rb' g g' b xa xb W) : W.cell? ⟨b, 1, none⟩ = some xb := by rw [cell_block h.nb]; rfl
end

/-- a store of an element of one cell into a block of that type: a list of the same length is read, its elements are old ones or the new one -/
theorem Own.set_kind {α : Type} {f : α → List Value} {hf : ∀ x, (f x).length = 1} {W : World} {B T b o : Nat} {v u : Value} {xs : List α} (h : Own (flat 1 f hf) W B T v xs) (x0 : α) (hu : f x0 = [u]) :
    ∃ xs', xs'.length = xs.length ∧ (∀ x ∈ xs', x ∈ xs ∨ x = x0) ∧ Own (flat 1 f hf) (W.setCell ⟨b, o, none⟩ u) B T v xs' := by
  by_cases hb : some b = v.ownBlock
  · obtain ⟨ad, cap, rfl⟩ := own_form h
    cases ad with
    | none => cases hb
    | some ad =>
      have h0 := h
      obtain ⟨C, ⟨_, h2⟩, _⟩ := h0
      rcases h2 with ⟨h2, _⟩ | ⟨q, cap', cur, hv, _⟩
      · cases h2
      · simp only [Value.slice.injEq, Option.some.injEq] at hv
        obtain ⟨rfl, _, rfl⟩ := hv
        have hbq : b = q := by injection hb
        subst hbq
        by_cases ho : o < xs.length
        · obtain ⟨_, _, _, _, hset⟩ := h.set1 o ho
          exact ⟨xs.set o x0, by simp, fun x hx => (List.mem_or_eq_of_mem_set hx), hset x0 u hu⟩
        · refine ⟨xs, rfl, fun x hx => .inl hx, ?_⟩
          obtain ⟨C, ⟨h1, h2⟩, hel⟩ := h
          refine ⟨C, ⟨h1, ?_⟩, hel⟩
          rcases h2 with ⟨h2, _⟩ | ⟨q, cap', cur, hv, hB, hh, hc, hm, hs, ht⟩
          · cases h2
          · simp only [Value.slice.injEq, Option.some.injEq, Addr.mk.injEq, and_true] at hv
            obtain ⟨rfl, _, rfl⟩ := hv
            refine .inr ⟨b, cap, cur.setIfInBounds o u, rfl, hB, setCell_block hh u, hc, hm, by simpa using hs, ?_⟩
            rw [Array.toList_setIfInBounds, List.take_set_of_le (by show xs.length * 1 ≤ o; omega)]
            exact ht
  · exact ⟨xs, rfl, fun x hx => .inl hx, h.set_other hb⟩
end Go.Proofs.Ytadoehlhfccacaa
