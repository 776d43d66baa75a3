/- More plain notions on memory, beside Base. No condition. -/
import Derived.Test.YtchdmemgkegefaaBase
namespace Go.Proofs.Ytchdmemgkegefaa
open Go.RowKit

/-- the length in a slice's value, for a loop's measure -/
def lenOf : Value → Nat | .slice _ n _ => n | _ => 0

/-- append(v, x), x a literal in a new block of one element, behind a draw -/
theorem wpList_append_lit_drew {P : Program} {ops : Array Oper} {rest : List Oper} {o : Oper} {a : Act} {w : World} {Q : Exit → Act → World → Prop} {α : Type} (E : El α) {st T bytes : Nat} {z : Value} (S : SlT P st T E.sz bytes z)
    (hgd : o.guard = none) (s x : Operand) (ho : o.op = .call { callee := .builtin .append, args := #[s, x], argTypes := #[st, st] })
    (B : Nat) (v : Value) (xs : List α) (hs : a.eval s = v) (hown : Own E w B T v xs)
    (e : α) (cs : Array Value) (g : Nat) (hx : a.eval x = .slice (some ⟨g, 0, none⟩) 1 1) (hg : g = w.heap.size) (hrel : E.rel w e cs.toList) (h1 : ∀ u ∈ cs.toList, u.oneCell' = true)
    (hbytes : (xs.length + 1) * bytes ≤ 140737488355328) (h63 : xs.length + 1 ≤ maxLen) (hB : B ≤ w.heap.size)
    (hkeep : ∀ w' x cs', (w.alloc (.cells cs T)).drew.grownBy w' v.ownBlock → E.rel (w.alloc (.cells cs T)).drew x cs' → E.rel w' x cs')
    (h : ∀ v' w', Own E w' B T v' (xs ++ [e]) → (w.alloc (.cells cs T)).drew.grownBy w' v.ownBlock → Below B w w' → wpList P ops Q rest (a.put o.dst v') w') : wpList P ops Q (o :: rest) a (w.alloc (.cells cs T)).drew := by
  subst hg
  have hlen := E.len _ _ _ hrel
  have hb0 : Below w.heap.size w (w.alloc (.cells cs T)).drew := ((Below.refl _ w).alloc (Nat.le_refl _) _).drew
  have hrel' := E.keep w (w.alloc (.cells cs T)).drew _ _ hrel hb0.block
  refine wpList_append_els E S hgd s x ho B v xs hs (hown.below hb0) ⟨w.heap.size, 0, none⟩ 1 1 [e] hx rfl ⟨cs.toList, by rw [hlen, Nat.one_mul], fun j u hu => news_alloc w cs T j u hu, h1, ?_⟩ hbytes h63 (Nat.le_trans hB hb0.size) hkeep ?_
  · intro i hi
    have : i = 0 := by simp at hi; omega
    subst this
    simp only [List.getElem_cons_zero, Nat.zero_mul, List.drop_zero]
    rw [List.take_of_length_le (by omega)]
    exact hrel'
  · intro v' w' h2 h3 h4
    exact h v' w' h2 h3 ((hb0.mono hB).trans h4)

theorem getElem_of_length_one {l : List Value} (h : l.length = 1) : ∃ v, l = [v] := by
  match l, h with
  | [v], _ => exact ⟨v, rfl⟩

/-- what 'make([]T, n)' gives, of elements of one cell -/
theorem Own.made1 {α : Type} {f : α → List Value} {hf : ∀ x, (f x).length = 1} {w : World} {B T g n : Nat} {z : Value} (x0 : α) (hz : (f x0) = z.cells.toList) (h : w.ownsRow B T 1 (.slice (some ⟨g, 0, none⟩) n n) n (madeCells z.cells (n * 1)).toList) :
    Own (flat 1 f hf) w B T (.slice (some ⟨g, 0, none⟩) n n) (List.replicate n x0) := by
  obtain ⟨v, hv⟩ := getElem_of_length_one (hf x0)
  have hzc : z.cells = #[v] := by rw [hv] at hz; exact Array.toList_inj.1 hz.symm
  have hm : (madeCells z.cells (n * 1)).toList = List.replicate n v := by
    rw [hzc, Nat.mul_one]
    unfold madeCells
    simp [Nat.mod_one, List.map_const']
  rw [hm] at h
  refine ⟨List.replicate n v, by rw [List.length_replicate]; exact h, fun i hi => ?_⟩
  rw [List.length_replicate] at hi
  change _ = f _
  rw [List.getElem_replicate, hv]
  change ((List.replicate n v).drop (i * 1)).take 1 = _
  rw [Nat.mul_one, List.drop_replicate, List.take_replicate, show min 1 (n - i) = 1 by omega]
  rfl

/-- a store into an element of one cell of what is owned -/
theorem Own.set1 {α : Type} {f : α → List Value} {hf : ∀ x, (f x).length = 1} {w : World} {B T g n c : Nat} {xs : List α} (h : Own (flat 1 f hf) w B T (.slice (some ⟨g, 0, none⟩) n c) xs) (k : Nat) (hk : k < xs.length) :
    B ≤ g ∧ g < w.heap.size ∧ w.cell? ⟨g, k, none⟩ = (f xs[k])[0]? ∧ w.frozen? ⟨g, k, none⟩ = false ∧ ∀ (x : α) (v : Value), f x = [v] → Own (flat 1 f hf) (w.setCell ⟨g, k, none⟩ v) B T (.slice (some ⟨g, 0, none⟩) n c) (xs.set k x) := by
  obtain ⟨C, ⟨hl, hrow⟩, hel⟩ := h
  change C.length = xs.length * 1 at hl
  rw [Nat.mul_one] at hl
  rcases hrow with ⟨hv, hn⟩ | ⟨g', cap, cur, hv, hB, hh, hc, hm, hs, ht⟩
  · omega
  · simp only [Value.slice.injEq, Option.some.injEq, Addr.mk.injEq, and_true] at hv
    obtain ⟨rfl, hn, rfl⟩ := hv
    change cur.size = c * 1 at hs
    change cur.toList.take (xs.length * 1) = C at ht
    rw [Nat.mul_one] at hs ht
    have hgl : g < w.heap.size := (Array.getElem?_eq_some_iff.1 hh).1
    have hkC : k < C.length := by omega
    have hCk : f xs[k] = [C[k]] := by
      have := hel k hk
      change (C.drop (k * 1)).take 1 = f xs[k] at this
      rw [← this, Nat.mul_one, List.drop_eq_getElem_cons hkC]
      rfl
    have hcell : w.cell? ⟨g, k, none⟩ = cur[k]? := cell_of_row w g k cur T (0, 0) hh
    have hck : cur[k]? = some C[k] := by
      have : C[k]? = some C[k] := List.getElem?_eq_getElem hkC
      rw [← this, ← ht, List.getElem?_take_of_lt hk]
      simp
    refine ⟨hB, hgl, ?_, ?_, fun x v hx => ?_⟩
    · rw [hcell, hck, hCk]; rfl
    · unfold World.frozen?
      rw [show w.heap[(⟨g, k, none⟩ : Addr).block]? = some (.cells cur T (0, 0)) from hh]
      simp
    · have hheap : (w.setCell ⟨g, k, none⟩ v).heap[g]? = some (.cells (cur.setIfInBounds k v) T (0, 0)) := by
        unfold World.setCell
        simp only [Array.getElem?_modify, if_true, hh, Option.map_some]
        rfl
      refine ⟨C.set k v, ⟨by simp [hl, flat], .inr ⟨g, c, cur.setIfInBounds k v, ?_, hB, hheap, by simpa using hc, hm, by rw [Array.size_setIfInBounds, hs]; exact (Nat.mul_one c).symm, ?_⟩⟩, fun i hi => ?_⟩
      · rw [List.length_set, hn]
      · change (cur.setIfInBounds k v).toList.take ((xs.set k x).length * 1) = C.set k v
        rw [Nat.mul_one, List.length_set, Array.toList_setIfInBounds, List.take_set, ht]
      · rw [List.length_set] at hi
        change ((C.set k v).drop (i * 1)).take 1 = f (xs.set k x)[i]
        rw [Nat.mul_one, List.drop_eq_getElem_cons (by rw [List.length_set]; omega)]
        have hi2 := hel i hi
        change (C.drop (i * 1)).take 1 = f xs[i] at hi2
        rw [Nat.mul_one, List.drop_eq_getElem_cons (by omega)] at hi2
        simp only [List.take_succ_cons, List.take_zero] at hi2 ⊢
        rw [List.getElem_set, List.getElem_set]
        by_cases he : k = i
        · rw [if_pos he, if_pos he, hx]
        · rw [if_neg he, if_neg he, hi2]

end Go.Proofs.Ytchdmemgkegefaa
