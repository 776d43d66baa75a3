/- A row that was written whole; a row of several cells an element of which is written. No condition. -/
import Derived.Test.YtchdmemgkegefaaBas4
namespace Go.Proofs.Ytchdmemgkegefaa
open Go.RowKit

theorem flatMap_len {α : Type} {sz : Nat} {f : α → List Value} (hf : ∀ x, (f x).length = sz) (xs : List α) : (xs.flatMap f).length = xs.length * sz := by
  induction xs with
  | nil => simp
  | cons x xs ih => rw [List.flatMap_cons, List.length_append, ih, hf, List.length_cons, Nat.succ_mul, Nat.add_comm]
theorem flatMap_at {α : Type} {sz : Nat} {f : α → List Value} (hf : ∀ x, (f x).length = sz) : ∀ (xs : List α) (i : Nat) (h : i < xs.length), ((xs.flatMap f).drop (i * sz)).take sz = f xs[i]
  | x :: xs, 0, _ => by simp [hf]
  | x :: xs, i + 1, h => by
    have e : (i + 1) * sz = (f x).length + i * sz := by rw [hf, Nat.succ_mul, Nat.add_comm]
    rw [List.flatMap_cons, e, ← List.drop_drop, List.drop_left]
    exact flatMap_at hf xs i (by simpa using h)

theorem own_lit {α : Type} {sz : Nat} {f : α → List Value} {hf : ∀ x, (f x).length = sz} {w : World} {B q n : Nat} {T : TypeId} {cs : Array Value} {xs : List α} (hB : B ≤ q) (h : w.heap[q]? = some (.cells cs T (0, 0))) (hc : cs.toList = xs.flatMap f) (hn : n = xs.length) (hm : n ≤ maxLen) :
    Own (flat sz f hf) w B T (.slice (some ⟨q, 0, none⟩) n n) xs := by
  subst hn
  have hl := flatMap_len hf xs
  refine ⟨cs.toList, ⟨by rw [hc]; exact hl, .inr ⟨q, xs.length, cs, rfl, hB, h, Nat.le_refl _, hm, ?_, ?_⟩⟩, fun i hi => ?_⟩
  · rw [← Array.length_toList, hc, hl]; rfl
  · rw [List.take_of_length_le]
    rw [hc, hl]; exact Nat.le_refl _
  · change _ = f xs[i]
    rw [hc]
    exact flatMap_at hf xs i hi

theorem flatMap_set {α : Type} {sz j : Nat} {f : α → List Value} (hf : ∀ x, (f x).length = sz) (hj : j < sz) (u : Value) : ∀ (C : List Value) (xs : List α), C.length = xs.length * sz → (∀ i (h : i < xs.length), ((C.drop (i * sz)).take sz) = f xs[i]) →
    ∀ (k : Nat) (hk : k < xs.length) (y : α), f y = (f xs[k]).set j u → ∀ i (h : i < (xs.set k y).length), (((C.set (k * sz + j) u).drop (i * sz)).take sz) = f (xs.set k y)[i] := by
  intro C xs hC hel k hk y hy i hi
  rw [List.length_set] at hi
  rw [List.getElem_set]
  have hlt : ∀ a b : Nat, a < b → a * sz + sz ≤ b * sz := fun a b h => by
    have := Nat.mul_le_mul_right sz (show a + 1 ≤ b by omega)
    rw [Nat.succ_mul] at this
    exact this
  apply List.ext_getElem?
  intro m
  by_cases hm : m < sz
  · rw [List.getElem?_take_of_lt hm, List.getElem?_drop, List.getElem?_set]
    have hold := congrArg (fun l => l[m]?) (hel i hi)
    simp only [List.getElem?_take_of_lt hm, List.getElem?_drop] at hold
    by_cases e : k = i
    · subst e
      rw [if_pos rfl, hy, List.getElem?_set]
      have hb : k * sz + sz ≤ xs.length * sz := hlt k _ hk
      by_cases e2 : j = m
      · subst e2
        rw [if_pos rfl, if_pos (by omega), if_pos rfl, if_pos (by rw [hf]; exact hm)]
      · rw [if_neg (by omega), if_neg e2, hold]
    · rw [if_neg e]
      rw [if_neg ?_, hold]
      rcases Nat.lt_or_gt_of_ne e with h | h
      · have := hlt _ _ h; omega
      · have := hlt _ _ h; omega
  · have h1 : ∀ x : α, (f x)[m]? = none := fun x => List.getElem?_eq_none (by rw [hf]; omega)
    rw [List.getElem?_eq_none (by rw [List.length_take]; omega)]
    split <;> rw [h1]

/-- element k of a row of the call's own: its cells may be written -/
theorem Own.setAt {α : Type} {sz : Nat} {f : α → List Value} {hf : ∀ x, (f x).length = sz} {w : World} {B T g n c : Nat} {xs : List α} (h : Own (flat sz f hf) w B T (.slice (some ⟨g, 0, none⟩) n c) xs) (k j : Nat) (hk : k < xs.length) (hj : j < sz) :
    B ≤ g ∧ g < w.heap.size ∧ w.cell? ⟨g, k * sz + j, none⟩ = (f xs[k])[j]? ∧ w.frozen? ⟨g, k * sz + j, none⟩ = false ∧ ∀ (y : α) (u : Value), f y = (f xs[k]).set j u → Own (flat sz f hf) (w.setCell ⟨g, k * sz + j, none⟩ u) B T (.slice (some ⟨g, 0, none⟩) n c) (xs.set k y) := by
  obtain ⟨C, ⟨hl, hrow⟩, hel⟩ := h
  change C.length = xs.length * sz at hl
  have hel' : ∀ i (h : i < xs.length), ((C.drop (i * sz)).take sz) = f xs[i] := hel
  have hlt : k * sz + sz ≤ xs.length * sz := by
    have := Nat.mul_le_mul_right sz (show k + 1 ≤ xs.length by omega)
    rw [Nat.succ_mul] at this
    exact this
  rcases hrow with ⟨hv, hn⟩ | ⟨g', cap, cur, hv, hB, hh, hc, hm, hs, ht⟩
  · omega
  · simp only [Value.slice.injEq, Option.some.injEq, Addr.mk.injEq, and_true] at hv
    obtain ⟨rfl, hn, rfl⟩ := hv
    change cur.size = c * sz at hs
    change cur.toList.take (xs.length * sz) = C at ht
    have hcc : xs.length * sz ≤ c * sz := Nat.mul_le_mul_right _ hc
    have hgl : g < w.heap.size := (Array.getElem?_eq_some_iff.1 hh).1
    refine ⟨hB, hgl, ?_, frozen_block hh, fun y u hy => ⟨C.set (k * sz + j) u, ⟨?_, .inr ⟨g, c, cur.setIfInBounds (k * sz + j) u, ?_, hB, setCell_block hh u, ?_, hm, ?_, ?_⟩⟩, flatMap_set hf hj u C xs hl hel' k hk y hy⟩⟩
    · rw [cell_block hh, ← hel' k hk, List.getElem?_take_of_lt hj, List.getElem?_drop, ← ht, List.getElem?_take_of_lt (by omega)]
      simp
    · rw [List.length_set, List.length_set]; exact hl
    · rw [List.length_set, hn]
    · rw [List.length_set]; exact hc
    · rw [Array.size_setIfInBounds]; exact hs
    · rw [List.length_set, Array.toList_setIfInBounds]
      change (cur.toList.set (k * sz + j) u).take (xs.length * sz) = C.set (k * sz + j) u
      rw [List.take_set, ht]
end Go.Proofs.Ytchdmemgkegefaa
