/- An append of one literal element inside a region that draws its order. No condition. -/
import Derived.Test.YtchdmemgkegefaaBas2
import Derived.Deep.AppendLies
import Derived.Deep.RegionHeld3
namespace Go.Proofs.Ytchdmemgkegefaa
open Go.RowKit

theorem Own.lt {α : Type} {E : El α} {w : World} {B T : Nat} {v : Value} {xs : List α} (h : Own E w B T v xs) : ∀ k, v.ownBlock = some k → B ≤ k ∧ k < w.heap.size := by
  obtain ⟨C, hC, _⟩ := h
  exact hC.lt
theorem Own.ne {α : Type} {E : El α} {w : World} {B T : Nat} {v : Value} {xs : List α} (h : Own E w B T v xs) {b : Nat} (hb : b < B ∨ w.heap.size ≤ b) : some b ≠ v.ownBlock := fun e => by
  have := h.lt b e.symm
  omega
theorem heap_alloc_at (w : World) (o : Obj) (g : Nat) (h : g = w.heap.size) : (w.alloc o).heap[g]? = some o := by
  subst h
  exact heap_alloc_new w o

theorem step_append_lit {P : Program} {ops : Array Oper} {o : Oper} {a : Act} {w : World} {K : Act → World → Prop} {Q : Exit → Act → World → Prop} {F : Prop} {α : Type} (E : El α) {st T bytes : Nat} {z : Value} (S : SlT P st T E.sz bytes z)
    (hgd : o.guard = none) (s x : Operand) (ho : o.op = .call { callee := .builtin .append, args := #[s, x], argTypes := #[st, st] })
    (B : Nat) (v : Value) (xs : List α) (hs : a.eval s = v) (hown : Own E w B T v xs)
    (e : α) (cs : Array Value) (g : Nat) (hx : a.eval x = .slice (some ⟨g, 0, none⟩) 1 1) (hg : w.heap[g]? = some (.cells cs T (0, 0))) (hrel : E.rel w e cs.toList) (h1 : ∀ u ∈ cs.toList, u.oneCell' = true)
    (hbytes : (xs.length + 1) * bytes ≤ 140737488355328) (h63 : xs.length + 1 ≤ maxLen) (hB : B ≤ w.heap.size)
    (hkeep : ∀ w' x cs', w.grownBy w' v.ownBlock → E.rel w x cs' → E.rel w' x cs')
    (h : ∀ v' w', Own E w' B T v' (xs ++ [e]) → w.grownBy w' v.ownBlock → Below B w w' → K (a.put o.dst v') w') : if Region.wanted o (yielded ops a.tmps) = true then Oper.wp P o a w K Q else F := by
  have hlen := E.len _ _ _ hrel
  obtain ⟨C, hC, hel⟩ := hown
  obtain ⟨i0, hi, hz0, hz1, hz2⟩ := info_parts S.info
  refine step_append_lies w hgd s x st ho B T i0 z E.sz bytes S.und hi hz0 hz1 hz2 S.zs S.pos v xs.length C hs hC ⟨g, 0, none⟩ 1 1 cs.toList hx (by rw [hlen, Nat.one_mul]) ?_ h1 (by omega) h63 hbytes hB _ rfl ?_
  · intro j u hu
    have hadd : (⟨g, 0, none⟩ : Addr).add j = ⟨g, j, none⟩ := by unfold Addr.add; split <;> simp_all
    rw [hadd, cell_of_row w g j cs T (0, 0) hg]
    simpa using hu
  · intro gg cap w' h2 h3 _ _
    refine h _ w' ⟨C ++ cs.toList, by rw [List.length_append]; exact h2, fun i hi => ?_⟩ h3 ((Below.refl B w).grown h3 hB (fun k hk => (hC.lt k hk).1))
    have hCl : C.length = xs.length * E.sz := hC.1
    by_cases hlt : i < xs.length
    · rw [List.getElem_append_left hlt]
      have := hkeep w' _ _ h3 (hel i hlt)
      have hle : (i + 1) * E.sz ≤ xs.length * E.sz := Nat.mul_le_mul_right _ hlt
      rw [Nat.succ_mul] at hle
      rw [List.drop_append_of_le_length (by omega), List.take_append_of_le_length (by rw [List.length_drop]; omega)]
      exact this
    · have hi' : i = xs.length := by simp at hi; omega
      subst hi'
      rw [List.getElem_append_right (by omega)]
      simp only [Nat.sub_self, List.getElem_cons_zero]
      rw [List.drop_append, List.drop_eq_nil_of_le (by omega), List.nil_append, show xs.length * E.sz - C.length = 0 by omega, List.drop_zero, List.take_of_length_le (by omega)]
      exact hkeep w' _ _ h3 hrel
end Go.Proofs.Ytchdmemgkegefaa
