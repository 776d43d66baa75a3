/- An append of all elements of a slice that reads as a list, nil let in, onto a slice of the call's own: the run, and the laws for a plain region and for an operation of a region that draws. No condition. -/
import Derived.Test.YtchdmemgkegefaaBas4
import Derived.Maps.AppendAt
namespace Go.Proofs.Ytchdmemgkegefaa
open Go.RowKit

theorem add_off (b off j : Nat) : (⟨b, off, none⟩ : Addr).add j = ⟨b, off + j, none⟩ := by unfold Addr.add; split <;> simp_all

/-- the cells of a slice that is not empty -/
theorem Rd.cells {α : Type} {E : El α} {w : World} {b off n c : Nat} {ys : List α} (h : Rd E w (.slice (some ⟨b, off, none⟩) n c) ys) (hE : 0 < E.sz) :
    ∃ N : List Value, N.length = n * E.sz ∧ (∀ j u, N[j]? = some u → w.cell? ⟨b, off + j, none⟩ = some u) ∧ ys.length = n ∧ ∀ i (h : i < ys.length), E.rel w ys[i] ((N.drop (i * E.sz)).take E.sz) := by
  obtain ⟨a, cap, e, _, _, h4⟩ := h
  simp only [Value.slice.injEq] at e
  obtain ⟨rfl, rfl, rfl⟩ := e
  have h4 : ∀ i (h : i < ys.length), ∃ cs, E.rel w ys[i] cs ∧ ∀ j, j < E.sz → w.cell? ⟨b, off + i * E.sz + j, none⟩ = cs[j]? := by
    rcases h4 with rfl | ⟨b', off', e2, h4⟩
    · intro i hi; simp at hi
    · simp only [Option.some.injEq, Addr.mk.injEq, and_true] at e2
      obtain ⟨rfl, rfl⟩ := e2
      exact h4
  have key : ∀ j, j < ys.length * E.sz → ∃ u, w.cell? ⟨b, off + j, none⟩ = some u := by
    intro j hj
    have hi : j / E.sz < ys.length := Nat.div_lt_of_lt_mul (by rw [Nat.mul_comm]; exact hj)
    obtain ⟨cs, hr, hc⟩ := h4 (j / E.sz) hi
    have := hc (j % E.sz) (Nat.mod_lt _ hE)
    rw [show off + j / E.sz * E.sz + j % E.sz = off + j by have := Nat.div_add_mod' j E.sz; omega] at this
    rw [this]
    have hl := E.len _ _ _ hr
    exact ⟨_, List.getElem?_eq_getElem (by rw [hl]; exact Nat.mod_lt _ hE)⟩
  refine ⟨(List.range (ys.length * E.sz)).map fun j => (w.cell? ⟨b, off + j, none⟩).getD undef, by simp, fun j u hu => ?_, rfl, fun i hi => ?_⟩
  · rw [List.getElem?_map] at hu
    by_cases hj : j < ys.length * E.sz
    · obtain ⟨u', hu'⟩ := key j hj
      rw [List.getElem?_range hj] at hu
      simp only [Option.map_some, hu', Option.getD_some, Option.some.injEq] at hu
      rw [hu', hu]
    · rw [List.getElem?_eq_none (by simp; omega)] at hu
      simp at hu
  · obtain ⟨cs, hr, hc⟩ := h4 i hi
    have hl := E.len _ _ _ hr
    have he : ((List.map (fun j => (w.cell? ⟨b, off + j, none⟩).getD undef) (List.range (ys.length * E.sz))).drop (i * E.sz)).take E.sz = cs := by
      apply List.ext_getElem?
      intro j
      by_cases hj : j < E.sz
      · have h2 : i * E.sz + j < ys.length * E.sz := mul_lt_mul_sz hi hj
        rw [List.getElem?_take_of_lt hj, List.getElem?_drop, List.getElem?_map, List.getElem?_range h2]
        have := hc j hj
        rw [show off + i * E.sz + j = off + (i * E.sz + j) by omega] at this
        simp [this, hl, hj]
      · rw [List.getElem?_eq_none (by simp; omega), List.getElem?_eq_none (by omega)]
    rw [he]
    exact hr

theorem Rd.len {α : Type} {E : El α} {w : World} {a : Option Addr} {n c : Nat} {ys : List α} (h : Rd E w (.slice a n c) ys) : ys.length = n := by
  obtain ⟨a', cap, e, _⟩ := h
  simp only [Value.slice.injEq] at e
  exact e.2.1.symm

theorem run_append_rd {P : Program} {w : World} {α : Type} (E : El α) {st T bytes : Nat} {z : Value} (S : SlT P st T E.sz bytes z) (ty : TypeId)
    {B : Nat} {v : Value} {xs : List α} (hown : Own E w B T v xs) {x : Value} {ys : List α} (hx : Rd E w x ys) (h1 : ∀ w x cs, E.rel w x cs → ∀ u ∈ cs, u.oneCell' = true)
    (hbytes : (xs.length + ys.length) * bytes ≤ 140737488355328) (h63 : xs.length + ys.length ≤ maxLen) (hB : B ≤ w.heap.size)
    (hkeep : ∀ w' x cs, w.grownBy w' v.ownBlock → E.rel w x cs → E.rel w' x cs) :
    ∃ v' w', (Builtin.append_ #[st, st] ty #[v, x]).run P w = .ok v' w' ∧ Own E w' B T v' (xs ++ ys) ∧ w.grownBy w' v.ownBlock ∧ Below B w w' ∧ (v'.ownBlock = v.ownBlock ∨ v'.ownBlock = some w.heap.size) := by
  obtain ⟨i0, hi, hz0, hz1, hz2⟩ := info_parts S.info
  have hown0 := hown
  obtain ⟨C, hC, hel⟩ := hown
  obtain ⟨a, c, rfl, hlc, hmc, hrd⟩ := id hx
  cases a with
  | none =>
    have hy : ys = [] := by
      rcases hrd with h | ⟨_, _, h, _⟩
      · exact h
      · cases h
    subst hy
    refine ⟨v, w, ?_, by rw [List.append_nil]; exact hown0, grown_refl _ _, Below.refl _ _, .inl rfl⟩
    rcases hC.2 with ⟨rfl, _⟩ | ⟨g, cap, cur, rfl, _, _, hnc, _⟩
    · simp [Builtin.append_, run_underlying S.und, sizeOf, typeInfo, hi, Builtin.lenOf, Builtin.firstCells]
    · simp [Builtin.append_, run_underlying S.und, sizeOf, typeInfo, hi, Builtin.lenOf, Builtin.firstCells, hnc, storeCells]
  | some ad =>
    obtain ⟨N, hN1, hN2, hN3⟩ : ∃ N : List Value, N.length = ys.length * E.sz ∧ (∀ j u, N[j]? = some u → w.cell? (ad.add j) = some u) ∧ ∀ i (h : i < ys.length), E.rel w ys[i] ((N.drop (i * E.sz)).take E.sz) := by
      by_cases hy : ys = []
      · subst hy
        exact ⟨[], by simp, by simp, by simp⟩
      · rcases hrd with h | ⟨b, off, e, h⟩
        · exact absurd h hy
        · injection e with e
          subst e
          obtain ⟨N, h1, h2, _, h4⟩ := Rd.cells hx S.pos
          exact ⟨N, h1, fun j u hu => by rw [add_off]; exact h2 j u hu, h4⟩
    have hNo : ∀ u ∈ N, u.oneCell' = true := by
      intro u hu
      obtain ⟨j, hj, rfl⟩ := List.getElem_of_mem hu
      have hpos := S.pos
      have hq : j / E.sz < ys.length := Nat.div_lt_of_lt_mul (by rw [Nat.mul_comm]; omega)
      refine h1 _ _ _ (hN3 (j / E.sz) hq) _ (List.mem_iff_getElem?.2 ⟨j % E.sz, ?_⟩)
      rw [List.getElem?_take_of_lt (Nat.mod_lt _ hpos), List.getElem?_drop, Nat.div_add_mod', List.getElem?_eq_getElem hj]
    obtain ⟨v', w', hrun, h2, h3, h4, h5⟩ := run_append_own_at (P := P) w B st ty T i0 z E.sz bytes S.und hi hz0 hz1 hz2 S.zs S.pos v xs.length C hC ad ys.length c N hN1 hN2 hNo h63 hbytes hB
    refine ⟨v', w', hrun, ⟨C ++ N, by rw [List.length_append]; exact h2, fun i hi => ?_⟩, h3, (Below.refl B w).grown h3 hB (fun k hk => (hC.lt k hk).1), h5⟩
    have hCl : C.length = xs.length * E.sz := hC.1
    by_cases hlt : i < xs.length
    · rw [List.getElem_append_left hlt]
      have := hkeep w' _ _ h3 (hel i hlt)
      have hle : (i + 1) * E.sz ≤ xs.length * E.sz := Nat.mul_le_mul_right _ hlt
      rw [Nat.succ_mul] at hle
      rw [List.drop_append_of_le_length (by omega), List.take_append_of_le_length (by rw [List.length_drop]; omega)]
      exact this
    · have hlt' : i - xs.length < ys.length := by rw [List.length_append] at hi; omega
      rw [List.getElem_append_right (by omega)]
      have := hkeep w' _ _ h3 (hN3 (i - xs.length) hlt')
      have he : i * E.sz = C.length + (i - xs.length) * E.sz := by rw [hCl, ← Nat.add_mul]; congr 1; omega
      rw [he, List.drop_append, List.drop_eq_nil_of_le (by omega), List.nil_append, Nat.add_sub_cancel_left]
      exact this

/-- at one operation -/
theorem wp_append_rd {P : Program} {o : Oper} {a : Act} {w : World} {K : Act → World → Prop} {Q : Exit → Act → World → Prop} {α : Type} (E : El α) {st T bytes : Nat} {z : Value} (S : SlT P st T E.sz bytes z)
    (s x : Operand) (ho : o.op = .call { callee := .builtin .append, args := #[s, x], argTypes := #[st, st] })
    (B : Nat) (v : Value) (xs : List α) (hs : a.eval s = v) (hown : Own E w B T v xs) (xv : Value) (ys : List α) (hxv : a.eval x = xv) (hx : Rd E w xv ys) (h1 : ∀ w x cs, E.rel w x cs → ∀ u ∈ cs, u.oneCell' = true)
    (hbytes : (xs.length + ys.length) * bytes ≤ 140737488355328) (h63 : xs.length + ys.length ≤ maxLen) (hB : B ≤ w.heap.size)
    (hkeep : ∀ w' x cs, w.grownBy w' v.ownBlock → E.rel w x cs → E.rel w' x cs)
    (h : ∀ v' w', Own E w' B T v' (xs ++ ys) → w.grownBy w' v.ownBlock → Below B w w' → (v'.ownBlock = v.ownBlock ∨ v'.ownBlock = some w.heap.size) → K (a.put o.dst v') w') : o.wp P a w K Q := by
  obtain ⟨v', w', hrun, h2, h3, h4, h5⟩ := run_append_rd E S o.type hown hx h1 hbytes h63 hB hkeep
  unfold Oper.wp execOp
  simp only [ho, resolve, invoke, builtin, Sem.run_bind, Sem.run_pure, Result.andThen_ok, List.map_toArray, List.map_cons, List.map_nil, hs, hxv, hrun]
  exact h v' w' h2 h3 h4 h5

/-- in a plain region -/
theorem wpList_append_rd {P : Program} {ops : Array Oper} {rest : List Oper} {o : Oper} {a : Act} {w : World} {Q : Exit → Act → World → Prop} {α : Type} (E : El α) {st T bytes : Nat} {z : Value} (S : SlT P st T E.sz bytes z)
    (hgd : o.guard = none) (s x : Operand) (ho : o.op = .call { callee := .builtin .append, args := #[s, x], argTypes := #[st, st] })
    (B : Nat) (v : Value) (xs : List α) (hs : a.eval s = v) (hown : Own E w B T v xs) (xv : Value) (ys : List α) (hxv : a.eval x = xv) (hx : Rd E w xv ys) (h1 : ∀ w x cs, E.rel w x cs → ∀ u ∈ cs, u.oneCell' = true)
    (hbytes : (xs.length + ys.length) * bytes ≤ 140737488355328) (h63 : xs.length + ys.length ≤ maxLen) (hB : B ≤ w.heap.size)
    (hkeep : ∀ w' x cs, w.grownBy w' v.ownBlock → E.rel w x cs → E.rel w' x cs)
    (h : ∀ v' w', Own E w' B T v' (xs ++ ys) → w.grownBy w' v.ownBlock → Below B w w' → (v'.ownBlock = v.ownBlock ∨ v'.ownBlock = some w.heap.size) → wpList P ops Q rest (a.put o.dst v') w') : wpList P ops Q (o :: rest) a w :=
  wpList_plain hgd fun _ hK => wp_append_rd E S s x ho B v xs hs hown xv ys hxv hx h1 hbytes h63 hB hkeep fun v' w' h2 h3 h4 h5 => hK _ _ (h v' w' h2 h3 h4 h5)
end Go.Proofs.Ytchdmemgkegefaa
