/- Plain notions on memory: what a slice of elements reads as, what a slice of the call's own holds, and an append of one element. No condition. -/
import Derived.WalkKit
import Derived.WalkSpells
import Derived.WalkLawsBesides
import Derived.Lib.Hide
namespace Go.Proofs.Ytchdmemgkegefaa
open Go.RowKit

/-- a kind of element: how many cells, and which cells an element has in a world -/
structure El (α : Type) where
  sz : Nat
  rel : World → α → List Value → Prop
  len : ∀ w x cs, rel w x cs → cs.length = sz
  keep : ∀ w w' x cs, rel w x cs → (∀ k, k < w.heap.size → w'.heap[k]? = w.heap[k]?) → rel w' x cs

def flat {α : Type} (sz : Nat) (f : α → List Value) (h : ∀ x, (f x).length = sz) : El α :=
  ⟨sz, fun _ x cs => cs = f x, fun _ x cs e => by rw [e, h], fun _ _ _ _ e _ => e⟩

/-- v reads in w as the elements xs -/
def Rd {α : Type} (E : El α) (w : World) (v : Value) (xs : List α) : Prop :=
  ∃ a cap, v = .slice a xs.length cap ∧ xs.length ≤ cap ∧ cap ≤ maxLen ∧
    (xs = [] ∨ ∃ b off, a = some ⟨b, off, none⟩ ∧ ∀ i (h : i < xs.length), ∃ cs, E.rel w xs[i] cs ∧ ∀ j, j < E.sz → w.cell? ⟨b, off + i * E.sz + j, none⟩ = cs[j]?)

/-- v is a slice of the call's own, from block B on, of the elements xs -/
def Own {α : Type} (E : El α) (w : World) (B T : Nat) (v : Value) (xs : List α) : Prop :=
  ∃ C : List Value, w.ownsRow B T E.sz v xs.length C ∧ ∀ i (h : i < xs.length), E.rel w xs[i] ((C.drop (i * E.sz)).take E.sz)

theorem Rd.keep {α : Type} {E : El α} {w w' : World} {v : Value} {xs : List α} (h : Rd E w v xs) (hk : ∀ k, k < w.heap.size → w'.heap[k]? = w.heap[k]?) : Rd E w' v xs := by
  obtain ⟨a, cap, h1, h2, h3, h4⟩ := h
  refine ⟨a, cap, h1, h2, h3, ?_⟩
  rcases h4 with h4 | ⟨b, off, h5, h6⟩
  · exact .inl h4
  · refine .inr ⟨b, off, h5, fun i hi => ?_⟩
    obtain ⟨cs, r, c⟩ := h6 i hi
    refine ⟨cs, E.keep _ _ _ _ r hk, fun j hj => ?_⟩
    have hl := E.len _ _ _ r
    have hc := c j hj
    have hb : b < w.heap.size := World.block_lt_of_cell? w (a := ⟨b, off + i * E.sz + j, none⟩) (u := cs[j]'(by omega)) (by rw [hc, List.getElem?_eq_getElem])
    rw [← hc]
    exact World.cell?_of_block (hk b hb)

theorem Rd.below {α : Type} {E : El α} {w w' : World} {v : Value} {xs : List α} (h : Rd E w v xs) (hb : Below w.heap.size w w') : Rd E w' v xs := h.keep hb.block

/-- a slice of flat elements: its cells -/
theorem Rd.flat {α : Type} {sz : Nat} {f : α → List Value} {hf : ∀ x, (f x).length = sz} {w : World} {v : Value} {xs : List α} (h : Rd (flat sz f hf) w v xs) :
    ∃ a cap, v = .slice a xs.length cap ∧ xs.length ≤ cap ∧ cap ≤ maxLen ∧
      (xs = [] ∨ ∃ b off, a = some ⟨b, off, none⟩ ∧ (0 < sz → b < w.heap.size) ∧ ∀ i (h : i < xs.length) j, j < sz → w.cell? ⟨b, off + i * sz + j, none⟩ = (f xs[i])[j]?) := by
  obtain ⟨a, cap, h1, h2, h3, h4⟩ := h
  refine ⟨a, cap, h1, h2, h3, ?_⟩
  rcases h4 with h4 | ⟨b, off, h5, h6⟩
  · exact .inl h4
  · by_cases hx : xs = []
    · exact .inl hx
    have key : ∀ i (h : i < xs.length) j, j < sz → w.cell? ⟨b, off + i * sz + j, none⟩ = (f xs[i])[j]? := by
      intro i hi j hj
      obtain ⟨cs, r, c⟩ := h6 i hi
      have r' : cs = f xs[i] := r
      subst r'
      exact c j hj
    refine .inr ⟨b, off, h5, fun hs => ?_, key⟩
    have hp : 0 < xs.length := List.length_pos_iff.2 hx
    have hc := key 0 hp 0 hs
    exact World.block_lt_of_cell? w (a := ⟨b, off + 0 * sz + 0, none⟩) (u := (f xs[0])[0]'(by rw [hf]; exact hs)) (by rw [hc, List.getElem?_eq_getElem])

theorem Rd.nil {α : Type} (E : El α) (w : World) : Rd E w (.slice none 0 0) [] := ⟨none, 0, rfl, Nat.le_refl _, Nat.zero_le _, .inl rfl⟩

theorem mul_lt_mul_sz {i n s j : Nat} (hi : i < n) (hj : j < s) : i * s + j < n * s := by
  have : (i + 1) * s ≤ n * s := Nat.mul_le_mul_right _ hi
  rw [Nat.succ_mul] at this
  omega

/-- what is owned reads so -/
theorem Own.rd {α : Type} {E : El α} {w : World} {B T : Nat} {v : Value} {xs : List α} (h : Own E w B T v xs) : Rd E w v xs := by
  obtain ⟨C, ⟨hl, hrow⟩, hel⟩ := h
  rcases hrow with ⟨hv, hn⟩ | ⟨g, cap, cur, hv, hB, hh, hc, hm, hs, ht⟩
  · have : xs = [] := List.length_eq_zero_iff.1 hn
    subst this
    exact ⟨none, 0, hv, Nat.le_refl _, Nat.zero_le _, .inl rfl⟩
  · refine ⟨_, cap, hv, hc, hm, .inr ⟨g, 0, rfl, fun i hi => ⟨_, hel i hi, fun j hj => ?_⟩⟩⟩
    have hlt := mul_lt_mul_sz hi hj
    have hd : w.cell? ⟨g, 0 + i * E.sz + j, none⟩ = cur[i * E.sz + j]? := by
      rw [Nat.zero_add, cell_of_row w g (i * E.sz + j) cur T (0, 0) hh]
    rw [hd, List.getElem?_take_of_lt hj, List.getElem?_drop, ← ht, List.getElem?_take_of_lt hlt]
    simp

theorem Own.nil {α : Type} (E : El α) (w : World) (B T : Nat) : Own E w B T (.slice none 0 0) [] :=
  ⟨[], World.ownsRow_nil _ _ _ _, fun _ h => absurd h (Nat.not_lt_zero _)⟩

theorem Own.kept {α : Type} {E : El α} {w w' : World} {B T : Nat} {v : Value} {xs : List α} {row : Option Nat} (h : Own E w B T v xs) (hg : w.grownBy w' row) (hne : v.ownBlock = none ∨ v.ownBlock ≠ row)
    (hr : ∀ x cs, E.rel w x cs → E.rel w' x cs) : Own E w' B T v xs := by
  obtain ⟨C, hC, hel⟩ := h
  exact ⟨C, hC.kept hg hne, fun i hi => hr _ _ (hel i hi)⟩

theorem Own.alloc {α : Type} {E : El α} {w : World} {B T : Nat} {v : Value} {xs : List α} (h : Own E w B T v xs) (o : Obj) : Own E (w.alloc o) B T v xs := by
  obtain ⟨C, hC, hel⟩ := h
  exact ⟨C, hC.alloc o, fun i hi => E.keep _ _ _ _ (hel i hi) fun k hk => Below.heap_alloc _ _ _ hk⟩

theorem Own.keep {α : Type} {E : El α} {w w' : World} {B T : Nat} {v : Value} {xs : List α} (h : Own E w B T v xs) (hk : ∀ k, k < w.heap.size → w'.heap[k]? = w.heap[k]?) : Own E w' B T v xs := by
  obtain ⟨C, ⟨h1, h2⟩, hel⟩ := h
  refine ⟨C, ⟨h1, ?_⟩, fun i hi => E.keep _ _ _ _ (hel i hi) hk⟩
  rcases h2 with h2 | ⟨g, cap, cur, hv, hg, hh, r⟩
  · exact .inl h2
  · exact .inr ⟨g, cap, cur, hv, hg, by rw [hk g (Array.getElem?_eq_some_iff.1 hh).1]; exact hh, r⟩
theorem Own.below {α : Type} {E : El α} {w w' : World} {B T : Nat} {v : Value} {xs : List α} (h : Own E w B T v xs) (hb : Below w.heap.size w w') : Own E w' B T v xs := h.keep hb.block

theorem Own.drewN {α : Type} {E : El α} {w : World} {B T : Nat} {v : Value} {xs : List α} (h : Own E w B T v xs) (n : Nat) : Own E (w.drewN n) B T v xs := by
  obtain ⟨C, hC, hel⟩ := h
  exact ⟨C, hC, fun i hi => E.keep _ _ _ _ (hel i hi) fun k hk => rfl⟩

theorem Own.base {α : Type} {E : El α} {w : World} {B B' T : Nat} {v : Value} {xs : List α} (h : Own E w B T v xs) (hB : B' ≤ B) : Own E w B' T v xs := by
  obtain ⟨C, ⟨h1, h2⟩, hel⟩ := h
  refine ⟨C, ⟨h1, ?_⟩, hel⟩
  rcases h2 with h2 | ⟨g, cap, cur, hv, hg, r⟩
  · exact .inl h2
  · exact .inr ⟨g, cap, cur, hv, Nat.le_trans hB hg, r⟩

/-- a slice type and its element type in a program -/
structure SlT (P : Program) (st T sz bytes : Nat) (z : Value) : Prop where
  und : P.underlying st = some (.slice T)
  info : (P.info? T).map (fun i => (i.zero, i.size, i.bytes)) = some (some z, sz, bytes)
  zs : z.cells.size = sz
  pos : 0 < sz

theorem news_alloc (w : World) (cs : Array Value) (T : TypeId) : ∀ j u, cs.toList[j]? = some u → (w.alloc (.cells cs T)).cell? ((⟨w.heap.size, 0, none⟩ : Addr).add j) = some u := by
  intro j u h
  have hadd : (⟨w.heap.size, 0, none⟩ : Addr).add j = ⟨w.heap.size, j, none⟩ := by unfold Addr.add; split <;> simp_all
  rw [hadd, cell_of_row _ _ j cs T (0, 0) (heap_alloc_new w _)]
  simpa using h

theorem wpList_append_els {P : Program} {ops : Array Oper} {rest : List Oper} {o : Oper} {a : Act} {w : World} {Q : Exit → Act → World → Prop} {α : Type} (E : El α) {st T bytes : Nat} {z : Value} (S : SlT P st T E.sz bytes z)
    (hgd : o.guard = none) (s x : Operand) (ho : o.op = .call { callee := .builtin .append, args := #[s, x], argTypes := #[st, st] })
    (B : Nat) (v : Value) (xs : List α) (hs : a.eval s = v) (hown : Own E w B T v xs)
    (ad : Addr) (m c : Nat) (news : List α) (hx : a.eval x = .slice (some ad) m c) (hm : news.length = m)
    (hnews : ∃ N : List Value, N.length = m * E.sz ∧ (∀ j u, N[j]? = some u → w.cell? (ad.add j) = some u) ∧ (∀ u ∈ N, u.oneCell' = true) ∧ ∀ i (h : i < news.length), E.rel w news[i] ((N.drop (i * E.sz)).take E.sz))
    (hbytes : (xs.length + m) * bytes ≤ 140737488355328) (h63 : xs.length + m ≤ maxLen) (hB : B ≤ w.heap.size)
    (hkeep : ∀ w' x cs, w.grownBy w' v.ownBlock → E.rel w x cs → E.rel w' x cs)
    (h : ∀ v' w', Own E w' B T v' (xs ++ news) → w.grownBy w' v.ownBlock → Below B w w' → wpList P ops Q rest (a.put o.dst v') w') : wpList P ops Q (o :: rest) a w := by
  obtain ⟨C, hC, hel⟩ := hown
  obtain ⟨N, hNl, hNc, hN1, hNr⟩ := hnews
  obtain ⟨i0, hi, hz0, hz1, hz2⟩ := info_parts S.info
  refine wpList_append_own w hgd s x st ho B T i0 z E.sz bytes S.und hi hz0 hz1 hz2 S.zs S.pos v xs.length C hs hC ad m c N hx hNl hNc hN1 h63 hbytes hB ?_
  intro v' w' h1 h2 _
  refine h v' w' ⟨C ++ N, by rw [List.length_append, hm]; exact h1, fun i hi => ?_⟩ h2 ((Below.refl B w).grown h2 hB (fun k hk => (hC.lt k hk).1))
  have hCl : C.length = xs.length * E.sz := hC.1
  by_cases hlt : i < xs.length
  · rw [List.getElem_append_left hlt]
    have := hkeep w' _ _ h2 (hel i hlt)
    have hle : (i + 1) * E.sz ≤ xs.length * E.sz := Nat.mul_le_mul_right _ hlt
    rw [Nat.succ_mul] at hle
    rw [List.drop_append_of_le_length (by omega), List.take_append_of_le_length (by rw [List.length_drop]; omega)]
    exact this
  · have hlt' : i - xs.length < news.length := by rw [List.length_append] at hi; omega
    rw [List.getElem_append_right (by omega)]
    have := hkeep w' _ _ h2 (hNr (i - xs.length) hlt')
    have he : i * E.sz = C.length + (i - xs.length) * E.sz := by rw [hCl, ← Nat.add_mul]; congr 1; omega
    rw [he, List.drop_append, List.drop_eq_nil_of_le (by omega), List.nil_append, Nat.add_sub_cancel_left]
    exact this

/-- append(v, x), x a literal in a new block of one element -/
theorem wpList_append_lit {P : Program} {ops : Array Oper} {rest : List Oper} {o : Oper} {a : Act} {w : World} {Q : Exit → Act → World → Prop} {α : Type} (E : El α) {st T bytes : Nat} {z : Value} (S : SlT P st T E.sz bytes z)
    (hgd : o.guard = none) (s x : Operand) (ho : o.op = .call { callee := .builtin .append, args := #[s, x], argTypes := #[st, st] })
    (B : Nat) (v : Value) (xs : List α) (hs : a.eval s = v) (hown : Own E w B T v xs)
    (e : α) (cs : Array Value) (g : Nat) (hx : a.eval x = .slice (some ⟨g, 0, none⟩) 1 1) (hg : g = w.heap.size) (hrel : E.rel w e cs.toList) (h1 : ∀ u ∈ cs.toList, u.oneCell' = true)
    (hbytes : (xs.length + 1) * bytes ≤ 140737488355328) (h63 : xs.length + 1 ≤ maxLen) (hB : B ≤ w.heap.size)
    (hkeep : ∀ w' x cs', (w.alloc (.cells cs T)).grownBy w' v.ownBlock → E.rel (w.alloc (.cells cs T)) x cs' → E.rel w' x cs')
    (h : ∀ v' w', Own E w' B T v' (xs ++ [e]) → (w.alloc (.cells cs T)).grownBy w' v.ownBlock → Below B w w' → wpList P ops Q rest (a.put o.dst v') w') : wpList P ops Q (o :: rest) a (w.alloc (.cells cs T)) := by
  subst hg
  have hlen := E.len _ _ _ hrel
  have hrel' := E.keep w (w.alloc (.cells cs T)) _ _ hrel fun k hk => Below.heap_alloc _ _ _ hk
  refine wpList_append_els E S hgd s x ho B v xs hs (hown.alloc _) ⟨w.heap.size, 0, none⟩ 1 1 [e] hx rfl ⟨cs.toList, by rw [hlen, Nat.one_mul], news_alloc w cs T, h1, ?_⟩ hbytes h63 (by simp; omega) hkeep ?_
  · intro i hi
    have : i = 0 := by simp at hi; omega
    subst this
    simp only [List.getElem_cons_zero, Nat.zero_mul, List.drop_zero]
    rw [List.take_of_length_le (by omega)]
    exact hrel'
  · intro v' w' h2 h3 h4
    exact h v' w' h2 h3 (((Below.refl B w).alloc hB _).trans h4)

end Go.Proofs.Ytchdmemgkegefaa
