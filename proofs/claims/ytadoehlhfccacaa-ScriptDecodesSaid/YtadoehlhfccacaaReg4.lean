/- Stores into the table and the roots of a graph's copy. -/
import Derived.Test.YtadoehlhfccacaaReg3
namespace Go.Proofs.Ytadoehlhfccacaa
open Go.RowKit

theorem GrM.setUsed {W : World} {B rb ub n uc k : Nat} {nv rv : Value} {g : Gr} (h : GrM W B rb nv (.slice (some ⟨ub, 0, none⟩) n uc) rv g) (hk : k < g.used.length) (b : Bool) :
    GrM (W.setCell ⟨ub, k, none⟩ (.bool b)) B rb nv (.slice (some ⟨ub, 0, none⟩) n uc) rv { g with used := g.used.set k b } := by
  obtain ⟨cs, hb⟩ := h.used.blk
  have hn : g.used.length = n := Rd.len h.used.rd
  subst hn
  obtain ⟨_, _, _, _, hset⟩ := h.used.set1 k hk
  refine ⟨?_, ?_, h.roots.setT hb (by decide), h.rb⟩
  · obtain ⟨C, ⟨h1, h2⟩, hel⟩ := h.nodes
    refine ⟨C, ⟨h1, ?_⟩, fun i hi => ?_⟩
    · rcases h2 with h2 | ⟨q, cap, cur, hv, hB, hh, r⟩
      · exact .inl h2
      · refine .inr ⟨q, cap, cur, hv, hB, ?_, r⟩
        rw [setCell_other _ (fun e => ?_)]
        · exact hh
        · subst e
          rw [hb] at hh
          injection hh with hh
          injection hh with _ hh
          exact absurd hh (by decide)
    · obtain ⟨a, b', e, h3, h4, h5⟩ := hel i hi
      exact ⟨a, b', e, h3.setT hb (by decide), h4.setT hb (by decide), h5⟩
  · have := hset b (.bool b) rfl
    exact this
theorem GrM.setRoots {W : World} {B rb n rc k : Nat} {nv uv : Value} {g : Gr} (h : GrM W B rb nv uv (.slice (some ⟨rb, 0, none⟩) n rc) g) (hk : k < g.roots.length) (x : Int) :
    GrM (W.setCell ⟨rb, k, none⟩ (.int .i64 x)) B rb nv uv (.slice (some ⟨rb, 0, none⟩) n rc) { g with roots := g.roots.set k x } := by
  obtain ⟨cs, hb⟩ := h.roots.blk
  have hn : g.roots.length = n := Rd.len h.roots.rd
  subst hn
  obtain ⟨_, _, _, _, hset⟩ := h.roots.set1 k hk
  refine ⟨?_, h.used.setT hb (by decide), hset x (.int .i64 x) rfl, h.rb⟩
  obtain ⟨C, ⟨h1, h2⟩, hel⟩ := h.nodes
  refine ⟨C, ⟨h1, ?_⟩, fun i hi => ?_⟩
  · rcases h2 with h2 | ⟨q, cap, cur, hv, hB, hh, r⟩
    · exact .inl h2
    · refine .inr ⟨q, cap, cur, hv, hB, ?_, r⟩
      rw [setCell_other _ (fun e => ?_)]
      · exact hh
      · subst e
        rw [hb] at hh
        injection hh with hh
        injection hh with _ hh
        exact absurd hh (by decide)
  · obtain ⟨a, b', e, h3, h4, h5⟩ := hel i hi
    exact ⟨a, b', e, h3.set_other (fun e => h5 e.symm), h4.setT hb (by decide), h5⟩
section
variable {w0 W W' : World} {nv uv rv nv' uv' rv' : Value} {c x y z : Int} {p B rb rb' : Nat} {g g' : Gr}
/-- the boxes behind a store into another block from the call on -/
theorem DrG.setO {b o : Nat} {v : Value} {cs : Array Value} {T : TypeId} {g'' : Gr} (h : DrG w0 nv uv rv nv' uv' rv' c x y z p B rb rb' g g' W) (hin : GrM w0 B rb nv uv rv g) (hb : W.heap[b]? = some (.cells cs T (0, 0))) (hT : T ≠ 45 ∧ T ≠ 35 ∧ T ≠ 53) (hbs : w0.heap.size ≤ b)
    (ho : GrM (W.setCell ⟨b, o, none⟩ v) (w0.heap.size + 1 + 1 + 1 + 1) rb' nv' uv' rv' g'') : DrG w0 nv uv rv nv' uv' rv' c x y z p B rb rb' g g'' (W.setCell ⟨b, o, none⟩ v) := by
  have hne : ∀ {k : Nat} {cs : Array Value} {T' : TypeId}, W.heap[k]? = some (.cells cs T' (0, 0)) → T' ≠ T → (W.setCell ⟨b, o, none⟩ v).heap[k]? = some (.cells cs T' (0, 0)) := fun {k cs T'} hk hT => by
    rw [setCell_other v (fun e => ?_)]
    · exact hk
    · subst e
      rw [hb] at hk
      injection hk with hk
      injection hk with _ hk
      exact hT hk.symm
  obtain ⟨q0, q1, q2, h3⟩ := h.b2
  obtain ⟨q3, q4, h4⟩ := h.b3
  have hbel := bset h.bel hbs v (o := o)
  exact ⟨hbel, hne h.b0 (Ne.symm hT.1), hne h.b1 (Ne.symm hT.2.1), ⟨_, _, _, hne h3 (Ne.symm hT.1)⟩, ⟨_, _, hne h4 (Ne.symm hT.2.2)⟩, h.hp, hne h.b6 (Ne.symm hT.1), hin.below hbel, ho⟩
theorem DrG.setU {ub n uc k : Nat} (h : DrG w0 nv uv rv nv' (.slice (some ⟨ub, 0, none⟩) n uc) rv' c x y z p B rb rb' g g' W) (hin : GrM w0 B rb nv uv rv g) (hk : k < g'.used.length) (b : Bool) :
    DrG w0 nv uv rv nv' (.slice (some ⟨ub, 0, none⟩) n uc) rv' c x y z p B rb rb' g { g' with used := g'.used.set k b } (W.setCell ⟨ub, k, none⟩ (.bool b)) := by
  obtain ⟨cs, hb⟩ := h.out.used.blk
  have := (h.out.used.lt ub rfl).1
  exact h.setO hin hb (by decide) (by omega) (h.out.setUsed hk b)
theorem DrG.setR {n rc k : Nat} (h : DrG w0 nv uv rv nv' uv' (.slice (some ⟨rb', 0, none⟩) n rc) c x y z p B rb rb' g g' W) (hin : GrM w0 B rb nv uv rv g) (hk : k < g'.roots.length) (i : Int) :
    DrG w0 nv uv rv nv' uv' (.slice (some ⟨rb', 0, none⟩) n rc) c x y z p B rb rb' g { g' with roots := g'.roots.set k i } (W.setCell ⟨rb', k, none⟩ (.int .i64 i)) := by
  obtain ⟨cs, hb⟩ := h.out.roots.blk
  have := (h.out.roots.lt rb' rfl).1
  exact h.setO hin hb (by decide) (by omega) (h.out.setRoots hk i)
end
/-- a graph with an entry of its table and its root written, as far as both have come up -/
def upG (g : Gr) (k : Nat) (b : Bool) (r : Int) (s1 s2 : Bool) : Gr := { g with used := if s1 then g.used.set k b else g.used, roots := if s2 then g.roots.set k r else g.roots }
theorem upG_ok {n : Nat} {g : Gr} (h : GrOk n g) {k : Nat} {b : Bool} {r : Int} (hr : b = true → 0 ≤ r ∧ r < g.nodes.length) (hk : k < 32) : GrOk n (upG g k b r true true) := by
  have hu := h.ul
  have hl := h.rl
  refine ⟨by simp [upG, hu], by simp [upG, hl], h.nl, fun i hi => ?_, h.node⟩
  simp only [upG, if_true, List.getD_eq_getElem?_getD] at hi ⊢
  rw [List.getElem?_set] at hi ⊢
  by_cases hik : k = i
  · subst hik
    simp [hu, hl, hk] at hi ⊢
    exact hr hi
  · rw [if_neg hik] at hi ⊢
    have := h.root i (by rw [List.getD_eq_getElem?_getD]; exact hi)
    rw [List.getD_eq_getElem?_getD] at this
    exact this
end Go.Proofs.Ytadoehlhfccacaa
