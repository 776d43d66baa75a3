/- The frame behind a region: the slots that it writes hold something, the others are as they were. -/
import Derived.Test.YtadoehlhfccacaaDoR
namespace Go.Proofs.Ytadoehlhfccacaa
open Go.RowKit

def setAll (l : List Value) : List (Nat × Value) → List Value
  | [] => l
  | (k, u) :: ps => (setAll l ps).set k u
theorem setAll_length (l : List Value) (ps : List (Nat × Value)) : (setAll l ps).length = l.length := by
  induction ps with
  | nil => rfl
  | cons p ps ih => obtain ⟨k, u⟩ := p; simp [setAll, ih]
theorem setAll_get (l : List Value) (S : List Nat) (f : Nat → Value) (k : Nat) : (setAll l (S.map fun k => (k, f k)))[k]? = if k ∈ S ∧ k < l.length then some (f k) else l[k]? := by
  induction S with
  | nil => simp [setAll]
  | cons s S ih =>
    simp only [List.map_cons, setAll, List.getElem?_set, setAll_length]
    by_cases hs : s = k
    · subst hs
      by_cases hl : s < l.length
      · simp [hl]
      · simp [hl]
    · rw [if_neg hs, ih]
      have : (k ∈ s :: S) ↔ k ∈ S := by simp [Ne.symm hs]
      simp only [this]

theorem RFacts2.frameS {ops : Array Oper} {a0 : Act} {G : (Nat → Bool) → World → Prop} {F : Nat → Act → World → Prop} {L : Array Bool} {a : Act} {w : World} (h : RFacts2 ops a0 G F L a w) {l : List Value} {ds : List Deferred} (ha : a0 = ⟨l.toArray, ds⟩) (S : List Nat)
    (hw : ∀ k, k ∉ S → writes ops k = false) : ∃ f : Nat → Value, a = ⟨(setAll l (S.map fun k => (k, f k))).toArray, ds⟩ ∧ ∀ k, k ∈ S → k < l.length → a.tmps[k]? = some (f k) := by
  subst ha
  have hs := h.size
  have hd := h.defers
  have ho := h.out
  obtain ⟨t, d⟩ := a
  simp at hs hd ho
  subst hd
  refine ⟨fun k => t.getD k undef, ?_, fun k _ hk => ?_⟩
  · congr 1
    apply Array.ext'
    apply List.ext_getElem?
    intro k
    rw [setAll_get]
    split
    · rename_i hk
      have hk2 : k < t.size := by omega
      simp [Array.getD, hk2]
    · rename_i hk
      by_cases hk1 : k ∈ S
      · have h1 : ¬ k < l.length := fun h2 => hk ⟨hk1, h2⟩
        rw [List.getElem?_eq_none (by simp; omega), List.getElem?_eq_none (by omega)]
      · have := ho k (hw k hk1)
        simpa using this
  · have hk2 : k < t.size := by omega
    simp [Array.getD, hk2]

/-- blocks of nodes alone may change -/
def Gn (W W' : World) : Prop := W.heap.size ≤ W'.heap.size ∧ ∀ (k : Nat) (o : Obj), W.heap[k]? = some o → W'.heap[k]? = some o ∨ ∃ z0 z1 y0 y1, o = .cells #[z0, z1] 64 (0, 0) ∧ W'.heap[k]? = some (.cells #[y0, y1] 64 (0, 0))
theorem Gn.of_gw {W W' : World} (hs : W.heap.size ≤ W'.heap.size) (h : Gw W W') : Gn W W' := ⟨hs, fun k _ ho => .inl (by rw [h k (block_lt ho)]; exact ho)⟩
theorem Gn.set {W : World} {b o : Nat} {z0 z1 : Value} (h : W.heap[b]? = some (.cells #[z0, z1] 64 (0, 0))) (v : Value) : Gn W (W.setCell ⟨b, o, none⟩ v) := by
  refine ⟨by rw [setCell_size]; exact Nat.le_refl _, fun k x hx => ?_⟩
  by_cases hk : k = b
  · subst hk
    rw [h] at hx
    injection hx with hx
    refine .inr ⟨z0, z1, ?_⟩
    rw [setCell_block h]
    rcases o with _ | _ | o
    · exact ⟨v, z1, hx.symm, rfl⟩
    · exact ⟨z0, v, hx.symm, rfl⟩
    · exact ⟨z0, z1, hx.symm, by simp⟩
  · exact .inl (by rw [setCell_other v hk]; exact hx)
theorem Gn.trans {A B C : World} (h : Gn A B) (k : Gn B C) : Gn A C := by
  refine ⟨Nat.le_trans h.1 k.1, fun i o ho => ?_⟩
  rcases h.2 i o ho with h | ⟨z0, z1, y0, y1, h1, h2⟩
  · exact k.2 i o h
  · rcases k.2 i _ h2 with k | ⟨_, _, x0, x1, _, k⟩
    · exact .inr ⟨z0, z1, _, _, h1, k⟩
    · exact .inr ⟨z0, z1, _, _, h1, k⟩
theorem Own.set_other {α : Type} {sz : Nat} {f : α → List Value} {hf : ∀ x, (f x).length = sz} {W : World} {B T b o : Nat} {v u : Value} {xs : List α} (h : Own (flat sz f hf) W B T v xs) (hb : some b ≠ v.ownBlock) : Own (flat sz f hf) (W.setCell ⟨b, o, none⟩ u) B T v xs := by
  refine h.kept (row := some b) (grown_set u) ?_ (fun _ _ e => e)
  exact .inr (fun e => hb e.symm)
/-- a store into a node's block that is none of the graph's own -/
theorem GrM.set_node {W : World} {B rb : Nat} {nv uv rv : Value} {g : Gr} {b o : Nat} {z0 z1 v : Value} (h : GrM W B rb nv uv rv g) (hb : W.heap[b]? = some (.cells #[z0, z1] 64 (0, 0))) (hne : some b ≠ nv.ownBlock) : GrM (W.setCell ⟨b, o, none⟩ v) B rb nv uv rv g := by
  have ht : ∀ {α : Type} {sz : Nat} {f : α → List Value} {hf : ∀ x, (f x).length = sz} {T : TypeId} {v' : Value} {xs : List α}, T ≠ 64 → Own (flat sz f hf) W B T v' xs → Own (flat sz f hf) (W.setCell ⟨b, o, none⟩ v) B T v' xs := fun hT h => h.setT hb hT
  refine ⟨?_, ht (by decide) h.used, ht (by decide) h.roots, h.rb⟩
  obtain ⟨C, ⟨h1, h2⟩, hel⟩ := h.nodes
  refine ⟨C, ⟨h1, ?_⟩, fun i hi => ?_⟩
  · rcases h2 with h2 | ⟨q, cap, cur, hv, hB, hh, r⟩
    · exact .inl h2
    · refine .inr ⟨q, cap, cur, hv, hB, ?_, r⟩
      rw [setCell_other v (fun e => hne (by subst e; rw [hv]; rfl))]
      exact hh
  · obtain ⟨a, b', e, h3, h4, h5⟩ := hel i hi
    exact ⟨a, b', e, ht (by decide) h3, ht (by decide) h4, h5⟩
section
variable {w0 W W' : World} {nv uv rv nv' uv' rv' : Value} {c x y z : Int} {p B rb rb' : Nat} {g g' : Gr}
theorem DrG.set_node {b o : Nat} {z0 z1 v : Value} (h : DrG w0 nv uv rv nv' uv' rv' c x y z p B rb rb' g g' W) (hb : W.heap[b]? = some (.cells #[z0, z1] 64 (0, 0))) (h1 : some b ≠ nv.ownBlock) (h2 : some b ≠ nv'.ownBlock) (hbs : w0.heap.size ≤ b) : DrG w0 nv uv rv nv' uv' rv' c x y z p B rb rb' g g' (W.setCell ⟨b, o, none⟩ v) := by
  have hne : ∀ {k : Nat} {cs : Array Value} {T : TypeId}, W.heap[k]? = some (.cells cs T (0, 0)) → T ≠ 64 → (W.setCell ⟨b, o, none⟩ v).heap[k]? = some (.cells cs T (0, 0)) := fun {k cs T} hk hT => by
    rw [setCell_other v (fun e => ?_)]
    · exact hk
    · subst e
      rw [hb] at hk
      injection hk with hk
      injection hk with _ hk
      exact hT hk.symm
  obtain ⟨q0, q1, q2, h3⟩ := h.b2
  obtain ⟨q3, q4, h4⟩ := h.b3
  exact ⟨bset h.bel hbs v, hne h.b0 (by decide), hne h.b1 (by decide), ⟨_, _, _, hne h3 (by decide)⟩, ⟨_, _, hne h4 (by decide)⟩, h.hp, hne h.b6 (by decide), h.ins.set_node hb h1, h.out.set_node hb h2⟩
end
end Go.Proofs.Ytadoehlhfccacaa
