/- A store into a node of a graph: a graph as valid as before is read. -/
import Derived.Test.YtadoehlhfccacaaReg5
namespace Go.Proofs.Ytadoehlhfccacaa
open Go.RowKit

theorem GrM.renode {W W' : World} {B rb n : Nat} {nv uv rv : Value} {g : Gr} (h : GrM W B rb nv uv rv g) (hok : GrOk n g)
    (hm : ∀ (q : Nat) (cs : Array Value), W.heap[q]? = some (.cells cs 64 (0, 0)) → W'.heap[q]? = some (.cells cs 64 (0, 0)))
    (hu : Own boolE W' B 4 uv g.used) (hr : Own i64E W' B 3 rv g.roots)
    (hk : ∀ x ∈ g.nodes, ∀ cs, (ndE B rb).rel W x cs → ∃ x', (ndE B rb).rel W' x' cs ∧ x'.refs.length = x.refs.length ∧ x'.data.length = x.data.length ∧ ∀ r ∈ x'.refs, r ∈ x.refs ∨ (-1 ≤ r ∧ r < g.nodes.length)) :
    ∃ g', GrM W' B rb nv uv rv g' ∧ GrOk n g' ∧ g'.nodes.length = g.nodes.length ∧ g'.used = g.used ∧ g'.roots = g.roots := by
  obtain ⟨C, ⟨h1, h2⟩, hel⟩ := h.nodes
  have key : ∀ i : Fin g.nodes.length, ∃ x', (ndE B rb).rel W' x' ((C.drop (i * 2)).take 2) ∧ x'.refs.length = (g.nodes[i]).refs.length ∧ x'.data.length = (g.nodes[i]).data.length ∧ ∀ r ∈ x'.refs, r ∈ (g.nodes[i]).refs ∨ (-1 ≤ r ∧ r < g.nodes.length) :=
    fun i => hk _ (List.getElem_mem i.2) _ (hel i i.2)
  have hl : (List.ofFn fun i => (key i).choose).length = g.nodes.length := by simp
  refine ⟨⟨List.ofFn fun i => (key i).choose, g.used, g.roots⟩, ⟨⟨C, ⟨by rw [hl]; exact h1, ?_⟩, fun i hi => ?_⟩, hu, hr, h.rb⟩, ⟨hok.ul, hok.rl, by rw [hl]; exact hok.nl, fun i hi => ?_, fun x hx => ?_⟩, hl, rfl, rfl⟩
  · rw [hl]
    rcases h2 with h2 | ⟨q, cap, cur, hv, hB, hh, r⟩
    · exact .inl h2
    · exact .inr ⟨q, cap, cur, hv, hB, hm q _ hh, r⟩
  · have hi' : i < g.nodes.length := by rw [hl] at hi; exact hi
    rw [List.getElem_ofFn]
    exact (key ⟨i, hi'⟩).choose_spec.1
  · rw [hl]; exact hok.root i hi
  · rw [List.mem_ofFn] at hx
    obtain ⟨i, rfl⟩ := hx
    obtain ⟨_, s1, s2, s3⟩ := (key i).choose_spec
    obtain ⟨o1, o2, o3⟩ := hok.node _ (List.getElem_mem i.2)
    refine ⟨by rw [s1]; exact o1, by rw [s2]; exact o2, fun r hr => ?_⟩
    rw [hl]
    rcases s3 r hr with h | h
    · exact o3 r h
    · exact h

/-- the references of a node lie in another block than the roots -/
theorem GrM.node_ne {w : World} {B rb n nc q : Nat} {uv rv xa : Value} {g : Gr} (h : GrM w B rb (.slice (some ⟨q, 0, none⟩) n nc) uv rv g) {k : Nat} (hk : k < g.nodes.length) (hc : w.cell? ⟨q, k * 2, none⟩ = some xa) : xa.ownBlock ≠ some rb := by
  obtain ⟨a', c', e, _, _, hf⟩ := h.nodes.rd
  rcases hf with hf | ⟨b', off', e2, hf⟩
  · rw [hf] at hk; simp at hk
  · simp only [Value.slice.injEq] at e
    rw [← e.1] at e2
    simp only [Option.some.injEq, Addr.mk.injEq, and_true] at e2
    obtain ⟨rfl, rfl⟩ := e2
    obtain ⟨cs, ⟨a, b, rfl, _, _, hne⟩, hcs⟩ := hf k hk
    have c0 := hcs 0 (show 0 < 2 by decide)
    have c1 : w.cell? ⟨q, k * 2, none⟩ = some a := by simpa [ndE] using c0
    rw [hc] at c1
    injection c1 with c1
    rw [c1]
    exact hne
theorem GrM.setData {W : World} {B rb n b o : Nat} {nv uv rv : Value} {g : Gr} {cs : Array Value} (h : GrM W B rb nv uv rv g) (hok : GrOk n g) (hb : W.heap[b]? = some (.cells cs 51 (0, 0))) (v : Int) :
    ∃ g', GrM (W.setCell ⟨b, o, none⟩ (.int .u64 v)) B rb nv uv rv g' ∧ GrOk n g' ∧ g'.nodes.length = g.nodes.length ∧ g'.used = g.used ∧ g'.roots = g.roots := by
  refine h.renode hok (fun q cs' hq => ?_) (h.used.setT hb (by decide)) (h.roots.setT hb (by decide)) ?_
  · rw [setCell_other _ (ne_ty hq hb (by decide))]; exact hq
  · rintro x hx cs' ⟨a, d, rfl, h3, h4, h5⟩
    obtain ⟨d', e1, e2, e3⟩ := h4.set_kind (b := b) (o := o) v rfl
    exact ⟨⟨x.refs, d'⟩, ⟨a, d, rfl, h3.setT hb (by decide), e3, h5⟩, rfl, e1, fun r hr => .inl hr⟩
theorem GrM.setRefs {W : World} {B rb n b o : Nat} {nv uv rv : Value} {g : Gr} {cs : Array Value} (h : GrM W B rb nv uv rv g) (hok : GrOk n g) (hb : W.heap[b]? = some (.cells cs 3 (0, 0))) (hne : b ≠ rb) (v : Int) (hv : -1 ≤ v ∧ v < g.nodes.length) :
    ∃ g', GrM (W.setCell ⟨b, o, none⟩ (.int .i64 v)) B rb nv uv rv g' ∧ GrOk n g' ∧ g'.nodes.length = g.nodes.length ∧ g'.used = g.used ∧ g'.roots = g.roots := by
  refine h.renode hok (fun q cs' hq => ?_) (h.used.setT hb (by decide)) (h.roots.set_other (by rw [h.rb]; intro e; injection e with e; exact hne e)) ?_
  · rw [setCell_other _ (ne_ty hq hb (by decide))]; exact hq
  · rintro x hx cs' ⟨a, d, rfl, h3, h4, h5⟩
    obtain ⟨r', e1, e2, e3⟩ := h3.set_kind (b := b) (o := o) v rfl
    refine ⟨⟨r', x.data⟩, ⟨a, d, rfl, e3, h4.setT hb (by decide), h5⟩, e1, rfl, fun r hr => ?_⟩
    rcases e2 r hr with h | rfl
    · exact .inl h
    · exact .inr hv

/-- of every world in a region that writes a node of the copy: as the world before it till the store, and a valid graph -/
def WrG (w0 : World) (nv uv rv nv' uv' rv' : Value) (c x y z : Int) (p B rb rb' n : Nat) (g : Gr) (V0 : World) (done : Bool) (W : World) : Prop := ∃ g', DrG w0 nv uv rv nv' uv' rv' c x y z p B rb rb' g g' W ∧ GrOk n g' ∧ (done = false → g' = g ∧ Gw V0 W ∧ V0.heap.size ≤ W.heap.size)
section
variable {w0 V0 W W' : World} {nv uv rv nv' uv' rv' : Value} {c x y z : Int} {p B rb rb' n : Nat} {g : Gr}
theorem WrG.st (h : WrG w0 nv uv rv nv' uv' rv' c x y z p B rb rb' n g V0 false W) : DrG w0 nv uv rv nv' uv' rv' c x y z p B rb rb' g g W ∧ Gw V0 W ∧ V0.heap.size ≤ W.heap.size := by
  obtain ⟨g', h1, _, h3⟩ := h
  obtain ⟨rfl, h4⟩ := h3 rfl
  exact ⟨h1, h4⟩
theorem WrG.keep (h : WrG w0 nv uv rv nv' uv' rv' c x y z p B rb rb' n g V0 false W) (hb : Below W.heap.size W W') : WrG w0 nv uv rv nv' uv' rv' c x y z p B rb rb' n g V0 false W' := by
  obtain ⟨g', h1, h2, h3⟩ := h
  obtain ⟨rfl, h4, h5⟩ := h3 rfl
  exact ⟨g', h1.keep hb, h2, fun _ => ⟨rfl, fun k hk => by rw [hb.block k (Nat.lt_of_lt_of_le hk h5)]; exact h4 k hk, Nat.le_trans h5 hb.size⟩⟩
theorem WrG.data {b o : Nat} {cs : Array Value} (h : WrG w0 nv uv rv nv' uv' rv' c x y z p B rb rb' n g V0 false W) (hin : GrM w0 B rb nv uv rv g) (hb : W.heap[b]? = some (.cells cs 51 (0, 0))) (hbs : w0.heap.size ≤ b) (v : Int) : WrG w0 nv uv rv nv' uv' rv' c x y z p B rb rb' n g V0 true (W.setCell ⟨b, o, none⟩ (.int .u64 v)) := by
  obtain ⟨g', h1, h2, _⟩ := h
  obtain ⟨g'', m1, m2, _⟩ := h1.out.setData (o := o) h2 hb v
  exact ⟨g'', h1.setO hin hb (by decide) hbs m1, m2, fun h => by cases h⟩
theorem WrG.refs {b o : Nat} {cs : Array Value} (h : WrG w0 nv uv rv nv' uv' rv' c x y z p B rb rb' n g V0 false W) (hin : GrM w0 B rb nv uv rv g) (hb : W.heap[b]? = some (.cells cs 3 (0, 0))) (hbs : w0.heap.size ≤ b) (hne : b ≠ rb') (v : Int) (hv : -1 ≤ v ∧ v < g.nodes.length) : WrG w0 nv uv rv nv' uv' rv' c x y z p B rb rb' n g V0 true (W.setCell ⟨b, o, none⟩ (.int .i64 v)) := by
  obtain ⟨g', h1, h2, h3⟩ := h
  obtain ⟨rfl, _⟩ := h3 rfl
  obtain ⟨g'', m1, m2, _⟩ := h1.out.setRefs (o := o) h2 hb hne v hv
  exact ⟨g'', h1.setO hin hb (by decide) hbs m1, m2, fun h => by cases h⟩
end
end Go.Proofs.Ytadoehlhfccacaa
