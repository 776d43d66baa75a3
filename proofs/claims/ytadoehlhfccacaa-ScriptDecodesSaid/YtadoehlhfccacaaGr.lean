/- The graph of the reference model in memory, all of it in blocks from B on: what a Go value of it reads as, and which graphs are valid. No condition. -/
import Derived.Test.YtadoehlhfccacaaApp
import Derived.Test.YtadoehlhfccacaaOpP
namespace Go.Proofs.Ytadoehlhfccacaa
open Go.RowKit

def u64E : El Int := flat 1 (fun x => [.int .u64 x]) fun _ => rfl
theorem boolS : SlT Try.prog 43 4 1 1 (.bool false) := ⟨Try.underlying43, by kernel_rfl, rfl, by decide⟩
theorem u64S : SlT Try.prog 62 51 1 8 (.int .u64 0) := ⟨Try.underlying62, by kernel_rfl, rfl, by decide⟩
theorem ndS : SlT Try.prog 42 64 2 48 (.agg #[.slice none 0 0, .slice none 0 0]) := ⟨Try.underlying42, by kernel_rfl, rfl, by decide⟩

structure Nd where
  refs : List Int
  data : List Int
/-- a node: its two slices are of blocks from B on, and its references lie in another block than rb -/
def ndE (B rb : Nat) : El Nd where
  sz := 2
  rel w x cs := ∃ a b, cs = [a, b] ∧ Own i64E w B 3 a x.refs ∧ Own u64E w B 51 b x.data ∧ a.ownBlock ≠ some rb
  len := by rintro w x cs ⟨a, b, rfl, _⟩; rfl
  keep := by rintro w w' x cs ⟨a, b, rfl, h1, h2, h3⟩ hk; exact ⟨a, b, rfl, h1.keep hk, h2.keep hk, h3⟩

structure Gr where
  nodes : List Nd
  used : List Bool
  roots : List Int
/-- the graph in memory -/
structure GrM (w : World) (B rb : Nat) (nv uv rv : Value) (g : Gr) : Prop where
  nodes : Own (ndE B rb) w B 64 nv g.nodes
  used : Own boolE w B 4 uv g.used
  roots : Own i64E w B 3 rv g.roots
  rb : rv.ownBlock = some rb
/-- what holds of every graph of at most n nodes -/
structure GrOk (n : Nat) (g : Gr) : Prop where
  ul : g.used.length = 32
  rl : g.roots.length = 32
  nl : g.nodes.length ≤ n
  root : ∀ i, g.used.getD i false = true → 0 ≤ g.roots.getD i 0 ∧ g.roots.getD i 0 < g.nodes.length
  node : ∀ x ∈ g.nodes, x.refs.length ≤ 15 ∧ x.data.length ≤ 32 ∧ ∀ r ∈ x.refs, -1 ≤ r ∧ r < g.nodes.length

theorem GrM.keep {w w' : World} {B rb : Nat} {nv uv rv : Value} {g : Gr} (h : GrM w B rb nv uv rv g) (hk : ∀ k, k < w.heap.size → w'.heap[k]? = w.heap[k]?) : GrM w' B rb nv uv rv g :=
  ⟨h.nodes.keep hk, h.used.keep hk, h.roots.keep hk, h.rb⟩
theorem GrM.below {w w' : World} {B rb : Nat} {nv uv rv : Value} {g : Gr} (h : GrM w B rb nv uv rv g) (hb : Below w.heap.size w w') : GrM w' B rb nv uv rv g := h.keep hb.block
theorem GrM.drew {w : World} {B rb : Nat} {nv uv rv : Value} {g : Gr} (h : GrM w B rb nv uv rv g) (n : Nat) : GrM (w.drewN n) B rb nv uv rv g := h.keep fun _ _ => rfl
theorem Own.mapE {α : Type} {E E' : El α} (hs : E.sz = E'.sz) {w : World} {B T : Nat} {v : Value} {xs : List α} (h : Own E w B T v xs) (he : ∀ x cs, x ∈ xs → E.rel w x cs → E'.rel w x cs) : Own E' w B T v xs := by
  obtain ⟨C, h1, h2⟩ := h
  refine ⟨C, by rw [← hs]; exact h1, fun i hi => ?_⟩
  rw [← hs]
  exact he _ _ (List.getElem_mem hi) (h2 i hi)
theorem Rd.mapE {α : Type} {E E' : El α} (hs : E.sz = E'.sz) {w : World} {v : Value} {xs : List α} (h : Rd E w v xs) (he : ∀ x cs, x ∈ xs → E.rel w x cs → E'.rel w x cs) : Rd E' w v xs := by
  obtain ⟨a, cap, h1, h2, h3, h4⟩ := h
  refine ⟨a, cap, h1, h2, h3, ?_⟩
  rcases h4 with h4 | ⟨b, off, h5, h6⟩
  · exact .inl h4
  · refine .inr ⟨b, off, h5, fun i hi => ?_⟩
    obtain ⟨cs, hr, hc⟩ := h6 i hi
    exact ⟨cs, he _ _ (List.getElem_mem hi) hr, by rw [← hs]; exact hc⟩
theorem GrM.base {w : World} {B B' rb : Nat} {nv uv rv : Value} {g : Gr} (h : GrM w B rb nv uv rv g) (hB : B' ≤ B) : GrM w B' rb nv uv rv g :=
  ⟨Own.mapE (E := ndE B rb) (E' := ndE B' rb) rfl (h.nodes.base hB) (fun _ _ _ ⟨a, b, h0, h1, h2, h3⟩ => ⟨a, b, h0, h1.base hB, h2.base hB, h3⟩), h.used.base hB, h.roots.base hB, h.rb⟩

/-- the forms of the three slices -/
theorem GrM.forms {w : World} {B rb : Nat} {nv uv rv : Value} {g : Gr} (h : GrM w B rb nv uv rv g) : ∃ na nc ua uc rc, nv = .slice na g.nodes.length nc ∧ uv = .slice ua g.used.length uc ∧ rv = .slice (some ⟨rb, 0, none⟩) g.roots.length rc := by
  obtain ⟨na, nc, h1⟩ := own_form h.nodes
  obtain ⟨ua, uc, h2⟩ := own_form h.used
  obtain ⟨C, ⟨_, hr⟩, _⟩ := h.roots
  rcases hr with ⟨h3, _⟩ | ⟨q, cap, cur, h3, _⟩
  · have := h.rb
    rw [h3] at this
    cases this
  · have := h.rb
    rw [h3] at this
    injection this with this
    change q = rb at this
    subst this
    exact ⟨na, nc, ua, uc, cap, h1, h2, h3⟩

/-- one cell of what is owned -/
theorem Own.at1 {α : Type} {f : α → List Value} {hf : ∀ x, (f x).length = 1} {w : World} {B T : Nat} {v : Value} {xs : List α} (h : Own (flat 1 f hf) w B T v xs) {k : Nat} (hk : k < xs.length) :
    ∃ g c, v = .slice (some ⟨g, 0, none⟩) xs.length c ∧ xs.length ≤ c ∧ c ≤ maxLen ∧ B ≤ g ∧ g < w.heap.size ∧ w.cell? ⟨g, k, none⟩ = (f xs[k])[0]? ∧ w.frozen? ⟨g, k, none⟩ = false := by
  have h0 := h
  obtain ⟨C, ⟨_, hr⟩, _⟩ := h
  rcases hr with ⟨_, h3⟩ | ⟨q, cap, cur, rfl, _, _, h4, h5, _⟩
  · omega
  · obtain ⟨h1, h2, h6, h7, _⟩ := Own.set1 h0 k hk
    exact ⟨q, cap, rfl, h4, h5, h1, h2, h6, h7⟩
end Go.Proofs.Ytadoehlhfccacaa
