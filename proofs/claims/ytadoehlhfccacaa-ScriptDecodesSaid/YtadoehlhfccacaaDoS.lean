/- What stands throughout the reference model's Do, and how it returns. -/
import Derived.Test.YtadoehlhfccacaaGrV
import Derived.Deep.CutBlock
namespace Go.Proofs.Ytadoehlhfccacaa
open Go.RowKit

/-- what an operation gives: a valid graph, of one node more at most, and an answer -/
def DoPost (w : World) (B n : Nat) (e : Ending) (w' : World) : Prop := ∃ (rb : Nat) (nv uv rv : Value) (g : Gr) (a1 a2 : Int),
  e = .returned (.tuple #[.agg #[nv, uv, rv], .agg #[.int .i64 a1, .int .u64 a2]]) ∧ GrM w' B rb nv uv rv g ∧ GrOk (n + 1) g ∧ Below w.heap.size w w'
theorem GrOk.more {n m : Nat} {g : Gr} (h : GrOk n g) (hm : n ≤ m) : GrOk m g := ⟨h.ul, h.rl, Nat.le_trans h.nl hm, h.root, h.node⟩

/-- the boxes: the graph that came in, the operation, the two results, the copy -/
structure DoSt (w0 : World) (nv uv rv nv' uv' rv' : Value) (c x y z : Int) (p : Nat) (W : World) : Prop where
  bel : Below w0.heap.size w0 W
  b0 : W.heap[w0.heap.size]? = some (.cells #[nv, uv, rv] 45 (0, 0))
  b1 : W.heap[w0.heap.size + 1]? = some (.cells #[.int .i64 c, .int .i64 x, .int .i64 y, .int .i64 z] 35 (0, 0))
  b2 : W.heap[w0.heap.size + 1 + 1]? = some (.cells #[.slice none 0 0, .slice none 0 0, .slice none 0 0] 45 (0, 0))
  b3 : W.heap[w0.heap.size + 1 + 1 + 1]? = some (.cells #[.int .i64 0, .int .u64 0] 53 (0, 0))
  hp : w0.heap.size + 1 + 1 + 1 + 1 ≤ p
  b6 : W.heap[p]? = some (.cells #[nv', uv', rv'] 45 (0, 0))
section
variable {w0 W W' : World} {nv uv rv nv' uv' rv' : Value} {c x y z : Int} {p : Nat}
theorem DoSt.keep (h : DoSt w0 nv uv rv nv' uv' rv' c x y z p W) (hb : Below W.heap.size W W') : DoSt w0 nv uv rv nv' uv' rv' c x y z p W' :=
  ⟨h.bel.trans (hb.mono h.bel.size), below_block hb (block_lt h.b0) h.b0, below_block hb (block_lt h.b1) h.b1, below_block hb (block_lt h.b2) h.b2, below_block hb (block_lt h.b3) h.b3, h.hp, below_block hb (block_lt h.b6) h.b6⟩
theorem DoSt.s6 (h : DoSt w0 nv uv rv nv' uv' rv' c x y z p W) : p < W.heap.size := block_lt h.b6
theorem DoSt.s3 (h : DoSt w0 nv uv rv nv' uv' rv' c x y z p W) : w0.heap.size + 1 + 1 + 1 < W.heap.size := block_lt h.b3
theorem DoSt.g0 (h : DoSt w0 nv uv rv nv' uv' rv' c x y z p W) : W.cell? ⟨w0.heap.size, 0, none⟩ = some nv := by rw [cell_block h.b0]; rfl
theorem DoSt.g1 (h : DoSt w0 nv uv rv nv' uv' rv' c x y z p W) : W.cell? ⟨w0.heap.size, 1, none⟩ = some uv := by rw [cell_block h.b0]; rfl
theorem DoSt.g2 (h : DoSt w0 nv uv rv nv' uv' rv' c x y z p W) : W.cell? ⟨w0.heap.size, 2, none⟩ = some rv := by rw [cell_block h.b0]; rfl
theorem DoSt.o0 (h : DoSt w0 nv uv rv nv' uv' rv' c x y z p W) : W.cell? ⟨w0.heap.size + 1, 0, none⟩ = some (.int .i64 c) := by rw [cell_block h.b1]; rfl
theorem DoSt.o1 (h : DoSt w0 nv uv rv nv' uv' rv' c x y z p W) : W.cell? ⟨w0.heap.size + 1, 1, none⟩ = some (.int .i64 x) := by rw [cell_block h.b1]; rfl
theorem DoSt.o2 (h : DoSt w0 nv uv rv nv' uv' rv' c x y z p W) : W.cell? ⟨w0.heap.size + 1, 2, none⟩ = some (.int .i64 y) := by rw [cell_block h.b1]; rfl
theorem DoSt.o3 (h : DoSt w0 nv uv rv nv' uv' rv' c x y z p W) : W.cell? ⟨w0.heap.size + 1, 3, none⟩ = some (.int .i64 z) := by rw [cell_block h.b1]; rfl
theorem DoSt.r0 (h : DoSt w0 nv uv rv nv' uv' rv' c x y z p W) : W.cell? ⟨w0.heap.size + 1 + 1, 0, none⟩ = some (.slice none 0 0) ∧ W.frozen? ⟨w0.heap.size + 1 + 1, 0, none⟩ = false := ⟨by rw [cell_block h.b2]; rfl, frozen_block h.b2⟩
theorem DoSt.r1 (h : DoSt w0 nv uv rv nv' uv' rv' c x y z p W) : W.cell? ⟨w0.heap.size + 1 + 1, 1, none⟩ = some (.slice none 0 0) ∧ W.frozen? ⟨w0.heap.size + 1 + 1, 1, none⟩ = false := ⟨by rw [cell_block h.b2]; rfl, frozen_block h.b2⟩
theorem DoSt.r2 (h : DoSt w0 nv uv rv nv' uv' rv' c x y z p W) : W.cell? ⟨w0.heap.size + 1 + 1, 2, none⟩ = some (.slice none 0 0) ∧ W.frozen? ⟨w0.heap.size + 1 + 1, 2, none⟩ = false := ⟨by rw [cell_block h.b2]; rfl, frozen_block h.b2⟩
theorem DoSt.q0 (h : DoSt w0 nv uv rv nv' uv' rv' c x y z p W) : W.cell? ⟨w0.heap.size + 1 + 1 + 1, 0, none⟩ = some (.int .i64 0) ∧ W.frozen? ⟨w0.heap.size + 1 + 1 + 1, 0, none⟩ = false := ⟨by rw [cell_block h.b3]; rfl, frozen_block h.b3⟩
theorem DoSt.q1 (h : DoSt w0 nv uv rv nv' uv' rv' c x y z p W) : W.cell? ⟨w0.heap.size + 1 + 1 + 1, 1, none⟩ = some (.int .u64 0) ∧ W.frozen? ⟨w0.heap.size + 1 + 1 + 1, 1, none⟩ = false := ⟨by rw [cell_block h.b3]; rfl, frozen_block h.b3⟩
theorem DoSt.p0 (h : DoSt w0 nv uv rv nv' uv' rv' c x y z p W) : W.cell? ⟨p, 0, none⟩ = some nv' ∧ W.frozen? ⟨p, 0, none⟩ = false := ⟨by rw [cell_block h.b6]; rfl, frozen_block h.b6⟩
theorem DoSt.p1 (h : DoSt w0 nv uv rv nv' uv' rv' c x y z p W) : W.cell? ⟨p, 1, none⟩ = some uv' := by rw [cell_block h.b6]; rfl
theorem DoSt.p2 (h : DoSt w0 nv uv rv nv' uv' rv' c x y z p W) : W.cell? ⟨p, 2, none⟩ = some rv' := by rw [cell_block h.b6]; rfl
end

/-- the world behind the two results' stores -/
def resW (b2 b3 : Nat) (W : World) (v0 v1 v2 u0 u1 : Value) : World := ((((W.setCell ⟨b2, 0, none⟩ v0).setCell ⟨b2, 1, none⟩ v1).setCell ⟨b2, 2, none⟩ v2).setCell ⟨b3, 0, none⟩ u0).setCell ⟨b3, 1, none⟩ u1
theorem set2_block' {w : World} {b : Nat} {T : TypeId} {z0 z1 : Value} (h : w.heap[b]? = some (.cells #[z0, z1] T (0, 0))) (v0 v1 : Value) :
    ((w.setCell ⟨b, 0, none⟩ v0).setCell ⟨b, 1, none⟩ v1).heap[b]? = some (.cells #[v0, v1] T (0, 0)) := by
  rw [setCell_block (setCell_block h _) _]; simp
/-- blocks of graphs' boxes and of answers' boxes alone may change -/
def Gc (W W' : World) : Prop := ∀ (k : Nat) (o : Obj), W.heap[k]? = some o → (∀ cs, o ≠ .cells cs 45 (0, 0)) → (∀ cs, o ≠ .cells cs 53 (0, 0)) → W'.heap[k]? = some o
theorem Gc.refl (W : World) : Gc W W := fun _ _ h _ _ => h
theorem Gc.set {W W' : World} {b o : Nat} {cs : Array Value} {T : TypeId} (hg : Gc W W') (h : W.heap[b]? = some (.cells cs T (0, 0))) (hT : T = 45 ∨ T = 53) (v : Value) : Gc W (W'.setCell ⟨b, o, none⟩ v) := by
  intro k x hx h1 h2
  rw [setCell_other v (fun e => ?_)]
  · exact hg k x hx h1 h2
  · subst e
    rw [h] at hx
    injection hx with hx
    subst hx
    rcases hT with rfl | rfl
    · exact h1 _ rfl
    · exact h2 _ rfl
theorem Own.gc {α : Type} {E : El α} {W W' : World} {B T : Nat} {v : Value} {xs : List α} (h : Own E W B T v xs) (hg : Gc W W') (h1 : T ≠ 45) (h2 : T ≠ 53) (hr : ∀ x cs, E.rel W x cs → E.rel W' x cs) : Own E W' B T v xs := by
  obtain ⟨C, ⟨h3, h4⟩, hel⟩ := h
  refine ⟨C, ⟨h3, ?_⟩, fun i hi => hr _ _ (hel i hi)⟩
  rcases h4 with h4 | ⟨g, cap, cur, hv, hB, hh, r⟩
  · exact .inl h4
  · exact .inr ⟨g, cap, cur, hv, hB, hg g _ hh (fun cs e => by injection e with _ e; exact h1 e) (fun cs e => by injection e with _ e; exact h2 e), r⟩
theorem ndE_gc {N rb : Nat} {W W' : World} (hg : Gc W W') : ∀ x cs, (ndE N rb).rel W x cs → (ndE N rb).rel W' x cs := by
  rintro x cs ⟨a, b, rfl, h1, h2, h3⟩
  exact ⟨a, b, rfl, h1.gc hg (by decide) (by decide) (fun _ _ e => e), h2.gc hg (by decide) (by decide) (fun _ _ e => e), h3⟩
theorem GrM.gc {W W' : World} {B rb : Nat} {nv uv rv : Value} {g : Gr} (h : GrM W B rb nv uv rv g) (hg : Gc W W') : GrM W' B rb nv uv rv g :=
  ⟨h.nodes.gc hg (by decide) (by decide) (ndE_gc hg), h.used.gc hg (by decide) (by decide) (fun _ _ e => e), h.roots.gc hg (by decide) (by decide) (fun _ _ e => e), h.rb⟩

/-- THE RETURN: the two results hold a graph and an answer -/
theorem do_fin {w0 W : World} {B n : Nat} {rb : Nat} {nv uv rv : Value} {g : Gr} {a1 a2 : Int} {a : Act}
    (hb : Below w0.heap.size w0 W) (k5 : W.heap[w0.heap.size + 1 + 1]? = some (.cells #[nv, uv, rv] 45 (0, 0))) (k4 : W.heap[w0.heap.size + 1 + 1 + 1]? = some (.cells #[.int .i64 a1, .int .u64 a2] 53 (0, 0)))
    (hm : GrM W B rb nv uv rv g) (hok : GrOk (n + 1) g)
    (h4 : a.tmps[4]? = some (.pointer (some ⟨w0.heap.size + 1 + 1, 0, none⟩))) (h5 : a.tmps[5]? = some (.pointer (some ⟨w0.heap.size + 1 + 1 + 1, 0, none⟩))) (hd : a.defers = []) :
    bodyPost Try.prog Try.f22 (DoPost w0 B n) Exit.ret a W := by
  have e0 : W.cell? ⟨w0.heap.size + 1 + 1, 0, none⟩ = some nv := by rw [cell_block k5]; rfl
  have e1 : W.cell? ⟨w0.heap.size + 1 + 1, 1, none⟩ = some uv := by rw [cell_block k5]; rfl
  have e2 : W.cell? ⟨w0.heap.size + 1 + 1, 2, none⟩ = some rv := by rw [cell_block k5]; rfl
  have f0 : W.cell? ⟨w0.heap.size + 1 + 1 + 1, 0, none⟩ = some (.int .i64 a1) := by rw [cell_block k4]; rfl
  have f1 : W.cell? ⟨w0.heap.size + 1 + 1 + 1, 1, none⟩ = some (.int .u64 a2) := by rw [cell_block k4]; rfl
  obtain ⟨na, nc, ua, uc, rc, rfl, rfl, rfl⟩ := hm.forms
  exact bodyPost_ret (v := .tuple #[.agg #[_, _, _], .agg #[.int .i64 a1, .int .u64 a2]]) (by simp [results, Try.results22, go_sem, h4, h5, e0, e1, e2, f0, f1]) hd ⟨rb, _, _, _, g, a1, a2, rfl, hm, hok, hb⟩
/-- THE RETURN: behind the stores of a graph and an answer into the two results -/
theorem do_ret {w0 W : World} {B n : Nat} {rb : Nat} {nv uv rv : Value} {g : Gr} {a1 a2 : Int} {a : Act} {z0 z1 z2 y0 y1 : Value}
    (hb : Below w0.heap.size w0 W) (h2 : W.heap[w0.heap.size + 1 + 1]? = some (.cells #[z0, z1, z2] 45 (0, 0))) (h3 : W.heap[w0.heap.size + 1 + 1 + 1]? = some (.cells #[y0, y1] 53 (0, 0)))
    (hm : GrM W B rb nv uv rv g) (hok : GrOk (n + 1) g)
    (h4 : a.tmps[4]? = some (.pointer (some ⟨w0.heap.size + 1 + 1, 0, none⟩))) (h5 : a.tmps[5]? = some (.pointer (some ⟨w0.heap.size + 1 + 1 + 1, 0, none⟩))) (hd : a.defers = []) :
    bodyPost Try.prog Try.f22 (DoPost w0 B n) Exit.ret a (resW (w0.heap.size + 1 + 1) (w0.heap.size + 1 + 1 + 1) W nv uv rv (.int .i64 a1) (.int .u64 a2)) := by
  have k2 := set3_block h2 nv uv rv
  have k3 : (((W.setCell ⟨w0.heap.size + 1 + 1, 0, none⟩ nv).setCell ⟨w0.heap.size + 1 + 1, 1, none⟩ uv).setCell ⟨w0.heap.size + 1 + 1, 2, none⟩ rv).heap[w0.heap.size + 1 + 1 + 1]? = some (.cells #[y0, y1] 53 (0, 0)) := by
    rw [setCell_other _ (by omega), setCell_other _ (by omega), setCell_other _ (by omega)]; exact h3
  have k4 := set2_block' k3 (.int .i64 a1) (.int .u64 a2)
  have k5 : (resW (w0.heap.size + 1 + 1) (w0.heap.size + 1 + 1 + 1) W nv uv rv (.int .i64 a1) (.int .u64 a2)).heap[w0.heap.size + 1 + 1]? = some (.cells #[nv, uv, rv] 45 (0, 0)) := by
    unfold resW
    rw [setCell_other _ (by omega), setCell_other _ (by omega)]; exact k2
  have gc : Gc W (resW (w0.heap.size + 1 + 1) (w0.heap.size + 1 + 1 + 1) W nv uv rv (.int .i64 a1) (.int .u64 a2)) :=
    ((((((Gc.refl W).set h2 (.inl rfl) _).set h2 (.inl rfl) _).set h2 (.inl rfl) _).set h3 (.inr rfl) _).set h3 (.inr rfl) _)
  have hbel : Below w0.heap.size w0 (resW (w0.heap.size + 1 + 1) (w0.heap.size + 1 + 1 + 1) W nv uv rv (.int .i64 a1) (.int .u64 a2)) :=
    bset (bset (bset (bset (bset hb (by omega) _) (by omega) _) (by omega) _) (by omega) _) (by omega) _
  have k4 : (resW (w0.heap.size + 1 + 1) (w0.heap.size + 1 + 1 + 1) W nv uv rv (.int .i64 a1) (.int .u64 a2)).heap[w0.heap.size + 1 + 1 + 1]? = some (.cells #[.int .i64 a1, .int .u64 a2] 53 (0, 0)) := k4
  exact do_fin hbel k5 k4 (hm.gc gc) hok h4 h5 hd
end Go.Proofs.Ytadoehlhfccacaa
