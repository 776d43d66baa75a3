/- What stands throughout one drawn operation. -/
import Derived.Test.YtadoehlhfccacaaOpH

import Derived.Test.YtadoehlhfccacaaReg
import Derived.Deep.DeepCutAuto
import Derived.Deep.CutBlock
namespace Go.Proofs.Ytadoehlhfccacaa
open Go.RowKit


theorem codes_at {w : World} {b j : Nat} {T : TypeId} (h : w.heap[b]? = some (.cells #[.int .i64 1, .int .i64 1, .int .i64 1, .int .i64 1, .int .i64 2, .int .i64 2, .int .i64 3, .int .i64 3, .int .i64 3, .int .i64 3, .int .i64 4, .int .i64 5, .int .i64 6, .int .i64 7, .int .i64 7, .int .i64 7, .int .i64 8, .int .i64 9, .int .i64 10, .int .i64 0] T (0, 0))) (hj : j < 20) :
    ∃ c : Int, w.cell? ⟨b, j, none⟩ = some (.int .i64 c) ∧ 0 ≤ c ∧ c ≤ 10 := by
  rw [cell_block h]
  have : j = 0 ∨ j = 1 ∨ j = 2 ∨ j = 3 ∨ j = 4 ∨ j = 5 ∨ j = 6 ∨ j = 7 ∨ j = 8 ∨ j = 9 ∨ j = 10 ∨ j = 11 ∨ j = 12 ∨ j = 13 ∨ j = 14 ∨ j = 15 ∨ j = 16 ∨ j = 17 ∨ j = 18 ∨ j = 19 := by omega
  rcases this with rfl | rfl | rfl | rfl | rfl | rfl | rfl | rfl | rfl | rfl | rfl | rfl | rfl | rfl | rfl | rfl | rfl | rfl | rfl | rfl <;> exact ⟨_, rfl, by decide, by decide⟩

theorem lit4_at {j : Nat} (hj : j < 4) : ∃ v : Int, 1 ≤ v ∧ v ≤ 17 ∧ (#[.int .i64 3, .int .i64 3, .int .i64 8, .int .i64 17] : Array Value)[j]? = some (.int .i64 v) := by
  have : j = 0 ∨ j = 1 ∨ j = 2 ∨ j = 3 := by omega
  rcases this with rfl | rfl | rfl | rfl <;> exact ⟨_, by decide, by decide, rfl⟩
theorem Deck.set {B : Nat} {w : World} {g b o : Nat} {v : Value} (h : Deck B w g) (hb : B ≤ b) (hne : b ≠ g) : Deck B (w.setCell ⟨b, o, none⟩ v) g :=
  h.keep (fun k hk => setCell_other v (by omega)) (setCell_other v (fun e => hne e.symm))
theorem Deck.alloc {B : Nat} {w : World} {g : Nat} (h : Deck B w g) (o : Obj) : Deck B (w.alloc o) g :=
  h.below ((Below.refl _ w).alloc (Nat.le_refl _) o) h.lt

theorem bset {B b o : Nat} {a w : World} (h : Below B a w) (hb : B ≤ b) (v : Value) : Below B a (w.setCell ⟨b, o, none⟩ v) := h.setCell hb v
/-- what stands throughout Op: the deck, the operation's result -/
structure OpSw (B : Nat) (w0 : World) (g : Nat) (W : World) : Prop where
  lt : g < w0.heap.size
  deck : Deck B W g
  gr : w0.grownBy W (some g)
  kd : W.heap[w0.heap.size]? = some (.cells #[.pointer (some ⟨g, 0, none⟩)] 31 (0, 0))
  kr : W.heap[w0.heap.size + 1 + 1]? = some (.cells #[.int .i64 0, .int .i64 0, .int .i64 0, .int .i64 0] 35 (0, 0))
/-- and the list of handles -/
structure OpSt (B : Nat) (w0 : World) (g : Nat) (ad : Option Addr) (cap : Nat) (xs : List Int) (W : World) : Prop extends OpSw B w0 g W where
  ku : W.heap[w0.heap.size + 1 + 1 + 1]? = some (.cells #[.slice ad xs.length cap] 29 (0, 0))
  hx : RdX i64E g W (.slice ad xs.length cap) xs
  hr : ∀ x ∈ xs, 0 ≤ x ∧ x ≤ 255

theorem OpSw.grown {B : Nat} {w0 : World} {g : Nat} {W W' : World} (h : OpSw B w0 g W) (hd : Deck B W' g) (hg : W.grownBy W' (some g)) : OpSw B w0 g W' :=
  have l := h.lt
  ⟨h.lt, hd, grown_trans h.gr hg, grown_block hg h.kd (fun e => by injection e; omega), grown_block hg h.kr (fun e => by injection e; omega)⟩
theorem OpSt.grown {B : Nat} {w0 : World} {g : Nat} {ad : Option Addr} {cap : Nat} {xs : List Int} {W W' : World} (h : OpSt B w0 g ad cap xs W) (hd : Deck B W' g) (hg : W.grownBy W' (some g)) : OpSt B w0 g ad cap xs W' :=
  have l := h.lt
  ⟨h.toOpSw.grown hd hg, grown_block hg h.ku (fun e => by injection e; omega), h.hx.grown hg, h.hr⟩
theorem OpSw.alloc {B : Nat} {w0 : World} {g : Nat} {W : World} (h : OpSw B w0 g W) (o : Obj) : OpSw B w0 g (W.alloc o) :=
  h.grown (h.deck.alloc o) (World.grownBy_alloc _ _ _)
theorem OpSw.drew {B : Nat} {w0 : World} {g : Nat} {W : World} (h : OpSw B w0 g W) : OpSw B w0 g W.drew :=
  h.grown (h.deck.drew 1) (grown_drew (grown_refl W _) 1)
theorem OpSt.alloc {B : Nat} {w0 : World} {g : Nat} {ad : Option Addr} {cap : Nat} {xs : List Int} {W : World} (h : OpSt B w0 g ad cap xs W) (o : Obj) : OpSt B w0 g ad cap xs (W.alloc o) :=
  h.grown (h.deck.alloc o) (World.grownBy_alloc _ _ _)
theorem OpSt.drew {B : Nat} {w0 : World} {g : Nat} {ad : Option Addr} {cap : Nat} {xs : List Int} {W : World} (h : OpSt B w0 g ad cap xs W) : OpSt B w0 g ad cap xs W.drew :=
  h.grown (h.deck.drew 1) (grown_drew (grown_refl W _) 1)
theorem OpSw.cd {B : Nat} {w0 : World} {g : Nat} {W : World} (h : OpSw B w0 g W) : W.cell? ⟨w0.heap.size, 0, none⟩ = some (.pointer (some ⟨g, 0, none⟩)) := by rw [cell_block h.kd]; rfl
theorem OpSt.cu {B : Nat} {w0 : World} {g : Nat} {ad : Option Addr} {cap : Nat} {xs : List Int} {W : World} (h : OpSt B w0 g ad cap xs W) : W.cell? ⟨w0.heap.size + 1 + 1 + 1, 0, none⟩ = some (.slice ad xs.length cap) := by rw [cell_block h.ku]; rfl
theorem OpSt.h_call {B : Nat} {w0 : World} {g : Nat} {ad : Option Addr} {cap : Nat} {xs : List Int} {W : World} (h : OpSt B w0 g ad cap xs W) :
    Calls Try.prog 23 #[.pointer (some ⟨w0.heap.size + 1 + 1 + 1, 0, none⟩), .pointer (some ⟨w0.heap.size, 0, none⟩)] W fun e W' => ∃ r : Int, 0 ≤ r ∧ r ≤ 255 ∧ e = .returned (.int .i64 r) ∧ OpSt B w0 g ad cap xs W' ∧ W.grownBy W' (some g) := by
  have l := h.lt
  exact (oph_any B _ _ g _ xs W h.deck h.cu h.toOpSw.cd (by omega) (by omega) h.hx h.hr).mono fun e W' ⟨r, h1, h2, h3, h4, h5⟩ => ⟨r, h1, h2, h3, h.grown h4 h5, h5⟩
theorem OpSt.n_call {B : Nat} {w0 : World} {g : Nat} {ad : Option Addr} {cap : Nat} {xs : List Int} {W : World} (h : OpSt B w0 g ad cap xs W) (n : Int) (h1 : 1 ≤ n) (h2 : n ≤ 1000) :
    Calls Try.prog 15 #[.pointer (some ⟨g, 0, none⟩), .int .i64 n] W fun e W' => ∃ r : Int, (0 ≤ r ∧ r < n) ∧ e = .returned (.int .i64 r) ∧ OpSt B w0 g ad cap xs W' ∧ W.grownBy W' (some g) :=
  (next_any B g n W h.deck h1 (by omega)).mono fun e W' ⟨r, h1, h2, h3, h4, h5⟩ => ⟨r, ⟨h1, h2⟩, h3, h.grown h4 h5, h5⟩
theorem OpSw.n_call {B : Nat} {w0 : World} {g : Nat} {W : World} (h : OpSw B w0 g W) (n : Int) (h1 : 1 ≤ n) (h2 : n ≤ 1000) :
    Calls Try.prog 15 #[.pointer (some ⟨g, 0, none⟩), .int .i64 n] W fun e W' => ∃ r : Int, (0 ≤ r ∧ r < n) ∧ e = .returned (.int .i64 r) ∧ OpSw B w0 g W' ∧ W.grownBy W' (some g) :=
  (next_any B g n W h.deck h1 (by omega)).mono fun e W' ⟨r, h1, h2, h3, h4, h5⟩ => ⟨r, ⟨h1, h2⟩, h3, h.grown h4 h5, h5⟩
theorem OpSw.set {B : Nat} {w0 : World} {g : Nat} {W : World} (h : OpSw B w0 g W) {b o : Nat} (v : Value) (hb : w0.heap.size + 1 + 1 < b) : OpSw B w0 g (W.setCell ⟨b, o, none⟩ v) :=
  have l := h.lt
  have q := h.deck.1
  ⟨h.lt, h.deck.set (by omega) (by omega), grown_below h.gr (bset (Below.refl _ _) (by omega) v), by rw [setCell_other _ (by omega)]; exact h.kd, by rw [setCell_other _ (by omega)]; exact h.kr⟩

/-- the operation's block, with some operands -/
def OB (b : Nat) (W : World) : Prop := ∃ x y : Int, (0 ≤ x ∧ x < 4) ∧ (0 ≤ y ∧ y < 18) ∧ W.heap[b]? = some (.cells #[.int .i64 1, .int .i64 x, .int .i64 y, .int .i64 0] 35 (0, 0))
/-- how the world may change in the region -/
def RegE (g b : Nat) (W W' : World) : Prop := ∀ k, k < W.heap.size → k ≠ g → k ≠ b → W'.heap[k]? = W.heap[k]?
def LitB (g b k : Nat) (W : World) : Prop := k ≠ g ∧ k ≠ b ∧ W.heap[k]? = some (.cells #[.int .i64 3, .int .i64 3, .int .i64 8, .int .i64 17] 3 (0, 0))
/-- what each operation of the region leaves -/
def RegF (g b : Nat) : Nat → Value → World → Prop
  | 0, v, _ => v = .pointer (some ⟨g, 0, none⟩)
  | 1, v, _ => ∃ r : Int, v = .int .i64 r ∧ 0 ≤ r ∧ r < 4
  | 2, v, _ => v = .pointer (some ⟨g, 0, none⟩)
  | 3, v, W => ∃ k, v = .slice (some ⟨k, 0, none⟩) 4 4 ∧ LitB g b k W
  | 4, v, _ => v = .pointer (some ⟨g, 0, none⟩)
  | 5, v, _ => ∃ r : Int, v = .int .i64 r ∧ 0 ≤ r ∧ r < 4
  | 6, v, W => ∃ k j, v = .pointer (some ⟨k, j, none⟩) ∧ j < 4 ∧ LitB g b k W
  | 7, v, _ => ∃ r : Int, v = .int .i64 r ∧ 1 ≤ r ∧ r ≤ 17
  | 8, v, _ => ∃ r : Int, v = .int .i64 r ∧ 0 ≤ r ∧ r < 18
  | 9, v, _ => v = .pointer (some ⟨b, 1, none⟩)
  | 11, v, _ => v = .pointer (some ⟨b, 2, none⟩)
  | _, _, _ => True
theorem LitB.keep {g b k : Nat} {W W' : World} (h : LitB g b k W) (he : RegE g b W W') : LitB g b k W' := ⟨h.1, h.2.1, by rw [he k (block_lt h.2.2) h.1 h.2.1]; exact h.2.2⟩
theorem RegF.keep (g b : Nat) : ∀ j v W W', RegE g b W W' → RegF g b j v W → RegF g b j v W' := by
  intro j v W W' he h
  unfold RegF at h ⊢
  split <;> simp only at h ⊢ <;> first | exact h | trivial | (obtain ⟨k, h1, h2⟩ := h; exact ⟨k, h1, h2.keep he⟩) | (obtain ⟨k, j, h1, h2, h3⟩ := h; exact ⟨k, j, h1, h2, h3.keep he⟩)
def RegG (B : Nat) (w0 : World) (g b : Nat) (W : World) : Prop := OpSw B w0 g W ∧ OB b W
theorem RegG.out {B : Nat} {w0 : World} {g b : Nat} {W : World} (h : RegG B w0 g b W) : OpSw B w0 g W ∧ OB b W := h
theorem RegG.grown {B : Nat} {w0 : World} {g b : Nat} {W W' : World} (h : RegG B w0 g b W) (hs : OpSw B w0 g W') (hg : W.grownBy W' (some g)) (hb : b ≠ g) : RegG B w0 g b W' := by
  obtain ⟨x, y, hx, hy, hk⟩ := h.2
  exact ⟨hs, x, y, hx, hy, grown_block hg hk (fun e => by injection e; omega)⟩
theorem RegE.grown {g b : Nat} {W W' : World} (hg : W.grownBy W' (some g)) : RegE g b W W' := fun k h1 h2 _ => hg.block k h1 (fun e => h2 (by injection e))
theorem RegG.set1 {B : Nat} {w0 : World} {g b : Nat} {W : World} (h : RegG B w0 g b W) {v : Int} (hv : 0 ≤ v ∧ v < 4) (hb : w0.heap.size + 1 + 1 < b) : RegG B w0 g b (W.setCell ⟨b, 1, none⟩ (.int .i64 v)) := by
  obtain ⟨x, y, hx, hy, hk⟩ := h.2
  exact ⟨h.1.set _ hb, v, y, hv, hy, by rw [setCell_block hk]; rfl⟩
theorem RegG.set2 {B : Nat} {w0 : World} {g b : Nat} {W : World} (h : RegG B w0 g b W) {v : Int} (hv : 0 ≤ v ∧ v < 18) (hb : w0.heap.size + 1 + 1 < b) : RegG B w0 g b (W.setCell ⟨b, 2, none⟩ (.int .i64 v)) := by
  obtain ⟨x, y, hx, hy, hk⟩ := h.2
  exact ⟨h.1.set _ hb, x, v, hx, hv, by rw [setCell_block hk]; rfl⟩
theorem RegE.set {g b o : Nat} {W : World} (v : Value) : RegE g b W (W.setCell ⟨b, o, none⟩ v) := fun _ _ _ h => setCell_other v h
theorem RegG.size {B : Nat} {w0 : World} {g b : Nat} {W : World} (h : RegG B w0 g b W) : w0.heap.size + 1 + 1 < W.heap.size := block_lt h.1.kr
theorem RegG.lt {B : Nat} {w0 : World} {g b : Nat} {W : World} (h : RegG B w0 g b W) : b < W.heap.size := by obtain ⟨_, _, _, _, hk⟩ := h.2; exact block_lt hk

def CutR (B : Nat) (w0 : World) (g b : Nat) (W : World) : Prop := ∃ r2 r4 : Int, (0 ≤ r2 ∧ r2 < 4) ∧ (0 ≤ r4 ∧ r4 < 18) ∧ OpSw B w0 g W ∧ W.heap[b]? = some (.cells #[.int .i64 1, .int .i64 r2, .int .i64 r4, .int .i64 0] 35 (0, 0))
theorem set4_block {w : World} {b : Nat} {T : TypeId} {z0 z1 z2 z3 : Value} (h : w.heap[b]? = some (.cells #[z0, z1, z2, z3] T (0, 0))) (v0 v1 v2 v3 : Value) :
    ((((w.setCell ⟨b, 0, none⟩ v0).setCell ⟨b, 1, none⟩ v1).setCell ⟨b, 2, none⟩ v2).setCell ⟨b, 3, none⟩ v3).heap[b]? = some (.cells #[v0, v1, v2, v3] T (0, 0)) := by
  rw [setCell_block (setCell_block (setCell_block (setCell_block h _) _) _) _]; simp
theorem op_fin {R : Ending → World → Prop} {a : Act} {W : World} {b : Nat} {v0 v1 v2 v3 : Int} (h : W.heap[b]? = some (.cells #[.int .i64 v0, .int .i64 v1, .int .i64 v2, .int .i64 v3] 35 (0, 0)))
    (ha : a.tmps[4]? = some (.pointer (some ⟨b, 0, none⟩))) (hd : a.defers = []) (hR : R (.returned (.agg #[.int .i64 v0, .int .i64 v1, .int .i64 v2, .int .i64 v3])) W) : bodyPost Try.prog Try.f17 R Exit.ret a W := by
  have c0 : W.cell? ⟨b, 0, none⟩ = some (.int .i64 v0) := by rw [cell_block h]; rfl
  have c1 : W.cell? ⟨b, 1, none⟩ = some (.int .i64 v1) := by rw [cell_block h]; rfl
  have c2 : W.cell? ⟨b, 2, none⟩ = some (.int .i64 v2) := by rw [cell_block h]; rfl
  have c3 : W.cell? ⟨b, 3, none⟩ = some (.int .i64 v3) := by rw [cell_block h]; rfl
  exact bodyPost_ret (v := .agg #[.int .i64 v0, .int .i64 v1, .int .i64 v2, .int .i64 v3]) (by simp [results, Try.results17, go_sem, ha, c0, c1, c2, c3]) hd hR

/-- the operation's own block -/
def Own9 (W : World) (b : Nat) (c : Int) : Prop := W.heap[b]? = some (.cells #[.int .i64 c, .int .i64 0, .int .i64 0, .int .i64 0] 35 (0, 0))

end Go.Proofs.Ytadoehlhfccacaa
