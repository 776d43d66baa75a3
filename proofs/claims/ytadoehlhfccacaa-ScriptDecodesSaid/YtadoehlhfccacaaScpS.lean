/- What stands throughout mk.Script: the deck, the bytes so far, the graph in its box. -/
import Derived.Test.YtadoehlhfccacaaDoS
import Derived.Test.YtadoehlhfccacaaEnc
import Derived.Test.YtadoehlhfccacaaEncP
namespace Go.Proofs.Ytadoehlhfccacaa
open Go.RowKit

theorem Own.low {α : Type} {sz : Nat} {f : α → List Value} {hf : ∀ x, (f x).length = sz} {W W' : World} {B T gd : Nat} {v : Value} {xs : List α} (h : Own (flat sz f hf) W B T v xs) (hg : W.grownBy W' (some gd)) (hgd : gd < B) : Own (flat sz f hf) W' B T v xs :=
  h.kept hg (.inr (fun e => by have := (h.lt gd e).1; omega)) (fun _ _ e => e)
theorem GrM.low {W W' : World} {B rb gd : Nat} {nv uv rv : Value} {g : Gr} (h : GrM W B rb nv uv rv g) (hg : W.grownBy W' (some gd)) (hgd : gd < B) : GrM W' B rb nv uv rv g := by
  refine ⟨h.nodes.kept hg (.inr (fun e => by have := (h.nodes.lt gd e).1; omega)) ?_, h.used.low hg hgd, h.roots.low hg hgd, h.rb⟩
  rintro x cs ⟨a, b, rfl, h1, h2, h3⟩
  exact ⟨a, b, rfl, h1.low hg hgd, h2.low hg hgd, h3⟩
theorem GrM.beside {W W' : World} {B B' rb T : Nat} {nv uv rv v : Value} {g : Gr} {α : Type} {E : El α} {xs : List α} (h : GrM W B rb nv uv rv g) (hv : Own E W B' T v xs) (hg : W.grownBy W' v.ownBlock) (hT : 64 ≠ T ∧ 4 ≠ T ∧ 3 ≠ T ∧ 51 ≠ T) : GrM W' B rb nv uv rv g := by
  refine ⟨h.nodes.kept hg (h.nodes.ne_own hv hT.1) ?_, h.used.kept hg (h.used.ne_own hv hT.2.1) (fun _ _ e => e), h.roots.kept hg (h.roots.ne_own hv hT.2.2.1) (fun _ _ e => e), h.rb⟩
  rintro x cs ⟨a, b, rfl, h1, h2, h3⟩
  exact ⟨a, b, rfl, h1.kept hg (h1.ne_own hv hT.2.2.1) (fun _ _ e => e), h2.kept hg (h2.ne_own hv hT.2.2.2) (fun _ _ e => e), h3⟩

structure ScS (w0 : World) (B gd p k : Nat) (v : Value) (bs : List Int) (rb : Nat) (nv uv rv : Value) (g : Gr) (W : World) : Prop where
  gr : w0.grownBy W (some gd)
  dk : Deck B W gd
  hgd : gd < w0.heap.size
  own : Own byteE W w0.heap.size 5 v bs
  rng : ∀ x ∈ bs, 0 ≤ x ∧ x ≤ 255
  gm : GrM W w0.heap.size rb nv uv rv g
  ok : GrOk k g
  box : W.heap[p]? = some (.cells #[nv, uv, rv] 45 (0, 0))
  hp : w0.heap.size ≤ p
section
variable {w0 W W' : World} {B gd p k rb : Nat} {v nv uv rv : Value} {bs : List Int} {g : Gr}
theorem ScS.low (h : ScS w0 B gd p k v bs rb nv uv rv g W) (hg : W.grownBy W' (some gd)) (hd : Deck B W' gd) : ScS w0 B gd p k v bs rb nv uv rv g W' :=
  have l := h.hgd
  have l2 := h.hp
  ⟨grown_trans h.gr hg, hd, h.hgd, h.own.low hg h.hgd, h.rng, h.gm.low hg h.hgd, h.ok, grown_block hg h.box (fun e => by injection e; omega), h.hp⟩
theorem ScS.below (h : ScS w0 B gd p k v bs rb nv uv rv g W) (hb : Below W.heap.size W W') : ScS w0 B gd p k v bs rb nv uv rv g W' :=
  have hs := h.gr.size
  ⟨grown_below h.gr (hb.mono hs), h.dk.below hb h.dk.lt, h.hgd, h.own.below hb, h.rng, h.gm.below hb, h.ok, below_block hb (block_lt h.box) h.box, h.hp⟩
theorem ScS.bytes {v' : Value} {ys : List Int} (h : ScS w0 B gd p k v bs rb nv uv rv g W) (ho : Own byteE W' w0.heap.size 5 v' (bs ++ ys)) (hg : W.grownBy W' v.ownBlock) (hb : Below w0.heap.size W W') (hy : ∀ x ∈ ys, 0 ≤ x ∧ x ≤ 255) : ScS w0 B gd p k v' (bs ++ ys) rb nv uv rv g W' :=
  ⟨grown_below h.gr hb, h.dk.below hb h.hgd, h.hgd, ho, fun x hx => by
    rcases List.mem_append.1 hx with hx | hx
    · exact h.rng x hx
    · exact hy x hx, h.gm.beside h.own hg (by decide), h.ok, grown_block hg h.box (h.own.ne_block h.box (by decide)), h.hp⟩
theorem ScS.size (h : ScS w0 B gd p k v bs rb nv uv rv g W) : p < W.heap.size := block_lt h.box
theorem ScS.c0 (h : ScS w0 B gd p k v bs rb nv uv rv g W) : W.cell? ⟨p, 0, none⟩ = some nv ∧ W.frozen? ⟨p, 0, none⟩ = false := ⟨by rw [cell_block h.box]; rfl, frozen_block h.box⟩
theorem ScS.c1 (h : ScS w0 B gd p k v bs rb nv uv rv g W) : W.cell? ⟨p, 1, none⟩ = some uv ∧ W.frozen? ⟨p, 1, none⟩ = false := ⟨by rw [cell_block h.box]; rfl, frozen_block h.box⟩
theorem ScS.c2 (h : ScS w0 B gd p k v bs rb nv uv rv g W) : W.cell? ⟨p, 2, none⟩ = some rv ∧ W.frozen? ⟨p, 2, none⟩ = false := ⟨by rw [cell_block h.box]; rfl, frozen_block h.box⟩
/-- another graph into the box -/
theorem ScS.graph {rb' : Nat} {nv' uv' rv' : Value} {g' : Gr} (h : ScS w0 B gd p k v bs rb nv uv rv g W) (hm : GrM W w0.heap.size rb' nv' uv' rv' g') (hok : GrOk (k + 1) g') :
    ScS w0 B gd p (k + 1) v bs rb' nv' uv' rv' g' (((W.setCell ⟨p, 0, none⟩ nv').setCell ⟨p, 1, none⟩ uv').setCell ⟨p, 2, none⟩ rv') := by
  have hp := h.hp
  have gc : Gc W (((W.setCell ⟨p, 0, none⟩ nv').setCell ⟨p, 1, none⟩ uv').setCell ⟨p, 2, none⟩ rv') := (((Gc.refl W).set h.box (.inl rfl) _).set h.box (.inl rfl) _).set h.box (.inl rfl) _
  have hb : Below w0.heap.size W (((W.setCell ⟨p, 0, none⟩ nv').setCell ⟨p, 1, none⟩ uv').setCell ⟨p, 2, none⟩ rv') := bset (bset (bset (Below.refl _ _) hp _) hp _) hp _
  exact ⟨grown_below h.gr hb, h.dk.below hb h.hgd, h.hgd, h.own.gc gc (by decide) (by decide) (fun _ _ e => e), h.rng, hm.gc gc, hok, set3_block h.box _ _ _, h.hp⟩
theorem ScS.more {m : Nat} (h : ScS w0 B gd p k v bs rb nv uv rv g W) (hm : k ≤ m) : ScS w0 B gd p m v bs rb nv uv rv g W :=
  ⟨h.gr, h.dk, h.hgd, h.own, h.rng, h.gm, h.ok.more hm, h.box, h.hp⟩
end
/-- at the head of a round -/
def ScL (w0 : World) (B gd p n : Nat) (v i : Value) (W : World) : Prop := ∃ (k : Nat) (bs : List Int) (rb : Nat) (nv uv rv : Value) (g : Gr), k ≤ n ∧ i = .int .i64 k ∧ bs.length ≤ 4 * k ∧ ScS w0 B gd p k v bs rb nv uv rv g W
theorem ScL.out {w0 : World} {B gd p n : Nat} {v i : Value} {W : World} (h : ScL w0 B gd p n v i W) : ∃ (k : Nat) (bs : List Int) (rb : Nat) (nv uv rv : Value) (g : Gr), k ≤ n ∧ i = .int .i64 k ∧ bs.length ≤ 4 * k ∧ ScS w0 B gd p k v bs rb nv uv rv g W := h
end Go.Proofs.Ytadoehlhfccacaa
