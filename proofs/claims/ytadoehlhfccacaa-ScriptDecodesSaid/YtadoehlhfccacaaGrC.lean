/- The reference model's Copy: a graph that reads as the one that was given, all of it in new memory. Condition: a graph in memory with at most 1000 nodes of at most 15 and 32 fields. -/
import Derived.Test.YtadoehlhfccacaaGrN
namespace Go.Proofs.Ytadoehlhfccacaa
open Go.RowKit

theorem eval_tmp {t : Array Value} {ds : List Deferred} {k : Nat} {v : Value} (h : t[k]? = some v) : Act.eval ⟨t, ds⟩ (.tmp k) = v := by
  show t.getD k undef = v
  rw [Array.getD_eq_getD_getElem?, h]; rfl
theorem Gw.refl (W : World) : Gw W W := fun _ _ => rfl
theorem Gw.of_none {W W' : World} (h : W.grownBy W' none) : Gw W W' := fun k hk => h.block k hk (by simp)
theorem one_bool : ∀ w x cs, boolE.rel w x cs → ∀ u ∈ cs, u.oneCell' = true := by
  intro w x cs h u hu
  have h' : cs = [.bool x] := h
  subst h'
  simp at hu; subst hu; rfl
theorem one_i64 : ∀ w x cs, i64E.rel w x cs → ∀ u ∈ cs, u.oneCell' = true := by
  intro w x cs h u hu
  have h' : cs = [.int .i64 x] := h
  subst h'
  simp at hu; subst hu; rfl
theorem one_u64 : ∀ w x cs, u64E.rel w x cs → ∀ u ∈ cs, u.oneCell' = true := by
  intro w x cs h u hu
  have h' : cs = [.int .u64 x] := h
  subst h'
  simp at hu; subst hu; rfl
theorem one_slice {v : Value} (h : ∃ a l c, v = .slice a l c) : v.oneCell' = true := by obtain ⟨_, _, _, rfl⟩ := h; rfl

/-! the first region: the table and the roots -/
def CoF (p N : Nat) (uv rv : Value) (us : List Bool) (rs : List Int) : Nat → Act → World → Prop
  | 0, a, _ => a.tmps[6]? = some (.pointer (some ⟨p, 1, none⟩))
  | 1, a, _ => a.tmps[7]? = some uv
  | 2, a, W => ∃ u, a.tmps[8]? = some u ∧ Own boolE W N 4 u us
  | 3, a, _ => a.tmps[9]? = some (.pointer (some ⟨p, 2, none⟩))
  | 4, a, _ => a.tmps[10]? = some rv
  | 5, a, W => ∃ r, a.tmps[11]? = some r ∧ Own i64E W N 3 r rs
  | 6, a, W => ∃ u r, a.tmps[12]? = some (.agg #[.slice none 0 0, u, r]) ∧ Own boolE W N 4 u us ∧ Own i64E W N 3 r rs
  | 7, a, W => ∃ b, a.tmps[3]? = some (.pointer (some ⟨b, 0, none⟩)) ∧ GBox N b W
  | 8, a, W => ∃ b u r, a.tmps[3]? = some (.pointer (some ⟨b, 0, none⟩)) ∧ N ≤ b ∧ W.heap[b]? = some (.cells #[.slice none 0 0, u, r] 45 (0, 0)) ∧ Own boolE W N 4 u us ∧ Own i64E W N 3 r rs
  | _, _, _ => True
def coLoc : Nat → List Nat | 0 => [6] | 1 => [7] | 2 => [8] | 3 => [9] | 4 => [10] | 5 => [11] | 6 => [12] | 7 => [3] | 8 => [3] | _ => []
def CoE : Nat → World → World → Prop | 8, W, W' => Gb W W' | _, W, W' => Gw W W'
theorem coE_gb {i : Nat} {W W' : World} (h : CoE i W W') : Gb W W' := by
  unfold CoE at h
  split at h
  · exact h
  · exact h.gb
theorem coE_gw {i : Nat} {W W' : World} (h : CoE i W W') (hi : i ≠ 8) : Gw W W' := by
  unfold CoE at h
  split at h
  · exact absurd rfl hi
  · exact h
theorem CoF.loc (p N : Nat) (uv rv : Value) (us : List Bool) (rs : List Int) : ∀ j a d v w, d ∉ coLoc j → CoF p N uv rv us rs j a w → CoF p N uv rv us rs j (a.put (some d) v) w := by
  intro j a d v w hd h
  match j with
  | 0 | 1 | 2 | 3 | 4 | 5 | 6 | 7 | 8 =>
    simp only [coLoc, List.mem_singleton] at hd
    simp only [CoF] at h ⊢
    rw [put_same hd]
    exact h
  | _ + 9 => trivial
theorem CoF.stab (p N : Nat) (uv rv : Value) (us : List Bool) (rs : List Int) : ∀ i j a W W', i ≠ j → CoE i W W' → CoF p N uv rv us rs j a W → CoF p N uv rv us rs j a W' := by
  intro i j a W W' hij he h
  have hg := coE_gb he
  match j with
  | 0 | 1 | 3 | 4 => exact h
  | 2 => obtain ⟨u, h1, h2⟩ := h; exact ⟨u, h1, h2.gb hg (by decide)⟩
  | 5 => obtain ⟨u, h1, h2⟩ := h; exact ⟨u, h1, h2.gb hg (by decide)⟩
  | 6 => obtain ⟨u, r, h1, h2, h3⟩ := h; exact ⟨u, r, h1, h2.gb hg (by decide), h3.gb hg (by decide)⟩
  | 7 => obtain ⟨b, h1, h2⟩ := h; exact ⟨b, h1, h2.gb hg⟩
  | 8 =>
    obtain ⟨b, u, r, h1, h2, h3, h4, h5⟩ := h
    exact ⟨b, u, r, h1, h2, by rw [coE_gw he hij b (block_lt h3)]; exact h3, h4.gb hg (by decide), h5.gb hg (by decide)⟩
  | _ + 9 => trivial
/-- of every world: the boxes -/
def CoG (w0 : World) (nv uv rv : Value) (W : World) : Prop := Below w0.heap.size w0 W ∧ W.heap[w0.heap.size]? = some (.cells #[nv, uv, rv] 45 (0, 0)) ∧
  W.heap[w0.heap.size + 1]? = some (.cells #[.slice none 0 0, .slice none 0 0, .slice none 0 0] 45 (0, 0))
theorem CoG.size {w0 W : World} {nv uv rv : Value} (h : CoG w0 nv uv rv W) : w0.heap.size + 1 + 1 ≤ W.heap.size := block_lt h.2.2
theorem CoG.gw {w0 W W' : World} {nv uv rv : Value} (h : CoG w0 nv uv rv W) (hg : W.grownBy W' none) : CoG w0 nv uv rv W' :=
  ⟨h.1.trans ((Below.refl _ _).grown hg h.1.size (fun k e => by cases e)), by rw [hg.block _ (block_lt h.2.1) (by simp)]; exact h.2.1, by rw [hg.block _ (block_lt h.2.2) (by simp)]; exact h.2.2⟩
theorem CoG.set {w0 W : World} {nv uv rv : Value} {q o : Nat} {u : Value} (h : CoG w0 nv uv rv W) (hq : w0.heap.size + 1 < q) : CoG w0 nv uv rv (W.setCell ⟨q, o, none⟩ u) :=
  ⟨bset h.1 (by omega) u, by rw [setCell_other u (by omega)]; exact h.2.1, by rw [setCell_other u (by omega)]; exact h.2.2⟩
theorem CoG.cells {w0 W : World} {nv uv rv : Value} (h : CoG w0 nv uv rv W) : W.cell? ⟨w0.heap.size, 0, none⟩ = some nv ∧ W.cell? ⟨w0.heap.size, 1, none⟩ = some uv ∧ W.cell? ⟨w0.heap.size, 2, none⟩ = some rv :=
  ⟨by rw [cell_block h.2.1]; rfl, by rw [cell_block h.2.1]; rfl, by rw [cell_block h.2.1]; rfl⟩

def CoCut (w0 : World) (nv uv rv : Value) (us : List Bool) (rs : List Int) (v : Value) (W : World) : Prop :=
  ∃ b u r, v = .pointer (some ⟨b, 0, none⟩) ∧ w0.heap.size + 1 + 1 ≤ b ∧ W.heap[b]? = some (.cells #[.slice none 0 0, u, r] 45 (0, 0)) ∧ Own boolE W (w0.heap.size + 1 + 1) 4 u us ∧ Own i64E W (w0.heap.size + 1 + 1) 3 r rs ∧ CoG w0 nv uv rv W

theorem CoCut.out {w0 : World} {nv uv rv : Value} {us : List Bool} {rs : List Int} {v : Value} {W : World} (h : CoCut w0 nv uv rv us rs v W) :
  ∃ b u r, v = .pointer (some ⟨b, 0, none⟩) ∧ w0.heap.size + 1 + 1 ≤ b ∧ W.heap[b]? = some (.cells #[.slice none 0 0, u, r] 45 (0, 0)) ∧ Own boolE W (w0.heap.size + 1 + 1) 4 u us ∧ Own i64E W (w0.heap.size + 1 + 1) 3 r rs ∧ CoG w0 nv uv rv W := h
/-- at the head of a round -/
def CoLoop (w0 : World) (b : Nat) (nv uv rv : Value) (ua : Option Addr) (uc rb rc : Nat) (g : Gr) (i : Value) (W : World) : Prop :=
  ∃ (k : Nat) (v : Value), k ≤ g.nodes.length ∧ i = .int .i64 k ∧ Own (ndE (w0.heap.size + 1 + 1) rb) W (w0.heap.size + 1 + 1) 64 v (g.nodes.take k) ∧ W.heap[b]? = some (.cells #[v, .slice ua 32 uc, .slice (some ⟨rb, 0, none⟩) 32 rc] 45 (0, 0)) ∧
    Own boolE W (w0.heap.size + 1 + 1) 4 (.slice ua 32 uc) g.used ∧ Own i64E W (w0.heap.size + 1 + 1) 3 (.slice (some ⟨rb, 0, none⟩) 32 rc) g.roots ∧ w0.heap.size + 1 + 1 ≤ b ∧ CoG w0 nv uv rv W
theorem CoLoop.out {w0 : World} {b : Nat} {nv uv rv : Value} {ua : Option Addr} {uc rb rc : Nat} {g : Gr} {i : Value} {W : World} (h : CoLoop w0 b nv uv rv ua uc rb rc g i W) :
  ∃ (k : Nat) (v : Value), k ≤ g.nodes.length ∧ i = .int .i64 k ∧ Own (ndE (w0.heap.size + 1 + 1) rb) W (w0.heap.size + 1 + 1) 64 v (g.nodes.take k) ∧ W.heap[b]? = some (.cells #[v, .slice ua 32 uc, .slice (some ⟨rb, 0, none⟩) 32 rc] 45 (0, 0)) ∧
    Own boolE W (w0.heap.size + 1 + 1) 4 (.slice ua 32 uc) g.used ∧ Own i64E W (w0.heap.size + 1 + 1) 3 (.slice (some ⟨rb, 0, none⟩) 32 rc) g.roots ∧ w0.heap.size + 1 + 1 ≤ b ∧ CoG w0 nv uv rv W := h
/-- a node in memory -/
theorem GrM.node_at {w : World} {B rb n nc : Nat} {na : Option Addr} {uv rv : Value} {g : Gr} (h : GrM w B rb (.slice na n nc) uv rv g) {k : Nat} (hk : k < g.nodes.length) :
    ∃ q xa xb, na = some ⟨q, 0, none⟩ ∧ B ≤ q ∧ q < w.heap.size ∧ w.cell? ⟨q, k * 2, none⟩ = some xa ∧ w.cell? ⟨q, k * 2 + 1, none⟩ = some xb ∧ Own i64E w B 3 xa g.nodes[k].refs ∧ Own u64E w B 51 xb g.nodes[k].data := by
  have h0 := h.nodes
  obtain ⟨C, ⟨_, h2⟩, _⟩ := h0
  rcases h2 with ⟨_, h2⟩ | ⟨q, cap, cur, hv, hB, hh, _⟩
  · omega
  · simp only [Value.slice.injEq] at hv
    obtain ⟨rfl, _, _⟩ := hv
    obtain ⟨a', c', e, _, _, hf⟩ := h.nodes.rd
    rcases hf with hf | ⟨b', off', e2, hf⟩
    · rw [hf] at hk; simp at hk
    · simp only [Value.slice.injEq] at e
      rw [← e.1] at e2
      simp only [Option.some.injEq, Addr.mk.injEq, and_true] at e2
      obtain ⟨rfl, rfl⟩ := e2
      obtain ⟨cs, ⟨xa, xb, rfl, hxa, hxb, _⟩, hc⟩ := hf k hk
      have c0 := hc 0 (show 0 < 2 by decide)
      have c1 := hc 1 (show 1 < 2 by decide)
      refine ⟨q, xa, xb, rfl, hB, block_lt hh, ?_, ?_, hxa, hxb⟩
      · simpa [ndE] using c0
      · simpa [ndE] using c1

/-! the region of a round: one node -/
def CrE (M : Nat) : Nat → World → World → Prop
  | 10, W, W' => W.heap.size ≤ W'.heap.size ∧ ∀ k, k < W.heap.size → M ≤ k → W'.heap[k]? = W.heap[k]?
  | 12, W, W' => Gb W W'
  | _, W, W' => Gw W W'
def CrF (b p M N rb : Nat) (v0 xa xb zu zr : Value) (x : Nd) (xs : List Nd) : Nat → Act → World → Prop
  | 0, a, _ => a.tmps[20]? = some (.pointer (some ⟨b, 0, none⟩))
  | 1, a, _ => a.tmps[21]? = some v0
  | 2, a, _ => a.tmps[22]? = some (.pointer (some ⟨p, 0, none⟩))
  | 3, a, _ => a.tmps[23]? = some xa
  | 4, a, W => ∃ u, a.tmps[24]? = some u ∧ Own i64E W M 3 u x.refs
  | 5, a, _ => a.tmps[25]? = some (.pointer (some ⟨p, 1, none⟩))
  | 6, a, _ => a.tmps[26]? = some xb
  | 7, a, W => ∃ u, a.tmps[27]? = some u ∧ Own u64E W M 51 u x.data
  | 8, a, W => ∃ u d, a.tmps[28]? = some (.agg #[u, d]) ∧ Own i64E W M 3 u x.refs ∧ Own u64E W M 51 d x.data
  | 9, a, W => ∃ q u d, a.tmps[29]? = some (.slice (some ⟨q, 0, none⟩) 1 1) ∧ M ≤ q ∧ W.heap[q]? = some (.cells #[u, d] 64 (0, 0)) ∧ Own i64E W M 3 u x.refs ∧ Own u64E W M 51 d x.data
  | 10, a, W => ∃ v, a.tmps[30]? = some v ∧ Own (ndE N rb) W N 64 v (xs ++ [x])
  | 11, a, _ => a.tmps[31]? = some (.pointer (some ⟨b, 0, none⟩))
  | 12, _, W => ∃ v, Own (ndE N rb) W N 64 v (xs ++ [x]) ∧ W.heap[b]? = some (.cells #[v, zu, zr] 45 (0, 0))
  | _, _, _ => True
def crLoc : Nat → List Nat | 0 => [20] | 1 => [21] | 2 => [22] | 3 => [23] | 4 => [24] | 5 => [25] | 6 => [26] | 7 => [27] | 8 => [28] | 9 => [29] | 10 => [30] | 11 => [31] | _ => []
/-- what is owned from M on stands where the blocks from M on stand -/
theorem Own.from {α : Type} {sz : Nat} {f : α → List Value} {hf : ∀ x, (f x).length = sz} {W W' : World} {M T : Nat} {v : Value} {xs : List α} (h : Own (flat sz f hf) W M T v xs) (hk : ∀ k, k < W.heap.size → M ≤ k → W'.heap[k]? = W.heap[k]?) : Own (flat sz f hf) W' M T v xs := by
  obtain ⟨C, ⟨h1, h2⟩, hel⟩ := h
  refine ⟨C, ⟨h1, ?_⟩, hel⟩
  rcases h2 with h2 | ⟨g, cap, cur, hv, hB, hh, r⟩
  · exact .inl h2
  · exact .inr ⟨g, cap, cur, hv, hB, by rw [hk g (block_lt hh) hB]; exact hh, r⟩
theorem ndE_gb {N rb : Nat} {W W' : World} (hg : Gb W W') : ∀ x cs, (ndE N rb).rel W x cs → (ndE N rb).rel W' x cs := by
  rintro x cs ⟨a, b, rfl, h1, h2, h3⟩
  exact ⟨a, b, rfl, h1.gb hg (by decide), h2.gb hg (by decide), h3⟩
theorem Own.gbN {N rb : Nat} {W W' : World} {v : Value} {xs : List Nd} (h : Own (ndE N rb) W N 64 v xs) (hg : Gb W W') : Own (ndE N rb) W' N 64 v xs := by
  obtain ⟨C, ⟨h1, h2⟩, hel⟩ := h
  refine ⟨C, ⟨h1, ?_⟩, fun i hi => ndE_gb hg _ _ (hel i hi)⟩
  rcases h2 with h2 | ⟨g, cap, cur, hv, hB, hh, r⟩
  · exact .inl h2
  · refine .inr ⟨g, cap, cur, hv, hB, ?_, r⟩
    rcases hg g _ hh with h | ⟨_, _, _, _, _, _, h, _⟩
    · exact h
    · injection h with _ h; exact absurd h (by decide)
theorem crE_gw {M i : Nat} {W W' : World} (h : CrE M i W W') (h1 : i ≠ 10) (h2 : i ≠ 12) : Gw W W' := by
  unfold CrE at h
  split at h
  · exact absurd rfl h1
  · exact absurd rfl h2
  · exact h
theorem crE_from {α : Type} {sz : Nat} {f : α → List Value} {hf : ∀ x, (f x).length = sz} {M T i : Nat} {W W' : World} (he : CrE M i W W') (hT : T ≠ 45) {v : Value} {xs : List α} (h : Own (flat sz f hf) W M T v xs) : Own (flat sz f hf) W' M T v xs := by
  unfold CrE at he
  split at he
  · exact h.from he.2
  · exact h.gb he hT
  · exact h.keep he
theorem crE_blk {M i k : Nat} {W W' : World} {cs : Array Value} (he : CrE M i W W') (hM : M ≤ k) (h : W.heap[k]? = some (.cells cs 64 (0, 0))) : W'.heap[k]? = some (.cells cs 64 (0, 0)) := by
  unfold CrE at he
  split at he
  · rw [he.2 k (block_lt h) hM]; exact h
  · rcases he k _ h with h | ⟨_, _, _, _, _, _, h, _⟩
    · exact h
    · injection h with _ h; exact absurd h (by decide)
  · rw [he k (block_lt h)]; exact h
theorem CrF.loc (b p M N rb : Nat) (v0 xa xb zu zr : Value) (x : Nd) (xs : List Nd) : ∀ j a d v w, d ∉ crLoc j → CrF b p M N rb v0 xa xb zu zr x xs j a w → CrF b p M N rb v0 xa xb zu zr x xs j (a.put (some d) v) w := by
  intro j a d v w hd h
  match j with
  | 0 | 1 | 2 | 3 | 4 | 5 | 6 | 7 | 8 | 9 | 10 | 11 =>
    simp only [crLoc, List.mem_singleton] at hd
    simp only [CrF] at h ⊢
    rw [put_same hd]
    exact h
  | 12 => exact h
  | _ + 13 => trivial
theorem CrF.stab (b p M N rb : Nat) (v0 xa xb zu zr : Value) (x : Nd) (xs : List Nd) : ∀ i j a W W', i ≠ j → ¬(i = 10 ∧ j = 12) → CrE M i W W' → CrF b p M N rb v0 xa xb zu zr x xs j a W → CrF b p M N rb v0 xa xb zu zr x xs j a W' := by
  intro i j a W W' hij h12 he h
  match j with
  | 0 | 1 | 2 | 3 | 5 | 6 | 11 => exact h
  | 4 => obtain ⟨u, h1, h2⟩ := h; exact ⟨u, h1, crE_from he (by decide) h2⟩
  | 7 => obtain ⟨u, h1, h2⟩ := h; exact ⟨u, h1, crE_from he (by decide) h2⟩
  | 8 => obtain ⟨u, d, h1, h2, h3⟩ := h; exact ⟨u, d, h1, crE_from he (by decide) h2, crE_from he (by decide) h3⟩
  | 9 => obtain ⟨q, u, d, h1, hq, hk, h2, h3⟩ := h; exact ⟨q, u, d, h1, hq, crE_blk he hq hk, crE_from he (by decide) h2, crE_from he (by decide) h3⟩
  | 10 =>
    obtain ⟨v, h1, h2⟩ := h
    refine ⟨v, h1, ?_⟩
    by_cases hi : i = 12
    · subst hi; exact h2.gbN he
    · exact h2.keep (crE_gw he hij hi)
  | 12 =>
    obtain ⟨v, h1, h2⟩ := h
    have := crE_gw he (fun e => h12 ⟨e, rfl⟩) hij
    exact ⟨v, h1.keep this, by rw [this b (block_lt h2)]; exact h2⟩
  | _ + 13 => trivial
/-- of every world in it -/
structure CrG (w0 : World) (b p M N rb : Nat) (nv uv rv v0 xa xb zu zr : Value) (xs : List Nd) (us : List Bool) (rs : List Int) (L : Nat → Bool) (W : World) : Prop where
  co : CoG w0 nv uv rv W
  sz : M ≤ W.heap.size
  pb : W.heap[p]? = some (.cells #[xa, xb] 64 (0, 0))
  bb : L 12 = false → W.heap[b]? = some (.cells #[v0, zu, zr] 45 (0, 0))
  ow : L 10 = false → Own (ndE N rb) W N 64 v0 xs
  us : Own boolE W N 4 zu us
  rs : Own i64E W N 3 zr rs
section
variable {w0 W W' : World} {b p M N rb : Nat} {nv uv rv v0 xa xb zu zr : Value} {xs : List Nd} {us : List Bool} {rs : List Int} {L : Nat → Bool}
theorem upd_ne {L : Nat → Bool} {i j : Nat} (h : j ≠ i) : upd L i j = L j := by unfold upd; rw [if_neg h]
theorem CrG.same {i : Nat} (h : CrG w0 b p M N rb nv uv rv v0 xa xb zu zr xs us rs L W) (hi : i ≠ 10) (hi2 : i ≠ 12) : CrG w0 b p M N rb nv uv rv v0 xa xb zu zr xs us rs (upd L i) W :=
  ⟨h.co, h.sz, h.pb, fun e => h.bb (by rw [upd_ne (Ne.symm hi2)] at e; exact e), fun e => h.ow (by rw [upd_ne (Ne.symm hi)] at e; exact e), h.us, h.rs⟩
theorem CrG.gw {i : Nat} (h : CrG w0 b p M N rb nv uv rv v0 xa xb zu zr xs us rs L W) (hg : W.grownBy W' none) (hi : i ≠ 10) (hi2 : i ≠ 12) : CrG w0 b p M N rb nv uv rv v0 xa xb zu zr xs us rs (upd L i) W' :=
  have gw := Gw.of_none hg
  ⟨h.co.gw hg, Nat.le_trans h.sz hg.size, by rw [gw p (block_lt h.pb)]; exact h.pb, fun e => by
    rw [upd_ne (Ne.symm hi2)] at e
    have := h.bb e
    rw [gw b (block_lt this)]; exact this, fun e => (h.ow (by rw [upd_ne (Ne.symm hi)] at e; exact e)).keep gw, h.us.keep gw, h.rs.keep gw⟩
end

theorem Own.blkT {α : Type} {E : El α} {W : World} {B T : Nat} {v : Value} {xs : List α} (h : Own E W B T v xs) {q : Nat} (hq : v.ownBlock = some q) : ∃ cs, W.heap[q]? = some (.cells cs T (0, 0)) := by
  obtain ⟨C, ⟨h1, h2⟩, hel⟩ := h
  rcases h2 with ⟨h2, _⟩ | ⟨g, cap, cur, hv, hB, hh, r⟩
  · rw [h2] at hq; cases hq
  · rw [hv] at hq
    injection hq with hq
    change g = q at hq
    subst hq
    exact ⟨_, hh⟩
theorem Own.ne_own {α β : Type} {E : El α} {E' : El β} {W : World} {B B' T T' : Nat} {v v' : Value} {xs : List α} {ys : List β} (h : Own E W B T v xs) (k : Own E' W B' T' v' ys) (hT : T ≠ T') : v.ownBlock = none ∨ v.ownBlock ≠ v'.ownBlock := by
  cases hv : v.ownBlock with
  | none => exact .inl rfl
  | some q =>
    refine .inr fun e => ?_
    obtain ⟨cs, h1⟩ := h.blkT hv
    obtain ⟨cs', h2⟩ := k.blkT e.symm
    rw [h1] at h2
    injection h2 with h2
    injection h2 with _ h2
    exact hT h2
theorem ndE_grown {N rb : Nat} {W W' : World} {v : Value} {xs : List Nd} (hg : W.grownBy W' v.ownBlock) (how : Own (ndE N rb) W N 64 v xs) {x : Nd} {cs : List Value} (h : (ndE N rb).rel W x cs) : (ndE N rb).rel W' x cs := by
  obtain ⟨a, b, rfl, h1, h2, h3⟩ := h
  exact ⟨a, b, rfl, h1.kept hg (h1.ne_own how (by decide)) (fun _ _ e => e), h2.kept hg (h2.ne_own how (by decide)) (fun _ _ e => e), h3⟩
theorem wp_append_lit1 {P : Program} {o : Oper} {a : Act} {w : World} {K : Act → World → Prop} {Q : Exit → Act → World → Prop} {α : Type} (E : El α) {st T bytes : Nat} {z : Value} (S : SlT P st T E.sz bytes z)
    (s x : Operand) (ho : o.op = .call { callee := .builtin .append, args := #[s, x], argTypes := #[st, st] })
    (B : Nat) (v : Value) (xs : List α) (hs : a.eval s = v) (hown : Own E w B T v xs)
    (e : α) (cs : Array Value) (g : Nat) (hx : a.eval x = .slice (some ⟨g, 0, none⟩) 1 1) (hg : w.heap[g]? = some (.cells cs T (0, 0))) (hrel : E.rel w e cs.toList) (h1 : ∀ u ∈ cs.toList, u.oneCell' = true)
    (hbytes : (xs.length + 1) * bytes ≤ 140737488355328) (h63 : xs.length + 1 ≤ maxLen) (hB : B ≤ w.heap.size)
    (hkeep : ∀ w' x cs', w.grownBy w' v.ownBlock → E.rel w x cs' → E.rel w' x cs')
    (h : ∀ v' w', Own E w' B T v' (xs ++ [e]) → w.grownBy w' v.ownBlock → Below B w w' → K (a.put o.dst v') w') (hgd : o.guard = none := by rfl) : o.wp P a w K Q := by
  have := step_append_lit (ops := #[]) (F := True) (K := K) (Q := Q) E S hgd s x ho B v xs hs hown e cs g hx hg hrel h1 hbytes h63 hB hkeep h
  rw [if_pos (by unfold Region.wanted; rw [hgd])] at this
  exact this
section
variable {w0 wr W W' : World} {b N rb : Nat} {nv uv rv v0 xa xb zu zr : Value} {xs : List Nd} {us : List Bool} {rs : List Int} {L : Nat → Bool}
theorem CrG.put10 (h : CrG w0 b wr.heap.size (wr.heap.size + 1) (w0.heap.size + 1 + 1) rb nv uv rv v0 xa xb zu zr xs us rs L W) (hv : Own (ndE (w0.heap.size + 1 + 1) rb) wr (w0.heap.size + 1 + 1) 64 v0 xs)
    (hg : W.grownBy W' v0.ownBlock) (how : Own (ndE (w0.heap.size + 1 + 1) rb) W (w0.heap.size + 1 + 1) 64 v0 xs) (_hL : L 12 = false) :
    CrG w0 b wr.heap.size (wr.heap.size + 1) (w0.heap.size + 1 + 1) rb nv uv rv v0 xa xb zu zr xs us rs (upd L 10) W' := by
  have hne : ∀ k, k < w0.heap.size + 1 + 1 → some k ≠ v0.ownBlock := fun k hk => hv.ne (.inl hk)
  refine ⟨⟨?_, ?_, ?_⟩, Nat.le_trans h.sz hg.size, ?_, fun e => ?_, fun e => ?_, ?_, ?_⟩
  · exact h.co.1.trans ((Below.refl _ _).grown hg h.co.1.size (fun k hk => by have := (hv.lt k hk).1; omega))
  · exact grown_block hg h.co.2.1 (hne _ (by omega))
  · exact grown_block hg h.co.2.2 (hne _ (by omega))
  · exact grown_block hg h.pb (hv.ne (.inr (Nat.le_refl _)))
  · rw [upd_ne (by decide)] at e
    exact grown_block hg (h.bb e) (how.ne_block (h.bb e) (by decide))
  · simp [upd] at e
  · exact h.us.kept hg (h.us.ne_own how (by decide)) (fun _ _ e => e)
  · exact h.rs.kept hg (h.rs.ne_own how (by decide)) (fun _ _ e => e)
theorem CrE.of10 {N' : Nat} (hv : Own (ndE N' rb) wr N' 64 v0 xs) (hg : W.grownBy W' v0.ownBlock) : CrE (wr.heap.size + 1) 10 W W' :=
  ⟨hg.size, fun k h1 h2 => hg.block k h1 (fun e => by have := (hv.lt k (by rw [← e])).2; omega)⟩
theorem CrG.put12 {p M : Nat} {v z : Value} (h : CrG w0 b p M (w0.heap.size + 1 + 1) rb nv uv rv v0 xa xb zu zr xs us rs L W) (hbb : W.heap[b]? = some (.cells #[z, zu, zr] 45 (0, 0))) (hb : w0.heap.size + 1 + 1 ≤ b) :
    CrG w0 b p M (w0.heap.size + 1 + 1) rb nv uv rv v0 xa xb zu zr xs us rs (upd L 12) (W.setCell ⟨b, 0, none⟩ v) := by
  have gb := Gb.set hbb (o := 0) v
  refine ⟨h.co.set (by omega), by rw [setCell_size]; exact h.sz, ?_, fun e => by simp [upd] at e, fun e => ?_, h.us.gb gb (by decide), h.rs.gb gb (by decide)⟩
  · rw [setCell_other v (fun e => ?_)]
    · exact h.pb
    · subst e
      have := h.pb
      rw [hbb] at this
      injection this with this
      injection this with _ this
      exact absurd this (by decide)
  · rw [upd_ne (by decide)] at e
    exact (h.ow e).gbN gb
end

set_option maxRecDepth 100000 in
set_option maxHeartbeats 4000000 in
theorem gcopy_any (w : World) (B rb : Nat) (nv uv rv : Value) (g : Gr) (hg : GrM w B rb nv uv rv g) (n : Nat) (hok : GrOk n g) (hn : n ≤ 1000) :
    Calls Try.prog 24 #[.agg #[nv, uv, rv]] w fun e w' => ∃ rb' nv' uv' rv', e = .returned (.agg #[nv', uv', rv']) ∧ GrM w' w.heap.size rb' nv' uv' rv' g ∧ Below w.heap.size w w' := by
  obtain ⟨na, nc, ua, uc, rc, rfl, rfl, rfl⟩ := hg.forms
  have hul := hok.ul
  have hrl := hok.rl
  rw [hul, hrl] at hg ⊢
  have HGM := Lib.hid hg
  have HOK := Lib.hid hok
  have hnl : g.nodes.length ≤ 1000 := Nat.le_trans hok.nl hn
  have HUL := Lib.hid hul
  have HRL := Lib.hid hrl
  clear hg hok hul hrl
  go_enter Try.func24, Try.ntmps24
  go_wp2_with fail
  go_cut [3] (fun v W => CoCut w (.slice na g.nodes.length nc) (.slice ua 32 uc) (.slice (some ⟨rb, 0, none⟩) 32 rc) g.used g.roots v W)
  case first =>
    refine wp_region_facts2 (by kernel_rfl) (fun _ => CoG w (.slice na g.nodes.length nc) (.slice ua 32 uc) (.slice (some ⟨rb, 0, none⟩) 32 rc)) CoE (CoF w.heap.size (w.heap.size + 1 + 1) (.slice ua 32 uc) (.slice (some ⟨rb, 0, none⟩) 32 rc) g.used g.roots) coLoc (by kernel_rfl) (by kernel_rfl) (by kernel_rfl) (CoF.loc _ _ _ _ _ _) (fun i j a W W' h _ => CoF.stab _ _ _ _ _ _ i j a W W' h) ?_ ?_ ?_
    · exact ⟨(((Below.refl _ _).alloc (Nat.le_refl _) _).alloc (by simp) _).drew, alloc_block (heap_alloc_new _ _), heap_alloc_at _ _ _ (by simp)⟩
    · refine RSteps2.cons (RStep2.mk rfl rfl fun t W hsz hout L hun hdn hG hdep K hK => ?_) ?_
      · have HS : Hid (6 < t.size) := Lib.hid (by rw [show t.size = 34 from hsz]; decide)
        clear hsz hun hdn
        have t1 : t[1]? = some (.pointer (some ⟨w.heap.size, 0, none⟩)) := hout 1 (by kernel_rfl)
        clear hout hdep
        go_simp
        exact hK.out _ _ hG (Gw.refl _) (put_here HS.out)
      refine RSteps2.cons (RStep2.mk rfl rfl fun t W hsz hout L hun hdn hG hdep K hK => ?_) ?_
      · have HS : Hid (7 < t.size) := Lib.hid (by rw [show t.size = 34 from hsz]; decide)
        clear hsz hun hdn
        have t0 : t[6]? = some (.pointer (some ⟨w.heap.size, 1, none⟩)) := hdep 0 (by kernel_rfl)
        have hc := hG.cells.2.1
        have hsz := hG.size
        have hsa : w.heap.size < W.heap.size := by omega
        clear hout hdep
        go_simp
        exact hK.out _ _ hG (Gw.refl _) (put_here HS.out)
      refine RSteps2.cons (RStep2.mk rfl rfl fun t W hsz hout L hun hdn hG hdep K hK => ?_) ?_
      · have HS : Hid (8 < t.size) := Lib.hid (by rw [show t.size = 34 from hsz]; decide)
        clear hsz hun hdn
        have t0 : t[7]? = some _ := hdep 1 (by kernel_rfl)
        have hrd := (HGM.out.below (hG.1)).used.rd
        clear hout hdep
        refine wp_append_rd boolE boolS _ _ rfl (w.heap.size + 1 + 1) (.slice none 0 0) [] rfl (Own.nil _ _ _ _) _ g.used (eval_tmp t0) hrd one_bool (by have := HUL.out; simp; omega) (by have := HUL.out; unfold maxLen; simp; omega) hG.size (fun _ _ _ _ h => h) ?_
        intro v' w' ho hg2 hb2 _
        exact hK.out _ _ (hG.gw hg2) (Gw.of_none hg2) ⟨_, put_here HS.out, ho⟩
      refine RSteps2.cons (RStep2.mk rfl rfl fun t W hsz hout L hun hdn hG hdep K hK => ?_) ?_
      · have HS : Hid (9 < t.size) := Lib.hid (by rw [show t.size = 34 from hsz]; decide)
        clear hsz hun hdn
        have t1 : t[1]? = some (.pointer (some ⟨w.heap.size, 0, none⟩)) := hout 1 (by kernel_rfl)
        clear hout hdep
        go_simp
        exact hK.out _ _ hG (Gw.refl _) (put_here HS.out)
      refine RSteps2.cons (RStep2.mk rfl rfl fun t W hsz hout L hun hdn hG hdep K hK => ?_) ?_
      · have HS : Hid (10 < t.size) := Lib.hid (by rw [show t.size = 34 from hsz]; decide)
        clear hsz hun hdn
        have t0 : t[9]? = some (.pointer (some ⟨w.heap.size, 2, none⟩)) := hdep 3 (by kernel_rfl)
        have hc := hG.cells.2.2
        have hsz := hG.size
        have hsa : w.heap.size < W.heap.size := by omega
        clear hout hdep
        go_simp
        exact hK.out _ _ hG (Gw.refl _) (put_here HS.out)
      refine RSteps2.cons (RStep2.mk rfl rfl fun t W hsz hout L hun hdn hG hdep K hK => ?_) ?_
      · have HS : Hid (11 < t.size) := Lib.hid (by rw [show t.size = 34 from hsz]; decide)
        clear hsz hun hdn
        have t0 : t[10]? = some _ := hdep 4 (by kernel_rfl)
        have hrd := (HGM.out.below (hG.1)).roots.rd
        clear hout hdep
        refine wp_append_rd i64E i64S _ _ rfl (w.heap.size + 1 + 1) (.slice none 0 0) [] rfl (Own.nil _ _ _ _) _ g.roots (eval_tmp t0) hrd one_i64 (by have := HRL.out; simp; omega) (by have := HRL.out; unfold maxLen; simp; omega) hG.size (fun _ _ _ _ h => h) ?_
        intro v' w' ho hg2 hb2 _
        exact hK.out _ _ (hG.gw hg2) (Gw.of_none hg2) ⟨_, put_here HS.out, ho⟩
      refine RSteps2.cons (RStep2.mk rfl rfl fun t W hsz hout L hun hdn hG hdep K hK => ?_) ?_
      · have HS : Hid (12 < t.size) := Lib.hid (by rw [show t.size = 34 from hsz]; decide)
        clear hsz hun hdn
        obtain ⟨u, t8, hu⟩ := hdep 2 (by kernel_rfl)
        obtain ⟨r, t11, hr⟩ := hdep 5 (by kernel_rfl)
        obtain ⟨ua', uc', rfl⟩ := own_form hu
        obtain ⟨ra', rc', rfl⟩ := own_form hr
        rw [HUL.out] at t8
        rw [HRL.out] at t11
        have t8' : t[8]? = some (.slice ua' 32 uc') := t8
        have t11' : t[11]? = some (.slice ra' 32 rc') := t11
        rw [HUL.out] at hu
        rw [HRL.out] at hr
        clear hout hdep t8 t11
        go_simp
        exact hK.out _ _ hG (Gw.refl _) ⟨_, _, put_here HS.out, hu, hr⟩
      refine RSteps2.cons (RStep2.mk rfl rfl fun t W hsz hout L hun hdn hG hdep K hK => ?_) ?_
      · have HS : Hid (3 < t.size) := Lib.hid (by rw [show t.size = 34 from hsz]; decide)
        clear hsz hun hdn
        clear hout hdep
        go_simp
        exact hK.out _ _ (hG.gw (World.grownBy_alloc _ _ _)) (Gw.alloc _ _) ⟨_, put_here HS.out, hG.size, _, _, _, heap_alloc_new _ _⟩
      refine RSteps2.cons (RStep2.mk rfl rfl fun t W hsz hout L hun hdn hG hdep K hK => ?_) ?_
      · clear hsz hun hdn
        obtain ⟨u, r, t12, hu, hr⟩ := hdep 6 (by kernel_rfl)
        obtain ⟨b, t3, hb, z0, z1, z2, hk⟩ := hdep 7 (by kernel_rfl)
        obtain ⟨ua', uc', rfl⟩ := own_form hu
        obtain ⟨ra', rc', rfl⟩ := own_form hr
        rw [HUL.out, HRL.out] at t12
        rw [HUL.out] at hu
        rw [HRL.out] at hr
        have c0 : W.cell? ⟨b, 0, none⟩ = some z0 := by rw [cell_block hk]; rfl
        have c1 : W.cell? ⟨b, 1, none⟩ = some z1 := by rw [cell_block hk]; rfl
        have c2 : W.cell? ⟨b, 2, none⟩ = some z2 := by rw [cell_block hk]; rfl
        have f0 : W.frozen? ⟨b, 0, none⟩ = false := frozen_block hk
        have f1 : W.frozen? ⟨b, 1, none⟩ = false := frozen_block hk
        have f2 : W.frozen? ⟨b, 2, none⟩ = false := frozen_block hk
        have hbl := block_lt hk
        have t3' : t[3]? = some (.pointer (some ⟨b, 0, none⟩)) := t3
        have t12' : t[12]? = some (.agg #[.slice none 0 0, .slice ua' 32 uc', .slice ra' 32 rc']) := t12
        have T3 := Lib.hid t3
        clear hout hdep t3 t12
        go_simp
        have g0 := Gb.set hk (o := 0) (Value.slice none 0 0)
        have k0 := setCell_block (o := 0) hk (Value.slice none 0 0)
        have g1 := Gb.set k0 (o := 1) (Value.slice ua' 32 uc')
        have k1 := setCell_block (o := 1) k0 (Value.slice ua' 32 uc')
        have g2 := Gb.set k1 (o := 2) (Value.slice ra' 32 rc')
        have k2 := setCell_block (o := 2) k1 (Value.slice ra' 32 rc')
        have gg := (g0.trans g1).trans g2
        exact hK.out undef _ (((hG.set (by omega)).set (by omega)).set (by omega)) gg ⟨b, _, _, T3.out, hb, k2, hu.gb gg (by decide), hr.gb gg (by decide)⟩
      exact RSteps2.nil (by decide)
    · intro a' W hR
      have hG := hR.g
      have o4 := hR.out 4 (by kernel_rfl)
      have o5 := hR.out 5 (by kernel_rfl)
      obtain ⟨b, u, r, t3, hb, hk, hu, hr⟩ := hR.all (i := 8) (by decide)
      obtain ⟨us, hus, rfl⟩ := hR.frame rfl 3 10 (by intro k hk; simp [writes]; omega) (by simp)
      clear hR
      obtain ⟨v0, us0, rfl, hus0⟩ := list_next hus
      obtain ⟨v1, us1, rfl, hus1⟩ := list_next hus0
      obtain ⟨v2, us2, rfl, hus2⟩ := list_next hus1
      obtain ⟨v3, us3, rfl, hus3⟩ := list_next hus2
      obtain ⟨v4, us4, rfl, hus4⟩ := list_next hus3
      obtain ⟨v5, us5, rfl, hus5⟩ := list_next hus4
      obtain ⟨v6, us6, rfl, hus6⟩ := list_next hus5
      obtain ⟨v7, us7, rfl, hus7⟩ := list_next hus6
      obtain ⟨v8, us8, rfl, hus8⟩ := list_next hus7
      obtain ⟨v9, us9, rfl, hus9⟩ := list_next hus8
      obtain rfl := list_none hus9
      simp only [List.take_succ_cons, List.take_zero, List.drop_succ_cons, List.drop_zero, List.cons_append, List.nil_append] at t3 o4 o5 ⊢
      have e1 : v0 = .pointer (some ⟨b, 0, none⟩) := by simpa using t3
      have e4 : v1 = undef := by simpa using o4
      have e5 : v2 = undef := by simpa using o5
      subst e1 e4 e5
      have HC : Hid (CoCut w (.slice na g.nodes.length nc) (.slice ua 32 uc) (.slice (some ⟨rb, 0, none⟩) 32 rc) g.used g.roots (.pointer (some ⟨b, 0, none⟩)) W) := Lib.hid ⟨b, u, r, rfl, hb, hk, hu, hr, hG⟩
      clear hG hk hu hr t3 o4 o5
      go_wp2_with fail
      go_meet
      case rel => exact HC.out
  case rest =>
    obtain ⟨b, u, r, rfl, hb, hk, hu, hr, hG⟩ := hcut.out
    clear hcut
    obtain ⟨ua', uc', rfl⟩ := own_form hu
    rw [HUL.out] at hk hu
    obtain ⟨rb', rc', rfl, hr1, hr2, hr3, hr4, _⟩ := hr.at1 (k := 0) (by have := HRL.out; omega)
    rw [HRL.out] at hk hr hr1
    have c0 : wc.cell? ⟨w.heap.size, 0, none⟩ = some (.slice na g.nodes.length nc) := hG.cells.1
    have hsz := hG.size
    have hsa : w.heap.size < wc.heap.size := by omega
    have HL : Hid (CoLoop w b (.slice na g.nodes.length nc) (.slice ua 32 uc) (.slice (some ⟨rb, 0, none⟩) 32 rc) ua' uc' rb' rc' g (.int .i64 0) wc) := Lib.hid ⟨0, .slice none 0 0, Nat.zero_le _, rfl, Own.nil _ _ _ _, hk, hu, hr, hb, hG⟩
    clear hk hu hr hG
    go_wp2
    go_loopw [16] (fun i wr => CoLoop w b (.slice na g.nodes.length nc) (.slice ua 32 uc) (.slice (some ⟨rb, 0, none⟩) 32 rc) ua' uc' rb' rc' g i wr) (fun i _ => g.nodes.length - (intOf i).toNat)
    case atStart => exact HL.out
    case round =>
      obtain ⟨k, v, hkl, rfl, hv, hk, hu, hr, hb, hG⟩ := hrel.out
      clear hrel
      obtain ⟨va, vc, rfl⟩ := own_form hv
      rw [List.length_take_of_le hkl] at hv hk
      by_cases hlt : k < g.nodes.length
      · obtain ⟨q, xa, xb, rfl, hq1, hq2, hqc0, hqc1, hxa, hxb⟩ := HGM.out.node_at hlt
        obtain ⟨ra, rac, rfl⟩ := own_form hxa
        obtain ⟨da, dac, rfl⟩ := own_form hxb
        have x0 : wr.cell? ⟨q, k * 2, none⟩ = some (.slice ra (g.nodes[k]).refs.length rac) := (hG.1.cell (p := ⟨q, k * 2, none⟩) hq2).trans hqc0
        have x1 : wr.cell? ⟨q, k * 2 + 1, none⟩ = some (.slice da (g.nodes[k]).data.length dac) := (hG.1.cell (p := ⟨q, k * 2 + 1, none⟩) hq2).trans hqc1
        have y0 : wr.cell? ⟨b, 0, none⟩ = some (.slice va k vc) := by rw [cell_block hk]; rfl
        have hqs : q < wr.heap.size := Nat.lt_of_lt_of_le hq2 hG.1.size
        have hbl := block_lt hk
        have hrbl := (hr.lt rb' rfl).2
        have HV := Lib.hid hv
        have HK := Lib.hid hk
        have HU := Lib.hid hu
        have HR := Lib.hid hr
        have HG := Lib.hid hG
        have HXA := Lib.hid hxa
        have HXB := Lib.hid hxb
        clear hv hk hu hr hG hqc0 hqc1 hxa hxb
        have HND := Lib.hid (HOK.out.node g.nodes[k] (List.getElem_mem hlt))
        go_wp2_with fail
        refine wp_region_facts2 (by kernel_rfl) (CrG w b wr.heap.size (wr.heap.size + 1) (w.heap.size + 1 + 1) rb' (.slice (some ⟨q, 0, none⟩) g.nodes.length nc) (.slice ua 32 uc) (.slice (some ⟨rb, 0, none⟩) 32 rc) (.slice va k vc) (.slice ra (g.nodes[k]).refs.length rac) (.slice da (g.nodes[k]).data.length dac) (.slice ua' 32 uc') (.slice (some ⟨rb', 0, none⟩) 32 rc') (g.nodes.take k) g.used g.roots) (CrE (wr.heap.size + 1)) (CrF b wr.heap.size (wr.heap.size + 1) (w.heap.size + 1 + 1) rb' (.slice va k vc) (.slice ra (g.nodes[k]).refs.length rac) (.slice da (g.nodes[k]).data.length dac) (.slice ua' 32 uc') (.slice (some ⟨rb', 0, none⟩) 32 rc') g.nodes[k] (g.nodes.take k)) crLoc (by kernel_rfl) (by kernel_rfl) (by kernel_rfl) (CrF.loc _ _ _ _ _ _ _ _ _ _ _ _) (fun i j a W W' h hd => CrF.stab _ _ _ _ _ _ _ _ _ _ _ _ i j a W W' h (fun e => by
            obtain ⟨rfl, rfl⟩ := e
            rw [show (deps _ 12).contains 10 = true by kernel_rfl] at hd
            cases hd)) ?_ ?_ ?_
        · exact ⟨HG.out.gw (grown_drew (World.grownBy_alloc _ _ _) 1), by simp, heap_alloc_new _ _, fun _ => alloc_block HK.out, fun _ => HV.out.alloc _, HU.out.alloc _, HR.out.alloc _⟩
        · refine RSteps2.cons (RStep2.mk rfl rfl fun t W hsz hout L hun hdn hG hdep K hK => ?_) ?_
          · have HS : Hid (20 < t.size) := Lib.hid (by rw [show t.size = 34 from hsz]; decide)
            clear hsz
            have t0 : t[3]? = some (.pointer (some ⟨b, 0, none⟩)) := hout 3 (by kernel_rfl)
            clear hout hdep hun hdn
            go_simp
            exact hK.out _ _ (hG.same (by decide) (by decide)) (Gw.refl _) (put_here HS.out)
          refine RSteps2.cons (RStep2.mk rfl rfl fun t W hsz hout L hun hdn hG hdep K hK => ?_) ?_
          · have HS : Hid (21 < t.size) := Lib.hid (by rw [show t.size = 34 from hsz]; decide)
            clear hsz
            have t0 : t[20]? = some (.pointer (some ⟨b, 0, none⟩)) := hdep 0 (by kernel_rfl)
            have hbb := hG.bb (hdn 12 (by kernel_rfl))
            have cc : W.cell? ⟨b, 0, none⟩ = some (.slice va k vc) := by rw [cell_block hbb]; rfl
            have hbl2 := block_lt hbb
            clear hbb
            clear hout hdep hun hdn
            go_simp
            exact hK.out _ _ (hG.same (by decide) (by decide)) (Gw.refl _) (put_here HS.out)
          refine RSteps2.cons (RStep2.mk rfl rfl fun t W hsz hout L hun hdn hG hdep K hK => ?_) ?_
          · have HS : Hid (22 < t.size) := Lib.hid (by rw [show t.size = 34 from hsz]; decide)
            clear hsz
            have t0 : t[5]? = some (.pointer (some ⟨wr.heap.size, 0, none⟩)) := hout 5 (by kernel_rfl)
            clear hout hdep hun hdn
            go_simp
            exact hK.out _ _ (hG.same (by decide) (by decide)) (Gw.refl _) (put_here HS.out)
          refine RSteps2.cons (RStep2.mk rfl rfl fun t W hsz hout L hun hdn hG hdep K hK => ?_) ?_
          · have HS : Hid (23 < t.size) := Lib.hid (by rw [show t.size = 34 from hsz]; decide)
            clear hsz
            have t0 : t[22]? = some (.pointer (some ⟨wr.heap.size, 0, none⟩)) := hdep 2 (by kernel_rfl)
            have cc : W.cell? ⟨wr.heap.size, 0, none⟩ = some (.slice ra (g.nodes[k]).refs.length rac) := by rw [cell_block hG.pb]; rfl
            have hbl2 := block_lt hG.pb
            clear hout hdep hun hdn
            go_simp
            exact hK.out _ _ (hG.same (by decide) (by decide)) (Gw.refl _) (put_here HS.out)
          refine RSteps2.cons (RStep2.mk rfl rfl fun t W hsz hout L hun hdn hG hdep K hK => ?_) ?_
          · have HS : Hid (24 < t.size) := Lib.hid (by rw [show t.size = 34 from hsz]; decide)
            clear hsz
            have t0 : t[23]? = some _ := hdep 3 (by kernel_rfl)
            have hrd := (HXA.out.below hG.co.1).rd
            clear hout hdep hun hdn
            refine wp_append_rd i64E i64S _ _ rfl (wr.heap.size + 1) (.slice none 0 0) [] rfl (Own.nil _ _ _ _) _ (g.nodes[k]).refs (eval_tmp t0) hrd one_i64 (by have := HND.out.1; simp; omega) (by have := HND.out.1; unfold maxLen; simp; omega) hG.sz (fun _ _ _ _ h => h) ?_
            intro v' w' ho hg2 hb2 _
            exact hK.out _ _ (hG.gw hg2 (by decide) (by decide)) (Gw.of_none hg2) ⟨_, put_here HS.out, ho⟩
          refine RSteps2.cons (RStep2.mk rfl rfl fun t W hsz hout L hun hdn hG hdep K hK => ?_) ?_
          · have HS : Hid (25 < t.size) := Lib.hid (by rw [show t.size = 34 from hsz]; decide)
            clear hsz
            have t0 : t[5]? = some (.pointer (some ⟨wr.heap.size, 0, none⟩)) := hout 5 (by kernel_rfl)
            clear hout hdep hun hdn
            go_simp
            exact hK.out _ _ (hG.same (by decide) (by decide)) (Gw.refl _) (put_here HS.out)
          refine RSteps2.cons (RStep2.mk rfl rfl fun t W hsz hout L hun hdn hG hdep K hK => ?_) ?_
          · have HS : Hid (26 < t.size) := Lib.hid (by rw [show t.size = 34 from hsz]; decide)
            clear hsz
            have t0 : t[25]? = some (.pointer (some ⟨wr.heap.size, 1, none⟩)) := hdep 5 (by kernel_rfl)
            have cc : W.cell? ⟨wr.heap.size, 1, none⟩ = some (.slice da (g.nodes[k]).data.length dac) := by rw [cell_block hG.pb]; rfl
            have hbl2 := block_lt hG.pb
            clear hout hdep hun hdn
            go_simp
            exact hK.out _ _ (hG.same (by decide) (by decide)) (Gw.refl _) (put_here HS.out)
          refine RSteps2.cons (RStep2.mk rfl rfl fun t W hsz hout L hun hdn hG hdep K hK => ?_) ?_
          · have HS : Hid (27 < t.size) := Lib.hid (by rw [show t.size = 34 from hsz]; decide)
            clear hsz
            have t0 : t[26]? = some _ := hdep 6 (by kernel_rfl)
            have hrd := (HXB.out.below hG.co.1).rd
            clear hout hdep hun hdn
            refine wp_append_rd u64E u64S _ _ rfl (wr.heap.size + 1) (.slice none 0 0) [] rfl (Own.nil _ _ _ _) _ (g.nodes[k]).data (eval_tmp t0) hrd one_u64 (by have := HND.out.2.1; simp; omega) (by have := HND.out.2.1; unfold maxLen; simp; omega) hG.sz (fun _ _ _ _ h => h) ?_
            intro v' w' ho hg2 hb2 _
            exact hK.out _ _ (hG.gw hg2 (by decide) (by decide)) (Gw.of_none hg2) ⟨_, put_here HS.out, ho⟩
          refine RSteps2.cons (RStep2.mk rfl rfl fun t W hsz hout L hun hdn hG hdep K hK => ?_) ?_
          · have HS : Hid (28 < t.size) := Lib.hid (by rw [show t.size = 34 from hsz]; decide)
            clear hsz
            obtain ⟨u, t24, hu⟩ := hdep 4 (by kernel_rfl)
            obtain ⟨d, t27, hd⟩ := hdep 7 (by kernel_rfl)
            obtain ⟨u1, u2, rfl⟩ := own_form hu
            obtain ⟨d1, d2, rfl⟩ := own_form hd
            have t24' : t[24]? = some (.slice u1 (g.nodes[k]).refs.length u2) := t24
            have t27' : t[27]? = some (.slice d1 (g.nodes[k]).data.length d2) := t27
            clear hout hdep hun hdn t24 t27
            go_simp
            exact hK.out _ _ (hG.same (by decide) (by decide)) (Gw.refl _) ⟨_, _, put_here HS.out, hu, hd⟩
          refine RSteps2.cons (RStep2.mk rfl rfl fun t W hsz hout L hun hdn hG hdep K hK => ?_) ?_
          · have HS : Hid (29 < t.size) := Lib.hid (by rw [show t.size = 34 from hsz]; decide)
            clear hsz
            obtain ⟨u, d, t28, hu, hd⟩ := hdep 8 (by kernel_rfl)
            obtain ⟨u1, u2, rfl⟩ := own_form hu
            obtain ⟨d1, d2, rfl⟩ := own_form hd
            have t28' : t[28]? = some (.agg #[.slice u1 (g.nodes[k]).refs.length u2, .slice d1 (g.nodes[k]).data.length d2]) := t28
            clear hout hdep hun hdn t28
            go_simp
            exact hK.out _ _ (hG.gw (World.grownBy_alloc _ _ _) (by decide) (by decide)) (Gw.alloc _ _) ⟨_, _, _, put_here HS.out, hG.sz, heap_alloc_new _ _, hu.alloc _, hd.alloc _⟩
          refine RSteps2.cons (RStep2.mk rfl rfl fun t W hsz hout L hun hdn hG hdep K hK => ?_) ?_
          · have HS : Hid (30 < t.size) := Lib.hid (by rw [show t.size = 34 from hsz]; decide)
            clear hsz
            have t21 : t[21]? = some (.slice va k vc) := hdep 1 (by kernel_rfl)
            obtain ⟨q', u, d, t29, hq', hk', hu, hd⟩ := hdep 9 (by kernel_rfl)
            have how := hG.ow hun
            have hL12 := hdn 12 (by kernel_rfl)
            clear hout hdep
            refine wp_append_lit1 (ndE (w.heap.size + 1 + 1) rb') ndS _ _ rfl (w.heap.size + 1 + 1) (.slice va k vc) (g.nodes.take k) (eval_tmp t21) how g.nodes[k] #[u, d] q' (eval_tmp t29) hk' ⟨u, d, rfl, hu.base (by omega), hd.base (by omega), fun e => by have := (hu.lt _ e).1; omega⟩ (by have h1 := own_form hu; have h2 := own_form hd; obtain ⟨_, _, rfl⟩ := h1; obtain ⟨_, _, rfl⟩ := h2; simp [Value.oneCell']) (by simp; omega) (by unfold maxLen; simp; omega) (by have := hG.sz; have := hG.co.size; omega) (fun w' x cs hg2 hrel => ndE_grown hg2 how hrel) ?_
            intro v' w' ho hg2 hb2
            exact hK.out _ _ (hG.put10 (HV.out) hg2 how hL12) (CrE.of10 HV.out hg2) ⟨_, put_here HS.out, ho⟩
          refine RSteps2.cons (RStep2.mk rfl rfl fun t W hsz hout L hun hdn hG hdep K hK => ?_) ?_
          · have HS : Hid (31 < t.size) := Lib.hid (by rw [show t.size = 34 from hsz]; decide)
            clear hsz
            have t0 : t[3]? = some (.pointer (some ⟨b, 0, none⟩)) := hout 3 (by kernel_rfl)
            clear hout hdep hun hdn
            go_simp
            exact hK.out _ _ (hG.same (by decide) (by decide)) (Gw.refl _) (put_here HS.out)
          refine RSteps2.cons (RStep2.mk rfl rfl fun t W hsz hout L hun hdn hG hdep K hK => ?_) ?_
          · clear hsz
            obtain ⟨v', t30, hv'⟩ := hdep 10 (by kernel_rfl)
            have t31 : t[31]? = some (.pointer (some ⟨b, 0, none⟩)) := hdep 11 (by kernel_rfl)
            obtain ⟨v1, v2, rfl⟩ := own_form hv'
            have t30' : t[30]? = some (.slice v1 (g.nodes.take k ++ [g.nodes[k]]).length v2) := t30
            have hbb := hG.bb hun
            have f0 : W.frozen? ⟨b, 0, none⟩ = false := frozen_block hbb
            have cc : W.cell? ⟨b, 0, none⟩ = some (.slice va k vc) := by rw [cell_block hbb]; rfl
            have hbl2 := block_lt hbb
            generalize hln : (g.nodes.take k ++ [g.nodes[k]]).length = ln at *
            have HB := Lib.hid hbb
            have HLN := Lib.hid hln
            clear hout hdep hun hdn t30 hbb hln
            go_simp
            exact hK.out undef _ (hG.put12 HB.out hb) (Gb.set HB.out _) ⟨_, hv'.gbN (Gb.set HB.out _), by rw [setCell_block HB.out]; rfl⟩
          exact RSteps2.nil (by decide)
        · intro a' W hR
          have hG := hR.g
          obtain ⟨v', hv', hk'⟩ := hR.all (i := 12) (by decide)
          obtain ⟨us, hus, rfl⟩ := hR.frame rfl 20 12 (by intro k hk; simp [writes]; omega) (by simp)
          clear hR
          obtain ⟨y0, us0, rfl, hus0⟩ := list_next hus
          obtain ⟨y1, us1, rfl, hus1⟩ := list_next hus0
          obtain ⟨y2, us2, rfl, hus2⟩ := list_next hus1
          obtain ⟨y3, us3, rfl, hus3⟩ := list_next hus2
          obtain ⟨y4, us4, rfl, hus4⟩ := list_next hus3
          obtain ⟨y5, us5, rfl, hus5⟩ := list_next hus4
          obtain ⟨y6, us6, rfl, hus6⟩ := list_next hus5
          obtain ⟨y7, us7, rfl, hus7⟩ := list_next hus6
          obtain ⟨y8, us8, rfl, hus8⟩ := list_next hus7
          obtain ⟨y9, us9, rfl, hus9⟩ := list_next hus8
          obtain ⟨y10, us10, rfl, hus10⟩ := list_next hus9
          obtain ⟨y11, us11, rfl, hus11⟩ := list_next hus10
          obtain rfl := list_none hus11
          simp only [List.take_succ_cons, List.take_zero, List.drop_succ_cons, List.drop_zero, List.cons_append, List.nil_append]
          have HC : Hid (CoLoop w b (.slice (some ⟨q, 0, none⟩) g.nodes.length nc) (.slice ua 32 uc) (.slice (some ⟨rb, 0, none⟩) 32 rc) ua' uc' rb' rc' g (.int .i64 ((k : Int) + 1)) W) := Lib.hid ⟨k + 1, v', hlt, by norm_cast, by rw [List.take_succ_eq_append_getElem hlt]; exact hv', hk', hG.us, hG.rs, hb, hG.co⟩
          clear hG hv' hk'
          go_wp2
          go_roundw
          case rel => exact HC.out
          case measure => simp [intOf]; omega
      · obtain rfl : k = g.nodes.length := by omega
        have hrbl := hr.lt rb' rfl
        have y0 : wr.cell? ⟨b, 0, none⟩ = some (.slice va g.nodes.length vc) := by rw [cell_block hk]; rfl
        have y1 : wr.cell? ⟨b, 1, none⟩ = some (.slice ua' 32 uc') := by rw [cell_block hk]; rfl
        have y2 : wr.cell? ⟨b, 2, none⟩ = some (.slice (some ⟨rb', 0, none⟩) 32 rc') := by rw [cell_block hk]; rfl
        have hbl := block_lt hk
        have d0 : wr.cell? ⟨w.heap.size + 1, 0, none⟩ = some (.slice none 0 0) := by rw [cell_block hG.2.2]; rfl
        have d1 : wr.cell? ⟨w.heap.size + 1, 1, none⟩ = some (.slice none 0 0) := by rw [cell_block hG.2.2]; rfl
        have d2 : wr.cell? ⟨w.heap.size + 1, 2, none⟩ = some (.slice none 0 0) := by rw [cell_block hG.2.2]; rfl
        have f0 : wr.frozen? ⟨w.heap.size + 1, 0, none⟩ = false := frozen_block hG.2.2
        have f1 : wr.frozen? ⟨w.heap.size + 1, 1, none⟩ = false := frozen_block hG.2.2
        have f2 : wr.frozen? ⟨w.heap.size + 1, 2, none⟩ = false := frozen_block hG.2.2
        have hwl := block_lt hG.2.2
        rw [List.take_length] at hv
        have HV := Lib.hid hv
        have HU := Lib.hid hu
        have HR := Lib.hid hr
        have HB := Lib.hid hG.1
        have HW := Lib.hid hG.2.2
        clear hv hk hu hr hG
        go_wp2
        have g0 := Gb.set HW.out (o := 0) (.slice va g.nodes.length vc)
        have k0 := setCell_block (o := 0) HW.out (.slice va g.nodes.length vc)
        have g1 := Gb.set k0 (o := 1) (.slice ua' 32 uc')
        have k1 := setCell_block (o := 1) k0 (.slice ua' 32 uc')
        have g2 := Gb.set k1 (o := 2) (.slice (some ⟨rb', 0, none⟩) 32 rc')
        have gg := Lib.hid ((g0.trans g1).trans g2)
        have k3 := set3_block HW.out (.slice va g.nodes.length vc) (.slice ua' 32 uc') (.slice (some ⟨rb', 0, none⟩) 32 rc')
        have HBB := Lib.hid (bset (b := w.heap.size + 1) (o := 2) (bset (b := w.heap.size + 1) (o := 1) (bset (b := w.heap.size + 1) (o := 0) HB.out (by omega) (.slice va g.nodes.length vc)) (by omega) (.slice ua' 32 uc')) (by omega) (.slice (some ⟨rb', 0, none⟩) 32 rc'))
        clear g0 k0 g1 k1 g2
        generalize ((wr.setCell ⟨w.heap.size + 1, 0, none⟩ (.slice va g.nodes.length vc)).setCell ⟨w.heap.size + 1, 1, none⟩ (.slice ua' 32 uc')).setCell ⟨w.heap.size + 1, 2, none⟩ (.slice (some ⟨rb', 0, none⟩) 32 rc') = Wf at k3 gg HBB ⊢
        have e0 : Wf.cell? ⟨w.heap.size + 1, 0, none⟩ = some (.slice va g.nodes.length vc) := by rw [cell_block k3]; rfl
        have e1 : Wf.cell? ⟨w.heap.size + 1, 1, none⟩ = some (.slice ua' 32 uc') := by rw [cell_block k3]; rfl
        have e2 : Wf.cell? ⟨w.heap.size + 1, 2, none⟩ = some (.slice (some ⟨rb', 0, none⟩) 32 rc') := by rw [cell_block k3]; rfl
        refine bodyPost_ret (v := .agg #[.slice va g.nodes.length vc, .slice ua' 32 uc', .slice (some ⟨rb', 0, none⟩) 32 rc']) (by simp [results, Try.results24, go_sem, e0, e1, e2]) rfl ⟨rb', _, _, _, rfl, GrM.base (B := w.heap.size + 1 + 1) ⟨HV.out.gbN gg.out, HU.out.gb gg.out (by decide), HR.out.gb gg.out (by decide), rfl⟩ (by omega), HBB.out⟩
end Go.Proofs.Ytadoehlhfccacaa
