/- The loop at the head of one drawn operation: the handles in use. -/
import Derived.Test.YtadoehlhfccacaaOpD
namespace Go.Proofs.Ytadoehlhfccacaa
open Go.RowKit

def boolE : El Bool := flat 1 (fun b => [.bool b]) fun _ => rfl
/-- the numbers of those that are in use, from 1 on -/
def truesTo (bs : List Bool) (k : Nat) : List Int := ((List.range k).filter fun i => bs.getD i false).map fun (i : Nat) => ((i : Int) + 1)
def trues (bs : List Bool) : List Int := truesTo bs bs.length
theorem truesTo_succ (bs : List Bool) (k : Nat) : truesTo bs (k + 1) = truesTo bs k ++ (if bs.getD k false then [(k : Int) + 1] else []) := by
  unfold truesTo
  rw [List.range_succ, List.filter_append, List.map_append]
  congr 1
  simp only [List.filter_cons, List.filter_nil]
  split <;> rfl
theorem truesTo_le (bs : List Bool) (k : Nat) : (truesTo bs k).length ≤ k := by
  unfold truesTo
  rw [List.length_map]
  have := List.length_filter_le (fun i => bs.getD i false) (List.range k)
  simpa using this
theorem truesTo_bd (bs : List Bool) (k : Nat) : ∀ x ∈ truesTo bs k, 0 ≤ x ∧ x ≤ k := by
  intro x hx
  unfold truesTo at hx
  simp only [List.mem_map, List.mem_filter, List.mem_range] at hx
  obtain ⟨i, ⟨h1, _⟩, rfl⟩ := hx
  omega

theorem own_form {α : Type} {E : El α} {w : World} {B T : Nat} {v : Value} {xs : List α} (h : Own E w B T v xs) : ∃ ad cap, v = .slice ad xs.length cap := by
  obtain ⟨C, ⟨_, h2⟩, _⟩ := h
  rcases h2 with ⟨rfl, h2⟩ | ⟨g, cap, cur, hv, _⟩
  · exact ⟨none, 0, by rw [h2]⟩
  · exact ⟨_, cap, hv⟩

/-- a list of its own that reads so, whatever is written into a block below it -/
theorem RdX.of_own {α : Type} {f : α → List Value} {hf : ∀ x, (f x).length = 1} {g : Nat} {w : World} {B T : Nat} {v : Value} {xs : List α} (h : Own (flat 1 f hf) w B T v xs) (hg : g < B) : RdX (flat 1 f hf) g w v xs := by
  intro w' hk
  obtain ⟨C, ⟨h1, h2⟩, hel⟩ := h
  refine Own.rd (B := B) (T := T) ⟨C, ⟨h1, ?_⟩, hel⟩
  rcases h2 with h2 | ⟨g', cap, cur, hv, hB, hh, r⟩
  · exact .inl h2
  · exact .inr ⟨g', cap, cur, hv, hB, by rw [hk g' (Array.getElem?_eq_some_iff.1 hh).1 (by omega)]; exact hh, r⟩

theorem i64S : SlT Try.prog 29 3 1 8 (.int .i64 0) := ⟨Try.underlying29, by kernel_rfl, rfl, by decide⟩

/-- what stands at the head of a round -/
structure OpLs (w0 : World) (g : Nat) (bs : List Bool) (ad : Option Addr) (cap k : Nat) (zs : List Int) (W : World) : Prop where
  bel : Below w0.heap.size w0 W
  own : Own i64E W (w0.heap.size + 1 + 1 + 1 + 1) 3 (.slice ad zs.length cap) zs
  hzs : zs = truesTo bs k
  kd : W.heap[w0.heap.size]? = some (.cells #[.pointer (some ⟨g, 0, none⟩)] 31 (0, 0))
  kr : W.heap[w0.heap.size + 1 + 1]? = some (.cells #[.int .i64 0, .int .i64 0, .int .i64 0, .int .i64 0] 35 (0, 0))
  ku : W.heap[w0.heap.size + 1 + 1 + 1]? = some (.cells #[.slice ad zs.length cap] 29 (0, 0))

section
variable {w0 W : World} {g : Nat} {bs : List Bool} {ad : Option Addr} {cap k : Nat} {zs : List Int}
theorem OpLs.cu (h : OpLs w0 g bs ad cap k zs W) : W.cell? ⟨w0.heap.size + 1 + 1 + 1, 0, none⟩ = some (.slice ad zs.length cap) := by rw [cell_block h.ku]; rfl
theorem OpLs.fu (h : OpLs w0 g bs ad cap k zs W) : W.frozen? ⟨w0.heap.size + 1 + 1 + 1, 0, none⟩ = false := frozen_block h.ku
theorem OpLs.cd (h : OpLs w0 g bs ad cap k zs W) : W.cell? ⟨w0.heap.size, 0, none⟩ = some (.pointer (some ⟨g, 0, none⟩)) := by rw [cell_block h.kd]; rfl
theorem OpLs.size (h : OpLs w0 g bs ad cap k zs W) : w0.heap.size + 1 + 1 + 1 < W.heap.size := block_lt h.ku
theorem OpLs.zl (h : OpLs w0 g bs ad cap k zs W) : zs.length ≤ k := by rw [h.hzs]; exact truesTo_le _ _
theorem OpLs.zb (h : OpLs w0 g bs ad cap k zs W) : ∀ x ∈ zs, 0 ≤ x ∧ x ≤ k := by rw [h.hzs]; exact truesTo_bd _ _
theorem OpLs.old (h : OpLs w0 g bs ad cap k zs W) {b o : Nat} (hb : b < w0.heap.size) : W.cell? ⟨b, o, none⟩ = w0.cell? ⟨b, o, none⟩ := h.bel.cell (p := ⟨b, o, none⟩) hb
theorem OpLs.skip (h : OpLs w0 g bs ad cap k zs W) (hlt : k < bs.length) (hb : bs[k] = false) : OpLs w0 g bs ad cap (k + 1) zs W :=
  ⟨h.bel, h.own, by rw [truesTo_succ, ← h.hzs]; simp [hlt, hb], h.kd, h.kr, h.ku⟩
theorem OpLs.put {W' : World} {ad' : Option Addr} {cap' : Nat} {n : Nat} (h : OpLs w0 g bs ad cap k zs W) (hlt : k < bs.length) (hb : bs[k] = true) (hn : n = zs.length + 1)
    (ho : Own i64E W' (w0.heap.size + 1 + 1 + 1 + 1) 3 (.slice ad' (zs ++ [(k : Int) + 1]).length cap') (zs ++ [(k : Int) + 1])) (hb2 : Below (w0.heap.size + 1 + 1 + 1 + 1) W W') :
    OpLs w0 g bs ad' cap' (k + 1) (zs ++ [(k : Int) + 1]) (W'.setCell ⟨w0.heap.size + 1 + 1 + 1, 0, none⟩ (.slice ad' n cap')) := by
  obtain rfl : n = (zs ++ [(k : Int) + 1]).length := by simp [hn]
  have h4 : ∀ {b o}, b < w0.heap.size + 1 + 1 + 1 + 1 → W.heap[b]? = some o → W'.heap[b]? = some o := fun hb e => below_block hb2 hb e
  refine ⟨bset (h.bel.trans (hb2.mono (by omega))) (by omega) _, ho.kept (row := some (w0.heap.size + 1 + 1 + 1)) (grown_set _) ?_ (fun _ _ e => e), by rw [truesTo_succ, ← h.hzs]; simp [hlt, hb], ?_, ?_, ?_⟩
  · cases hob : (Value.slice ad' (zs ++ [(k : Int) + 1]).length cap').ownBlock with
    | none => exact .inl rfl
    | some q =>
      refine .inr fun e => ?_
      injection e with e
      have := (ho.lt q hob).1
      omega
  · rw [setCell_other _ (by omega)]; exact h4 (by omega) h.kd
  · rw [setCell_other _ (by omega)]; exact h4 (by omega) h.kr
  · rw [setCell_block (h4 (by omega) h.ku)]; rfl
theorem OpLs.fu2 {W' : World} (h : OpLs w0 g bs ad cap k zs W) (hb2 : Below (w0.heap.size + 1 + 1 + 1 + 1) W W') : W'.frozen? ⟨w0.heap.size + 1 + 1 + 1, 0, none⟩ = false := frozen_block (below_block hb2 (by omega) h.ku)
theorem OpLs.cu2 {W' : World} (h : OpLs w0 g bs ad cap k zs W) (hb2 : Below (w0.heap.size + 1 + 1 + 1 + 1) W W') : W'.cell? ⟨w0.heap.size + 1 + 1 + 1, 0, none⟩ = some (.slice ad zs.length cap) := by rw [cell_block (below_block hb2 (by omega) h.ku)]; rfl
/-- behind the loop and the first draw -/
theorem OpLs.op {B : Nat} {W1 : World} {o : Obj} (h : OpLs w0 g bs ad cap k zs W) (hg : (W.alloc o).grownBy W1 (some g)) (hd : Deck B W1 g) (hl : g < w0.heap.size) (_hB : B ≤ g) (hk : k = bs.length) (hbl : bs.length ≤ 250) : OpSt B w0 g ad cap zs W1 := by
  have hnb : ∀ k, w0.heap.size ≤ k → some k ≠ some g := fun k hk e => by injection e with e; omega
  refine ⟨⟨hl, hd, grown_trans (grown_below (grown_refl _ _) (h.bel.alloc h.bel.size _)) hg, grown_block hg (alloc_block h.kd) (hnb _ (by omega)), grown_block hg (alloc_block h.kr) (hnb _ (by omega))⟩,
    grown_block hg (alloc_block h.ku) (hnb _ (by omega)), (RdX.of_own (h.own.alloc _) (by omega)).grown hg, fun x hx => ?_⟩
  have := h.zb x hx
  omega
theorem OpLs.lenx (h : OpLs w0 g bs ad cap k zs W) (hk : k = bs.length) : decide (20 < zs.length) = decide (20 < (trues bs).length) := by rw [h.hzs, hk]; rfl
end

def OpLoop (w0 : World) (g : Nat) (bs : List Bool) (i : Value) (W : World) : Prop := ∃ (k : Nat) (zs : List Int) (ad : Option Addr) (cap : Nat), k ≤ bs.length ∧ i = .int .i64 k ∧ OpLs w0 g bs ad cap k zs W
theorem OpLoop.out {w0 : World} {g : Nat} {bs : List Bool} {i : Value} {W : World} (h : OpLoop w0 g bs i W) : ∃ (k : Nat) (zs : List Int) (ad : Option Addr) (cap : Nat), k ≤ bs.length ∧ i = .int .i64 k ∧ OpLs w0 g bs ad cap k zs W := h
theorem OpLoop.next {w0 : World} {g : Nat} {bs : List Bool} {k : Nat} {zs : List Int} {ad : Option Addr} {cap : Nat} {W : World} (hlt : k < bs.length) (h : OpLs w0 g bs ad cap (k + 1) zs W) : OpLoop w0 g bs (.int .i64 ((k : Int) + 1)) W :=
  ⟨k + 1, zs, ad, cap, hlt, by norm_cast, h⟩
theorem OpLoop.start {w : World} {g : Nat} (bs : List Bool) (b1 : Array Value) (t1 : TypeId) : OpLoop w g bs (.int .i64 0) ((((w.alloc (.cells #[.pointer (some ⟨g, 0, none⟩)] 31)).alloc (.cells b1 t1)).alloc (.cells #[.int .i64 0, .int .i64 0, .int .i64 0, .int .i64 0] 35)).alloc (.cells #[.slice none 0 0] 29)) :=
  ⟨0, [], none, 0, Nat.zero_le _, rfl, by repeat (first | exact Below.refl _ _ | refine Below.alloc ?_ (by first | exact Nat.le_refl _ | (simp; done) | (simp; omega)) _), Own.nil _ _ _ _, rfl,
    alloc_block (alloc_block (alloc_block (heap_alloc_new _ _))), alloc_block (heap_alloc_at _ _ _ (by simp)), heap_alloc_at _ _ _ (by simp)⟩
end Go.Proofs.Ytadoehlhfccacaa
