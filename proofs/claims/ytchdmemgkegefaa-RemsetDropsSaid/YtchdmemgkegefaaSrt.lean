/- The library's contracts of slices.Sort and slices.Compact over []int, laid at this program; what they do to a list. No condition. -/
import Derived.Test.YtchdmemgkegefaaInsO
import Derived.Test.YtchdmemgkegefaaRemP
import Derived.Shelf.Sort.Plain
import Derived.Shelf.Slices.In.SortNone
import Derived.Shelf.Slices.Cells
namespace Go.Proofs.Ytchdmemgkegefaa
open Go.RowKit
set_option linter.unusedVariables false
set_option linter.unusedSimpArgs false

def srtRen : Go.Shelf.Ren := ⟨fun | 189 => 61 | 125 => 79 | 257 => 78 | 128 => 97 | 129 => 98 | 294 => 89 | 295 => 90 | 296 => 91 | 297 => 92 | 298 => 93 | 299 => 94 | 216 => 73 | 300 => 95 | 301 => 96 | 328 => 104 | 329 => 105 | 330 => 106 | 331 => 107 | 332 => 108 | 215 => 87 | 343 => 109 | n => n, fun | 28 => 25 | 3 => 3 | 46 => 37 | 0 => 0 | 51 => 112 | 53 => 114 | 4 => 4 | 183 => 106 | 182 => 105 | 131 => 73 | 5 => 5 | 9 => 9 | 218 => 117 | 222 => 121 | 228 => 123 | 229 => 124 | n => n, fun n => n⟩
theorem srtLay : Lays.n189 Try.prog srtRen := {
  mixed := by kernel_rfl
  f125 := Try.func79.trans (congrArg some (by kernel_rfl))
  f128 := Try.func97.trans (congrArg some (by kernel_rfl))
  f129 := Try.func98.trans (congrArg some (by kernel_rfl))
  f189 := Try.func61.trans (congrArg some (by kernel_rfl))
  f215 := Try.func87.trans (congrArg some (by kernel_rfl))
  f216 := Try.func73.trans (congrArg some (by kernel_rfl))
  f257 := Try.func78.trans (congrArg some (by kernel_rfl))
  f294 := Try.func89.trans (congrArg some (by kernel_rfl))
  f295 := Try.func90.trans (congrArg some (by kernel_rfl))
  f296 := Try.func91.trans (congrArg some (by kernel_rfl))
  f297 := Try.func92.trans (congrArg some (by kernel_rfl))
  f298 := Try.func93.trans (congrArg some (by kernel_rfl))
  f299 := Try.func94.trans (congrArg some (by kernel_rfl))
  f300 := Try.func95.trans (congrArg some (by kernel_rfl))
  f301 := Try.func96.trans (congrArg some (by kernel_rfl))
  f328 := Try.func104.trans (congrArg some (by kernel_rfl))
  f329 := Try.func105.trans (congrArg some (by kernel_rfl))
  f330 := Try.func106.trans (congrArg some (by kernel_rfl))
  f331 := Try.func107.trans (congrArg some (by kernel_rfl))
  f332 := Try.func108.trans (congrArg some (by kernel_rfl))
  f343 := Try.func109.trans (congrArg some (by kernel_rfl))
  t0 := Try.underlying0
  a0 := Try.isAgg0
  z0 := Try.sizeOf0
  v0 := Try.zeroValue0
  t3 := Try.underlying3
  a3 := Try.isAgg3
  z3 := Try.sizeOf3
  v3 := Try.zeroValue3
  t4 := Try.underlying4
  a4 := Try.isAgg4
  z4 := Try.sizeOf4
  v4 := Try.zeroValue4
  t5 := Try.underlying5
  a5 := Try.isAgg5
  z5 := Try.sizeOf5
  v5 := Try.zeroValue5
  t9 := Try.underlying9
  a9 := Try.isAgg9
  z9 := Try.sizeOf9
  v9 := Try.zeroValue9
  t28 := Try.underlying25
  a28 := Try.isAgg25
  z28 := Try.sizeOf25
  v28 := Try.zeroValue25
  t46 := Try.underlying37
  a46 := Try.isAgg37
  z46 := Try.sizeOf37
  v46 := Try.zeroValue37
  t51 := Try.underlying112
  a51 := Try.isAgg112
  z51 := Try.sizeOf112
  v51 := Try.zeroValue112
  t53 := Try.underlying114
  a53 := Try.isAgg114
  z53 := Try.sizeOf114
  v53 := Try.zeroValue114
  t131 := Try.underlying73
  a131 := Try.isAgg73
  z131 := Try.sizeOf73
  v131 := Try.zeroValue73
  t182 := Try.underlying105
  a182 := Try.isAgg105
  z182 := Try.sizeOf105
  v182 := Try.zeroValue105
  t183 := Try.underlying106
  a183 := Try.isAgg106
  z183 := Try.sizeOf106
  v183 := Try.zeroValue106
  t218 := Try.underlying117
  a218 := Try.isAgg117
  z218 := Try.sizeOf117
  v218 := Try.zeroValue117
  t222 := Try.underlying121
  a222 := Try.isAgg121
  z222 := Try.sizeOf121
  v222 := Try.zeroValue121
  t228 := Try.underlying123
  a228 := Try.isAgg123
  z228 := Try.sizeOf123
  v228 := Try.zeroValue123
  t229 := Try.underlying124
  a229 := Try.isAgg124
  z229 := Try.sizeOf124
  v229 := Try.zeroValue124 }
def cptRen : Go.Shelf.Ren := ⟨fun | 20 => 62 | n => n, fun | 22 => 25 | 3 => 3 | 4 => 4 | 0 => 0 | n => n, fun n => n⟩
theorem cptLay : Lays2.n20 Try.prog cptRen := {
  mixed := by kernel_rfl
  f20 := Try.func62.trans (congrArg some (by kernel_rfl))
  t0 := Try.underlying0
  a0 := Try.isAgg0
  z0 := Try.sizeOf0
  v0 := Try.zeroValue0
  t3 := Try.underlying3
  a3 := Try.isAgg3
  z3 := Try.sizeOf3
  v3 := Try.zeroValue3
  t4 := Try.underlying4
  a4 := Try.isAgg4
  z4 := Try.sizeOf4
  v4 := Try.zeroValue4
  t22 := Try.underlying25
  a22 := Try.isAgg25
  z22 := Try.sizeOf25
  v22 := Try.zeroValue25
  i3 := by kernel_rfl }
/-- the cells of an own row of ints -/
theorem own_ints {w : World} {B g n c : Nat} {l : List Int} (h : Own i64E w B 3 (.slice (some ⟨g, 0, none⟩) n c) l) :
    n = l.length ∧ B ≤ g ∧ l.length ≤ c ∧ c ≤ maxLen ∧ ∃ cur, w.heap[g]? = some (.cells cur 3 (0, 0)) ∧ cur.size = c ∧ ∀ j (h : j < l.length), w.cell? ⟨g, 0 + j, none⟩ = some (.int .i64 l[j]) := by
  have hr := h.rd
  obtain ⟨D, ⟨hl, hrow⟩, hel⟩ := h
  rcases hrow with ⟨hv, hn⟩ | ⟨g', cap, cur, hv, hB, hh, hc, hm, hs, ht⟩
  · simp at hv
  · simp only [Value.slice.injEq, Option.some.injEq, Addr.mk.injEq, and_true] at hv
    obtain ⟨rfl, hn, rfl⟩ := hv
    refine ⟨hn, hB, hc, hm, cur, hh, hs.trans (Nat.mul_one _), fun j hj => (int_cells hr hj).2⟩
theorem own_put {w w1 : World} {B g n c : Nat} {l ys : List Int} (h : Own i64E w B 3 (.slice (some ⟨g, 0, none⟩) n c) l) (hy : ys.length = l.length) {cur : Array Value} (hh : w1.heap[g]? = some (.cells cur 3 (0, 0))) (hs : cur.size = c) :
    Own i64E (w1.setCells g 0 (ys.map (Value.int .i64))) B 3 (.slice (some ⟨g, 0, none⟩) n c) ys := by
  obtain ⟨hn, hB, hc, hm, _⟩ := own_ints h
  obtain ⟨cur', h1, h2⟩ := setCells_at (ys.map (Value.int .i64)) 0 w1 cur hh (by rw [List.length_map]; omega)
  have hsz : cur'.size = cur.size := by
    rw [← Array.length_toList, h2, List.length_append, List.length_append, List.length_take, List.length_drop, List.length_map, Array.length_toList]
    omega
  refine ⟨ys.map (Value.int .i64), ⟨by rw [List.length_map]; exact (Nat.mul_one _).symm, .inr ⟨g, c, cur', by rw [hn, hy], hB, h1, by rw [hy]; exact hc, hm, by rw [hsz, hs]; exact (Nat.mul_one _).symm, ?_⟩⟩, fun i hi => ?_⟩
  · rw [h2, show i64E.sz = 1 from rfl, Nat.mul_one, List.take_zero, List.nil_append, List.take_append_of_le_length (by rw [List.length_map]; omega), List.take_of_length_le (by rw [List.length_map]; omega)]
  · change _ = _
    rw [show i64E.sz = 1 from rfl, Nat.mul_one, List.drop_eq_getElem_cons (by rw [List.length_map]; exact hi)]
    simp
theorem own_grow {α : Type} {E : El α} {w : World} {B T : Nat} {v : Value} {xs : List α} (h : Own E w B T v xs) (os : Array Obj) : Own E (Sort.grow w os) B T v xs :=
  h.keep fun k hk => by show (w.heap ++ os)[k]? = _; rw [Array.getElem?_append_left hk]
def srtL (l : List Int) : List Int := l.mergeSort fun x y => decide (x ≤ y)
theorem drewN_heap (w : World) (n : Nat) : (w.drewN n).heap = w.heap := rfl
theorem sort_any (v : Value) (l : List Int) (w : World) (B : Nat) (h : Own i64E w B 3 v l) (hl : l.length ≤ 1000000) :
    Calls Try.prog 61 #[v] w fun e w' => e = .returned (.tuple #[]) ∧ Own i64E w' B 3 v (srtL l) ∧ w.grownBy w' v.ownBlock := by
  by_cases h0 : l = []
  · subst h0
    obtain ⟨a, c, rfl, _⟩ := h.rd
    refine (Any.slices_Sort_int_none srtLay a c w).mono ?_
    rintro e w' ⟨rfl, rfl⟩
    exact ⟨rfl, by rw [show srtL [] = [] by simp [srtL]]; exact h, grown_refl _ _⟩
  · obtain ⟨g, c, rfl⟩ := own_form h (List.length_pos_iff.2 h0)
    obtain ⟨_, _, hc, hm, cur, hh, hs, hcell⟩ := own_ints h
    have hH : Go.Sort.Holds (Value.int .i64) w g 0 l.toArray := Lib.holds_of_ints (n := l.length) (Nat.le_refl _) (fun j hj => by rw [hcell j hj]; simp [List.getD, hj]) (fun j hj => frozen_block hh) |> fun k => by rwa [List.take_length] at k
    refine (Any.slices_Sort_int srtLay g 0 c l w hH (block_lt hh) (by omega)).mono ?_
    rintro e w' ⟨rfl, n, os, rfl⟩
    rw [Lib.putRow_eq_setCells _ w g 0 _ _ n hH (by simp), show (l.mergeSort fun x y => decide (x ≤ y)) = srtL l from rfl]
    have hg := grown_setCells g ((srtL l).map (Value.int .i64)) 0 (w.drewN n)
    refine ⟨rfl, own_grow (own_put (w1 := w.drewN n) h (ys := srtL l) (by unfold srtL; simp) hh hs) os, ⟨hg.os, hg.tape, hg.output, ?_, fun k hk hne => ?_⟩⟩
    · show w.heap.size ≤ (_ ++ os).size
      rw [Array.size_append]
      have := hg.size
      exact Nat.le_trans this (Nat.le_add_right _ _)
    · show (_ ++ os)[k]? = _
      have := hg.size
      rw [Array.getElem?_append_left (Nat.lt_of_lt_of_le hk this)]
      exact hg.block k hk hne
def CptP (l : List Int) (e : Ending) (w : World) : Prop := ∃ r, e = .returned r ∧ Rd i64E w r (Lib.compact l)
theorem cpt_any (v : Value) (l : List Int) (w : World) (B : Nat) (h : Own i64E w B 3 v l) (hl : l.length ≤ 1000000) :
    Calls Try.prog 62 #[v] w fun e w' => CptP l e w' ∧ w.grownBy w' v.ownBlock := by
  by_cases h0 : l = []
  · subst h0
    obtain ⟨a, c, rfl, hx⟩ := h.rd
    refine (Any.slices_Compact_int_empty cptLay a c w).mono ?_
    rintro e w' ⟨rfl, rfl⟩
    exact ⟨⟨_, rfl, h.rd⟩, grown_refl _ _⟩
  · obtain ⟨g, c, rfl⟩ := own_form h (List.length_pos_iff.2 h0)
    obtain ⟨_, _, hc, hm, cur, hh, hs, hcell⟩ := own_ints h
    have hle := Lib.compact_length_le l
    refine (Any.slices_Compact_int_cells cptLay g 0 l.length c l w (Nat.le_refl _) (by omega) hc (fun j hj => by rw [hcell j hj]; simp [List.getD, hj]) (fun j hj => frozen_block hh)).mono ?_
    rintro e w' ⟨rfl, q, rfl⟩
    rw [List.take_length]
    refine ⟨⟨_, rfl, _, c, rfl, by omega, hm, .inr ⟨g, 0, rfl, fun i hi => ⟨[.int .i64 (Lib.compact l)[i]], rfl, fun j hj => ?_⟩⟩⟩, grown_trans (grown_drew (grown_refl w _) q) (grown_setCells g _ 0 (w.drewN q))⟩
    obtain rfl : j = 0 := by have : j < 1 := hj; omega
    have := World.cell?_setCells_in g ((Lib.compact l ++ List.replicate (l.length - (Lib.compact l).length) 0).map (Value.int .i64)) 0 (w.drewN q) (fun j hj => by
      show (w.cell? _).isSome = true
      rw [List.length_map, List.length_append, List.length_replicate] at hj
      rw [hcell j (by omega)]
      rfl) i (by rw [List.length_map, List.length_append]; omega)
    rw [show i64E.sz = 1 from rfl, Nat.mul_one, Nat.add_zero, this]
    simp
    rw [List.getElem_append_left (by rw [List.length_map]; exact hi), List.getElem_map]

theorem compact_ok {d : Array Int} (hs : ∀ i j, i ≤ j → j < d.size → d[i]! ≤ d[j]!) : ∀ m, m ≤ d.size → (Lib.compactUpTo d m).Pairwise (· < ·) ∧ ∀ x, x ∈ Lib.compactUpTo d m ↔ ∃ j, j < m ∧ d[j]! = x
  | 0, _ => ⟨by simp [Lib.compactUpTo], fun x => by simp [Lib.compactUpTo]⟩
  | m + 1, hm => by
    obtain ⟨h1, h2⟩ := compact_ok hs m (by omega)
    rw [Lib.compactUpTo_succ]
    by_cases hk : Lib.keeps d m = true
    · rw [if_pos hk]
      refine ⟨List.pairwise_append.2 ⟨h1, by simp, fun a ha b hb => ?_⟩, fun x => ?_⟩
      · simp only [List.mem_singleton] at hb
        subst hb
        obtain ⟨j, hj, rfl⟩ := (h2 a).1 ha
        have h3 := hs j (m - 1) (by omega) (by omega)
        have h4 := hs (m - 1) m (by omega) (by omega)
        have h5 : d[m]! ≠ d[m - 1]! := by
          simp only [Lib.keeps, decide_eq_true_eq] at hk
          rcases hk with h | h
          · omega
          · exact h
        omega
      · rw [List.mem_append, h2, List.mem_singleton]
        constructor
        · rintro (⟨j, hj, e⟩ | e)
          · exact ⟨j, by omega, e⟩
          · exact ⟨m, by omega, e.symm⟩
        · rintro ⟨j, hj, e⟩
          rcases Nat.lt_succ_iff_lt_or_eq.1 hj with h | h
          · exact .inl ⟨j, h, e⟩
          · subst h; exact .inr e.symm
    · rw [if_neg hk, List.append_nil]
      have hk' : Lib.keeps d m = false := by simpa using hk
      simp only [Lib.keeps, decide_eq_false_iff_not, not_or, ne_eq, Decidable.not_not] at hk'
      refine ⟨h1, fun x => (h2 x).trans ⟨fun ⟨j, hj, e⟩ => ⟨j, by omega, e⟩, fun ⟨j, hj, e⟩ => ?_⟩⟩
      rcases Nat.lt_succ_iff_lt_or_eq.1 hj with h | h
      · exact ⟨j, h, e⟩
      · subst h; exact ⟨j - 1, by omega, hk'.2.symm.trans e⟩
theorem srt_le (l : List Int) : (srtL l).Pairwise (· ≤ ·) := by
  have := List.pairwise_mergeSort (le := fun x y : Int => decide (x ≤ y)) (fun a b c h1 h2 => by simp at h1 h2 ⊢; omega) (fun a b => by simp; omega) l
  exact this.imp fun h => by simpa using h
theorem srt_mem {l : List Int} {x : Int} : x ∈ srtL l ↔ x ∈ l := List.mem_mergeSort
theorem srt_len (l : List Int) : (srtL l).length = l.length := List.length_mergeSort l
/-- what Into gives: sorted, each once -/
def setL (l : List Int) : List Int := Lib.compact (srtL l)
theorem setL_ok (l : List Int) : (setL l).Pairwise (· < ·) ∧ ∀ x, x ∈ setL l ↔ x ∈ l := by
  obtain ⟨h1, h2⟩ := compact_ok (d := (srtL l).toArray) (fun i j hij hj => by
    simp only [List.size_toArray] at hj
    rw [getElem!_pos _ i (by simp; omega), getElem!_pos _ j (by simpa using hj)]
    simp only [List.getElem_toArray]
    rcases Nat.lt_or_eq_of_le hij with h | h
    · exact List.pairwise_iff_getElem.1 (srt_le l) i j (by omega) hj h
    · subst h; exact Int.le_refl _) (srtL l).length (by simp)
  refine ⟨h1, fun x => (h2 x).trans ⟨fun ⟨j, hj, e⟩ => ?_, fun h => ?_⟩⟩
  · rw [getElem!_pos _ j (by simpa using hj)] at e
    simp only [List.getElem_toArray] at e
    exact srt_mem.1 (e ▸ List.getElem_mem hj)
  · obtain ⟨j, hj, e⟩ := List.mem_iff_getElem.1 (srt_mem.2 h)
    exact ⟨j, hj, by rw [getElem!_pos _ j (by simpa using hj)]; simpa using e⟩
theorem setL_len (l : List Int) : (setL l).length ≤ l.length := by
  have := Lib.compact_length_le (srtL l)
  rw [srt_len] at this
  exact this
theorem slotIns_sorted {l : List Int} {s : Int} (h3 : l.Pairwise (· < ·)) : (slotIns l s).Pairwise (· < ·) := by
  unfold slotIns
  split
  · exact h3
  · rename_i hc
    have hc' : s ∉ l := by simpa using hc
    refine pairwise_insIdx List.countP_le_length h3 (fun j hj hlt => (countP_lt h3 j hj).2 hlt) fun j hj hle => ?_
    have h4 : ¬ l[j] < s := fun h => by have := (countP_lt h3 j hj).1 h; omega
    have h5 : l[j] ≠ s := fun e => hc' (e ▸ List.getElem_mem hj)
    omega
theorem foldIns_ok : ∀ (ys l : List Int), l.Pairwise (· < ·) → (ys.foldl slotIns l).Pairwise (· < ·) ∧ ∀ x, x ∈ ys.foldl slotIns l ↔ x ∈ ys ∨ x ∈ l
  | [], l, h => ⟨h, fun x => by simp⟩
  | y :: ys, l, h => by
    obtain ⟨h1, h2⟩ := foldIns_ok ys (slotIns l y) (slotIns_sorted h)
    refine ⟨h1, fun x => ?_⟩
    rw [List.foldl_cons, h2, slotIns_mem, List.mem_cons]
    constructor
    · rintro (h | h | h)
      · exact .inl (.inr h)
      · exact .inl (.inl h)
      · exact .inr h
    · rintro ((h | h) | h)
      · exact .inr (.inl h)
      · exact .inl h
      · exact .inr (.inr h)
theorem fold_setL (ys : List Int) : ys.foldl slotIns [] = setL ys := by
  obtain ⟨h1, h2⟩ := foldIns_ok ys [] List.Pairwise.nil
  obtain ⟨h3, h4⟩ := setL_ok ys
  exact sorted_ext (fun a => Int.lt_irrefl a) (fun a b h k => by omega) _ _ h1 h3 fun x => by rw [h2, h4]; simp
end Go.Proofs.Ytchdmemgkegefaa
