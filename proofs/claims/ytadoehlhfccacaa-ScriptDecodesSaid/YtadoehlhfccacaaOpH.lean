/- The closure of Op that draws a handle. -/
import Derived.Test.YtadoehlhfccacaaBas4
import Derived.Deep.QuietTactic
import Derived.Deep.RegionWith
import Derived.BigQuiet
namespace Go.Proofs.Ytadoehlhfccacaa
open Go.RowKit

/-- v reads as xs, whatever is written into block g -/
def RdX {α : Type} (E : El α) (g : Nat) (w : World) (v : Value) (xs : List α) : Prop := ∀ w' : World, (∀ k, k < w.heap.size → k ≠ g → w'.heap[k]? = w.heap[k]?) → Rd E w' v xs
theorem RdX.rd {α : Type} {E : El α} {g : Nat} {w : World} {v : Value} {xs : List α} (h : RdX E g w v xs) : Rd E w v xs := h w fun _ _ _ => rfl
theorem RdX.grown {α : Type} {E : El α} {g : Nat} {w w' : World} {v : Value} {xs : List α} (h : RdX E g w v xs) (hg : w.grownBy w' (some g)) : RdX E g w' v xs :=
  fun w'' hk => h w'' fun k h1 h2 => by
    rw [hk k (Nat.lt_of_lt_of_le h1 hg.size) h2]
    exact hg.block k h1 (fun e => h2 (by injection e))

/-- an element of such a slice -/
theorem idx_at {g : Nat} {w : World} {b off n cap : Nat} {xs : List Int} (h : RdX i64E g w (.slice (some ⟨b, off, none⟩) n cap) xs) (hr : ∀ x ∈ xs, 0 ≤ x ∧ x ≤ 255) {j : Nat} (hj : j < xs.length) :
    ∃ u : Int, (w.cell? ⟨b, off + j, none⟩ = some (.int .i64 u) ∧ (0 ≤ u ∧ u ≤ 255)) ∧ True := by
  obtain ⟨a, c, e, _, _, hf⟩ := h.rd.flat
  rcases hf with hf | ⟨b', off', e2, _, hf⟩
  · simp [hf] at hj
  simp only [Value.slice.injEq] at e
  obtain ⟨e, _, _⟩ := e
  rw [e2] at e
  simp only [Option.some.injEq, Addr.mk.injEq, and_true] at e
  obtain ⟨rfl, rfl⟩ := e
  have := hf j hj 0 (by omega)
  simp at this
  exact ⟨xs[j], ⟨this, hr _ (List.getElem_mem hj)⟩, trivial⟩

set_option maxRecDepth 100000 in
set_option maxHeartbeats 1000000 in
theorem oph_any (B b5 b2 g : Nat) (v : Value) (xs : List Int) (w : World) (hd : Deck B w g) (h5 : w.cell? ⟨b5, 0, none⟩ = some v) (h2 : w.cell? ⟨b2, 0, none⟩ = some (.pointer (some ⟨g, 0, none⟩))) (n5 : b5 ≠ g) (n2 : b2 ≠ g)
    (hx : RdX i64E g w v xs) (hr : ∀ x ∈ xs, 0 ≤ x ∧ x ≤ 255) :
    Calls Try.prog 23 #[.pointer (some ⟨b5, 0, none⟩), .pointer (some ⟨b2, 0, none⟩)] w fun e w' => ∃ r : Int, 0 ≤ r ∧ r ≤ 255 ∧ e = .returned (.int .i64 r) ∧ Deck B w' g ∧ w.grownBy w' (some g) := by
  have HX := Lib.hid hx; clear hx
  have HR := Lib.hid hr; clear hr
  have HD := Lib.hid hd; clear hd
  obtain ⟨a, cap, rfl, hc1, hc2, hca⟩ := HX.out.rd.flat
  unfold maxLen at hc2
  by_cases h0 : xs.length = 0
  · clear hca
    have hz : ((xs.length : Int) == 0) = true := by simp [h0]
    clear h0
    go_enter Try.func23, Try.ntmps23
    go_wp2_with (first | (go_at_call 15; refine (next_any _ _ 35 _ HD.out (by omega) (by omega)).mono ?_; rintro e w' ⟨r, hr0, hr1, rfl, hd', hg'⟩))
    go_ret
    exact ⟨r, hr0, by omega, rfl, hd', hg'⟩
  · rcases hca with hca | ⟨b, off, rfl, _, _⟩
    · simp [hca] at h0
    have hz : ((xs.length : Int) == 0) = false := beq_eq_false_iff_ne.2 (by omega)
    have hpos : 1 ≤ (xs.length : Int) := by omega
    have hle : (xs.length : Int) ≤ 9223372036854775807 := by omega
    clear h0
    go_enter Try.func23, Try.ntmps23
    go_wp2_with fail
    refine (next_any _ _ 12 _ HD.out (by omega) (by omega)).mono ?_
    rintro e w1 ⟨r1, hr0, hr1, rfl, hd1, hg1⟩
    have HD1 := Lib.hid hd1; clear hd1
    have c5 : w1.cell? ⟨b5, 0, none⟩ = some (.slice (some ⟨b, off, none⟩) xs.length cap) := hg1.cell h5 (fun e => n5 (by injection e))
    have c2 : w1.cell? ⟨b2, 0, none⟩ = some (.pointer (some ⟨g, 0, none⟩)) := hg1.cell h2 (fun e => n2 (by injection e))
    have HX1 := Lib.hid (HX.out.grown hg1)
    have HG1 := Lib.hid hg1; clear hg1 h5 h2
    by_cases h1 : r1 = 0
    · subst h1
      go_wp2_with (first | (go_at_call 15; refine (next_any _ _ 35 _ HD1.out (by omega) (by omega)).mono ?_; rintro e w' ⟨r, hr2, hr3, rfl, hd', hg'⟩))
      go_ret
      exact ⟨r, hr2, by omega, rfl, hd', grown_trans HG1.out hg'⟩
    · have hz1 : (r1 == 0) = false := by simpa using h1
      clear h1
      go_wp2_with fail
      go_region_with (go_at_call 15; refine (next_any _ _ _ _ (HD1.out.keep (w' := w1.drew) (fun _ _ => rfl) rfl) hpos hle).mono ?_; rintro e w' ⟨r, hr2, hr3, rfl, hd', hg'⟩; have c5' : w'.cell? ⟨b5, 0, none⟩ = some (.slice (some ⟨b, off, none⟩) xs.length cap) := hg'.cell (w := w1.drew) c5 (fun e => n5 (by injection e)); obtain ⟨j, rfl⟩ := Int.eq_ofNat_of_zero_le hr2; have hj0 : (0 : Int) ≤ j := Int.natCast_nonneg _; obtain ⟨u, hu1, hu2⟩ := idx_at ((HX1.out.grown (grown_drew (grown_refl w1 _) 1)).grown (w := w1.drew) hg') HR.out (by omega : j < xs.length); have hu := hu1.1; have hu3 := Lib.hid hu1.2; clear hu1; have HDD := Lib.hid hd'; clear hd'; have HGG := Lib.hid hg'; clear hg')
      all_goals go_wp2
      all_goals go_ret
      all_goals exact ⟨u, hu3.out.1, hu3.out.2, rfl, HDD.out, grown_trans HG1.out (grown_trans (grown_drew (grown_refl w1 _) 1) HGG.out)⟩

end Go.Proofs.Ytadoehlhfccacaa
