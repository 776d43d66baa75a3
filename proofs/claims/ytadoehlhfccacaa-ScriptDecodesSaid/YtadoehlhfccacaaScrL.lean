/- The law's own check, and comparing lists of operations. -/
import Derived.Test.YtadoehlhfccacaaScr
namespace Go.Proofs.Ytadoehlhfccacaa
open Go.RowKit

theorem opEgt : Try.prog.eqGuardType Try.prog.depth 35 = false := by kernel_rfl
theorem opSih : Try.prog.stoodInHeld 35 = false := by kernel_rfl
set_option maxHeartbeats 400000 in
theorem sameOps_true (u v : Value) (xs : List Op4) (w : World) (hu : Rd op4E w u xs) (hv : Rd op4E w v xs) :
    Calls Try.prog 8 #[u, v] w fun e w' => e = .returned (.bool true) ∧ ∃ n, w' = w.drewN n := by
  obtain ⟨a1, c1, rfl, hl1, hl2, hu⟩ := hu.flat
  obtain ⟨a2, c2, rfl, hl3, hl4, hv⟩ := hv.flat
  unfold maxLen at hl2 hl4
  go_enter Try.func8, Try.ntmps8
  go_wp2
  go_loopw [13] (fun i wr => ∃ k : Nat, k ≤ xs.length ∧ i = .int .i64 k ∧ ∃ n, wr = w.drewN n) (fun i _ => xs.length - (intOf i).toNat)
  case atStart => exact ⟨0, Nat.zero_le _, rfl, 0, rfl⟩
  case round =>
    obtain ⟨k, hk, rfl, n, rfl⟩ := hrel
    by_cases hlt : k < xs.length
    · rcases hu with hu | ⟨b1, o1, rfl, _, hu⟩
      · simp [hu] at hlt
      rcases hv with hv | ⟨b2, o2, rfl, _, hv⟩
      · simp [hv] at hlt
      have x0 := hu k hlt 0 (by omega)
      have x1 := hu k hlt 1 (by omega)
      have x2 := hu k hlt 2 (by omega)
      have x3 := hu k hlt 3 (by omega)
      have y0 := hv k hlt 0 (by omega)
      have y1 := hv k hlt 1 (by omega)
      have y2 := hv k hlt 2 (by omega)
      have y3 := hv k hlt 3 (by omega)
      simp [Op4.cells] at x0 x1 x2 x3 y0 y1 y2 y3
      clear hu hv
      have s2 := opEgt
      have s1 := opSih
      go_wp2
      go_quiet (fail)
      go_wp2
      go_roundw
      case rel => exact ⟨k + 1, by omega, by go_num, _, rfl⟩
      case measure => simp [intOf]; omega
    · go_wp2
      go_ret
      exact ⟨rfl, _, rfl⟩

/-- a row of cells in a block reads as a slice of flat elements of one cell -/
theorem rd_of_cells1 {α : Type} {f : α → List Value} {hf : ∀ x, (f x).length = 1} {w : World} {b off cap : Nat} {xs : List α} (hc : xs.length ≤ cap) (hm : cap ≤ maxLen)
    (h : ∀ i (hi : i < xs.length), w.cell? ⟨b, off + i, none⟩ = (f xs[i])[0]?) : Rd (flat 1 f hf) w (.slice (some ⟨b, off, none⟩) xs.length cap) xs := by
  refine ⟨_, cap, rfl, hc, hm, .inr ⟨b, off, rfl, fun i hi => ⟨f xs[i], rfl, fun j hj => ?_⟩⟩⟩
  have : j = 0 := by change j < 1 at hj; omega
  subst this
  change w.cell? ⟨b, off + i * 1 + 0, none⟩ = _
  rw [Nat.mul_one, Nat.add_zero]
  exact h i hi

theorem dec_awake : dec [1, 2, 0, 9, 1, 77, 1] = [⟨1, 2, 0, 0⟩, ⟨9, 1, 0, 0⟩, ⟨0, 0, 0, 0⟩, ⟨0, 0, 0, 0⟩] := by
  simp [dec, opn, op4, arg]

set_option maxHeartbeats 1000000 in
theorem awake_any (w : World) : Calls Try.prog 11 #[] w fun e w' => e = .returned (.bool true) ∧ Below w.heap.size w w' := by
  go_enter Try.func11, Try.ntmps11
  go_wp2_with fail
  have hr : Rd byteE (w.alloc (.cells #[.int .u8 1, .int .u8 2, .int .u8 0, .int .u8 9, .int .u8 1, .int .u8 77, .int .u8 1] 5)) (.slice (some ⟨w.heap.size, 0, none⟩) 7 7) [1, 2, 0, 9, 1, 77, 1] := by
    refine rd_of_cells1 (cap := 7) (xs := [1, 2, 0, 9, 1, 77, 1]) (by decide) (by decide) ?_
    intro i hi
    have hc := news_alloc w #[.int .u8 1, .int .u8 2, .int .u8 0, .int .u8 9, .int .u8 1, .int .u8 77, .int .u8 1] 5 i
    have : i = 0 ∨ i = 1 ∨ i = 2 ∨ i = 3 ∨ i = 4 ∨ i = 5 ∨ i = 6 := by simp at hi; omega
    rcases this with rfl | rfl | rfl | rfl | rfl | rfl | rfl <;> simp
  refine (decode_any _ _ _ hr (by decide)).mono ?_
  rintro e w' ⟨r, rfl, ho, hb⟩
  rw [show [1, 2, 0, 9, 1, 77, 1].take 4096 = [1, 2, 0, 9, 1, 77, (1 : Int)] from rfl, dec_awake] at ho
  obtain ⟨a, c, rfl, h1, h2, h3⟩ := ho.rd.flat
  rcases h3 with h3 | ⟨b, off, rfl, _, h3⟩
  · simp at h3
  have x0 := h3 0 (by decide) 0 (by omega)
  have x1 := h3 0 (by decide) 1 (by omega)
  have x2 := h3 1 (by decide) 0 (by omega)
  have x3 := h3 1 (by decide) 1 (by omega)
  have x4 := h3 2 (by decide) 0 (by omega)
  have x5 := h3 3 (by decide) 0 (by omega)
  simp [Op4.cells] at x0 x1 x2 x3 x4 x5
  clear h3 ho h1 h2 hr
  go_wp2
  go_ret
  exact ⟨rfl, (((Below.refl _ w).alloc (Nat.le_refl _) _).trans (hb.mono (by simp)))⟩
end Go.Proofs.Ytadoehlhfccacaa
