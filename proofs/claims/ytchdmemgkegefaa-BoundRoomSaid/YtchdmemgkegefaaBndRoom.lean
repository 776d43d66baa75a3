/- The walk of the law on rooms. -/
import Derived.Test.YtchdmemgkegefaaBnd
import Derived.Deep.RegionHeld3
import Derived.StillTailTactics
namespace Go.Proofs.Ytchdmemgkegefaa
open Go.RowKit

set_option maxRecDepth 100000 in
set_option maxHeartbeats 1000000 in
theorem boundRoom_walk (sh : Int) (_w0 : (Lit.int .i64 sh).wf = true) (n : Int) (_w1 : (Lit.int .i64 n).wf = true) (live : Int) (_w2 : (Lit.int .i64 live).wf = true) (words : Int) (_w3 : (Lit.int .i64 words).wf = true) (w : World) :
    Calls Try.prog 4 #[.int .i64 sh, .int .i64 n, .int .i64 live, .int .i64 words] w fun e w' => e = .returned (.bool true) ∧ Below w.heap.size w w' := by
  go_enter Try.func4, Try.ntmps4
  go_wp2_with fail
  refine (mod_bd _ 6 _ (by omega) (by omega)).mono ?_
  rintro e w' ⟨s0, hs0, hs1, rfl, rfl⟩
  go_wp2_with fail
  refine (mod_bd _ 63 _ (by omega) (by omega)).mono ?_
  rintro e w' ⟨f0, hf0, hf1, rfl, rfl⟩
  obtain ⟨z, hz⟩ := Sh.of (s := 3 + s0) (by omega) (by omega)
  have HZ := Lib.hid hz
  have hz8 : 8 ≤ z ∧ z ≤ 256 := by rcases hz with ⟨_, rfl⟩ | ⟨_, rfl⟩ | ⟨_, rfl⟩ | ⟨_, rfl⟩ | ⟨_, rfl⟩ | ⟨_, rfl⟩ <;> omega
  rcases hz with ⟨h3, rfl⟩ | ⟨h3, rfl⟩ | ⟨h3, rfl⟩ | ⟨h3, rfl⟩ | ⟨h3, rfl⟩ | ⟨h3, rfl⟩
  · obtain rfl : s0 = 0 := by omega
    go_wp2_with fail
    refine (mod_bd _ _ _ (by omega) (by omega)).mono ?_
    rintro e w' ⟨a, ha0, ha1, rfl, rfl⟩
    go_wp2_with fail
    refine (mod_bd _ _ _ (by omega) (by omega)).mono ?_
    rintro e w' ⟨b, hb0, hb1, rfl, rfl⟩
    go_wp2_with fail
    by_cases hsafe : 2 * (a + (1 + b)) + 32 ≤ (2 + f0) * 8
    · go_region_held3 (fun W => W.cell? ⟨w.heap.size, 0, none⟩ = some (.int .i64 3)) (first | go_keep | (rw [hb1.cell (p := ⟨w.heap.size, 0, none⟩) (by simp)]; first | assumption | simp [go_sem]) | (rw [hb2.cell (p := ⟨w.heap.size, 0, none⟩) (by have := hb1.size; simp at this ⊢; omega)]; assumption)) ((first | (go_at_call 21; refine (semi_any _).mono ?_; rintro e w1 ⟨c1, rfl, hc1, hb1⟩) | (go_at_call 17; refine (safe_at _ _ _ _ _ _ _ hc1 HZ.out (by omega) (by omega) (by omega) (by omega) (by omega) (by omega)).mono ?_; rintro e w2 ⟨rfl, hb2⟩)))
      have e1 : Below w.heap.size w w1 := ((Below.refl _ w).alloc (Nat.le_refl _) _).trans (b := w.alloc _) (Below.trans (b := (w.alloc _).drew) ((Below.refl _ _).drew) (hb1.mono (by simp)))
      have e2 : Below w.heap.size w w2 := e1.trans (hb2.mono e1.size)
      go_wp2_with (first | (go_at_call 22; refine (up_at _ 3 8 _ _ HZ.out (by assumption) (by omega) (by omega)).mono ?_; rintro e w' ⟨rfl, rfl⟩))
      go_ret
      exact ⟨rbool (by simp; omega), e2⟩
    · have hd : decide (2 * (a + (1 + b)) + 32 ≤ (2 + f0) * 8) = false := decide_eq_false hsafe
      go_region_held3 (fun W => W.cell? ⟨w.heap.size, 0, none⟩ = some (.int .i64 3)) (first | go_keep | (rw [hb1.cell (p := ⟨w.heap.size, 0, none⟩) (by simp)]; first | assumption | simp [go_sem]) | (rw [hb2.cell (p := ⟨w.heap.size, 0, none⟩) (by have := hb1.size; simp at this ⊢; omega)]; assumption)) ((first | (go_at_call 21; refine (semi_any _).mono ?_; rintro e w1 ⟨c1, rfl, hc1, hb1⟩) | (go_at_call 17; refine (safe_at _ _ _ _ _ _ _ hc1 HZ.out (by omega) (by omega) (by omega) (by omega) (by omega) (by omega)).mono ?_; rintro e w2 ⟨rfl, hb2⟩)))
      have e1 : Below w.heap.size w w1 := ((Below.refl _ w).alloc (Nat.le_refl _) _).trans (b := w.alloc _) (Below.trans (b := (w.alloc _).drew) ((Below.refl _ _).drew) (hb1.mono (by simp)))
      have e2 : Below w.heap.size w w2 := e1.trans (hb2.mono e1.size)
      go_wp2_with fail
      have hlt : (2 + f0) * 8 < 2 * (a + (1 + b)) + 32 := by omega
      have hd2 : decide ((2 + f0) * 8 < 2 * (a + (1 + b)) + 32) = true := decide_eq_true hlt
      have hw1 : IntKind.i64.wrap (a + (1 + b)) = a + (1 + b) := IntWalk.i64_in _ (by omega)
      have hw2 : IntKind.i64.wrap (2 * (a + (1 + b))) = 2 * (a + (1 + b)) := IntWalk.i64_in _ (by omega)
      have hw3 : IntKind.i64.wrap (2 * (a + (1 + b)) + 4 * 8) = 2 * (a + (1 + b)) + 32 := by rw [IntWalk.i64_in _ (by omega)]; omega
      have hw4 : IntKind.i64.wrap (2 * (a + (1 + b)) + 32) = 2 * (a + (1 + b)) + 32 := IntWalk.i64_in _ (by omega)
      have hw5 : IntKind.i64.wrap ((2 + f0) * 8) = (2 + f0) * 8 := IntWalk.i64_in _ (by omega)
      have hw6 : wrap64 ((2 + f0) * 8) = (2 + f0) * 8 := IntWalk.wrap64_in _ (by omega)
      have hw7 : wrap64 ((2 + f0) * 2 ^ min 3 64) = (2 + f0) * 8 := by rw [show ((2 : Int) ^ min 3 64) = 8 from rfl]; exact IntWalk.wrap64_in _ (by omega)
      refine wp_region_still_tail 13 (by kernel_rfl) (by kernel_rfl) ?_
      simp only [List.take_succ_cons, List.take_zero, List.drop_succ_cons, List.drop_zero]
      change wpStill _ _ (World.drew _) _ _ _
      repeat still_step
      still_call ((slack_at _ _ _ HZ.out).mono fun e w' ⟨h1, h2⟩ => ⟨h1, h2.symm⟩)
      repeat still_step
      refine wpStill_nil ?_
      change wpList _ _ _ _ _ (World.drew _)
      go_wp2_with (first | (go_at_call 10; refine (awake33 _).mono ?_; rintro e w3 ⟨rfl, hb3⟩))
      all_goals go_wp2
      all_goals go_ret
      all_goals exact ⟨rbool (by simp), e2.trans (Below.trans (b := w2.drew) ((Below.refl _ _).drew) (hb3.mono e2.size))⟩
  · obtain rfl : s0 = 1 := by omega
    go_wp2_with fail
    refine (mod_bd _ _ _ (by omega) (by omega)).mono ?_
    rintro e w' ⟨a, ha0, ha1, rfl, rfl⟩
    go_wp2_with fail
    refine (mod_bd _ _ _ (by omega) (by omega)).mono ?_
    rintro e w' ⟨b, hb0, hb1, rfl, rfl⟩
    go_wp2_with fail
    by_cases hsafe : 2 * (a + (1 + b)) + 64 ≤ (2 + f0) * 16
    · go_region_held3 (fun W => W.cell? ⟨w.heap.size, 0, none⟩ = some (.int .i64 4)) (first | go_keep | (rw [hb1.cell (p := ⟨w.heap.size, 0, none⟩) (by simp)]; first | assumption | simp [go_sem]) | (rw [hb2.cell (p := ⟨w.heap.size, 0, none⟩) (by have := hb1.size; simp at this ⊢; omega)]; assumption)) ((first | (go_at_call 21; refine (semi_any _).mono ?_; rintro e w1 ⟨c1, rfl, hc1, hb1⟩) | (go_at_call 17; refine (safe_at _ _ _ _ _ _ _ hc1 HZ.out (by omega) (by omega) (by omega) (by omega) (by omega) (by omega)).mono ?_; rintro e w2 ⟨rfl, hb2⟩)))
      have e1 : Below w.heap.size w w1 := ((Below.refl _ w).alloc (Nat.le_refl _) _).trans (b := w.alloc _) (Below.trans (b := (w.alloc _).drew) ((Below.refl _ _).drew) (hb1.mono (by simp)))
      have e2 : Below w.heap.size w w2 := e1.trans (hb2.mono e1.size)
      go_wp2_with (first | (go_at_call 22; refine (up_at _ 4 16 _ _ HZ.out (by assumption) (by omega) (by omega)).mono ?_; rintro e w' ⟨rfl, rfl⟩))
      go_ret
      exact ⟨rbool (by simp; omega), e2⟩
    · have hd : decide (2 * (a + (1 + b)) + 64 ≤ (2 + f0) * 16) = false := decide_eq_false hsafe
      go_region_held3 (fun W => W.cell? ⟨w.heap.size, 0, none⟩ = some (.int .i64 4)) (first | go_keep | (rw [hb1.cell (p := ⟨w.heap.size, 0, none⟩) (by simp)]; first | assumption | simp [go_sem]) | (rw [hb2.cell (p := ⟨w.heap.size, 0, none⟩) (by have := hb1.size; simp at this ⊢; omega)]; assumption)) ((first | (go_at_call 21; refine (semi_any _).mono ?_; rintro e w1 ⟨c1, rfl, hc1, hb1⟩) | (go_at_call 17; refine (safe_at _ _ _ _ _ _ _ hc1 HZ.out (by omega) (by omega) (by omega) (by omega) (by omega) (by omega)).mono ?_; rintro e w2 ⟨rfl, hb2⟩)))
      have e1 : Below w.heap.size w w1 := ((Below.refl _ w).alloc (Nat.le_refl _) _).trans (b := w.alloc _) (Below.trans (b := (w.alloc _).drew) ((Below.refl _ _).drew) (hb1.mono (by simp)))
      have e2 : Below w.heap.size w w2 := e1.trans (hb2.mono e1.size)
      go_wp2_with fail
      have hlt : (2 + f0) * 16 < 2 * (a + (1 + b)) + 64 := by omega
      have hd2 : decide ((2 + f0) * 16 < 2 * (a + (1 + b)) + 64) = true := decide_eq_true hlt
      have hw1 : IntKind.i64.wrap (a + (1 + b)) = a + (1 + b) := IntWalk.i64_in _ (by omega)
      have hw2 : IntKind.i64.wrap (2 * (a + (1 + b))) = 2 * (a + (1 + b)) := IntWalk.i64_in _ (by omega)
      have hw3 : IntKind.i64.wrap (2 * (a + (1 + b)) + 4 * 16) = 2 * (a + (1 + b)) + 64 := by rw [IntWalk.i64_in _ (by omega)]; omega
      have hw4 : IntKind.i64.wrap (2 * (a + (1 + b)) + 64) = 2 * (a + (1 + b)) + 64 := IntWalk.i64_in _ (by omega)
      have hw5 : IntKind.i64.wrap ((2 + f0) * 16) = (2 + f0) * 16 := IntWalk.i64_in _ (by omega)
      have hw6 : wrap64 ((2 + f0) * 16) = (2 + f0) * 16 := IntWalk.wrap64_in _ (by omega)
      have hw7 : wrap64 ((2 + f0) * 2 ^ min 4 64) = (2 + f0) * 16 := by rw [show ((2 : Int) ^ min 4 64) = 16 from rfl]; exact IntWalk.wrap64_in _ (by omega)
      refine wp_region_still_tail 13 (by kernel_rfl) (by kernel_rfl) ?_
      simp only [List.take_succ_cons, List.take_zero, List.drop_succ_cons, List.drop_zero]
      change wpStill _ _ (World.drew _) _ _ _
      repeat still_step
      still_call ((slack_at _ _ _ HZ.out).mono fun e w' ⟨h1, h2⟩ => ⟨h1, h2.symm⟩)
      repeat still_step
      refine wpStill_nil ?_
      change wpList _ _ _ _ _ (World.drew _)
      go_wp2_with (first | (go_at_call 10; refine (awake33 _).mono ?_; rintro e w3 ⟨rfl, hb3⟩))
      all_goals go_wp2
      all_goals go_ret
      all_goals exact ⟨rbool (by simp), e2.trans (Below.trans (b := w2.drew) ((Below.refl _ _).drew) (hb3.mono e2.size))⟩
  · obtain rfl : s0 = 2 := by omega
    go_wp2_with fail
    refine (mod_bd _ _ _ (by omega) (by omega)).mono ?_
    rintro e w' ⟨a, ha0, ha1, rfl, rfl⟩
    go_wp2_with fail
    refine (mod_bd _ _ _ (by omega) (by omega)).mono ?_
    rintro e w' ⟨b, hb0, hb1, rfl, rfl⟩
    go_wp2_with fail
    by_cases hsafe : 2 * (a + (1 + b)) + 128 ≤ (2 + f0) * 32
    · go_region_held3 (fun W => W.cell? ⟨w.heap.size, 0, none⟩ = some (.int .i64 5)) (first | go_keep | (rw [hb1.cell (p := ⟨w.heap.size, 0, none⟩) (by simp)]; first | assumption | simp [go_sem]) | (rw [hb2.cell (p := ⟨w.heap.size, 0, none⟩) (by have := hb1.size; simp at this ⊢; omega)]; assumption)) ((first | (go_at_call 21; refine (semi_any _).mono ?_; rintro e w1 ⟨c1, rfl, hc1, hb1⟩) | (go_at_call 17; refine (safe_at _ _ _ _ _ _ _ hc1 HZ.out (by omega) (by omega) (by omega) (by omega) (by omega) (by omega)).mono ?_; rintro e w2 ⟨rfl, hb2⟩)))
      have e1 : Below w.heap.size w w1 := ((Below.refl _ w).alloc (Nat.le_refl _) _).trans (b := w.alloc _) (Below.trans (b := (w.alloc _).drew) ((Below.refl _ _).drew) (hb1.mono (by simp)))
      have e2 : Below w.heap.size w w2 := e1.trans (hb2.mono e1.size)
      go_wp2_with (first | (go_at_call 22; refine (up_at _ 5 32 _ _ HZ.out (by assumption) (by omega) (by omega)).mono ?_; rintro e w' ⟨rfl, rfl⟩))
      go_ret
      exact ⟨rbool (by simp; omega), e2⟩
    · have hd : decide (2 * (a + (1 + b)) + 128 ≤ (2 + f0) * 32) = false := decide_eq_false hsafe
      go_region_held3 (fun W => W.cell? ⟨w.heap.size, 0, none⟩ = some (.int .i64 5)) (first | go_keep | (rw [hb1.cell (p := ⟨w.heap.size, 0, none⟩) (by simp)]; first | assumption | simp [go_sem]) | (rw [hb2.cell (p := ⟨w.heap.size, 0, none⟩) (by have := hb1.size; simp at this ⊢; omega)]; assumption)) ((first | (go_at_call 21; refine (semi_any _).mono ?_; rintro e w1 ⟨c1, rfl, hc1, hb1⟩) | (go_at_call 17; refine (safe_at _ _ _ _ _ _ _ hc1 HZ.out (by omega) (by omega) (by omega) (by omega) (by omega) (by omega)).mono ?_; rintro e w2 ⟨rfl, hb2⟩)))
      have e1 : Below w.heap.size w w1 := ((Below.refl _ w).alloc (Nat.le_refl _) _).trans (b := w.alloc _) (Below.trans (b := (w.alloc _).drew) ((Below.refl _ _).drew) (hb1.mono (by simp)))
      have e2 : Below w.heap.size w w2 := e1.trans (hb2.mono e1.size)
      go_wp2_with fail
      have hlt : (2 + f0) * 32 < 2 * (a + (1 + b)) + 128 := by omega
      have hd2 : decide ((2 + f0) * 32 < 2 * (a + (1 + b)) + 128) = true := decide_eq_true hlt
      have hw1 : IntKind.i64.wrap (a + (1 + b)) = a + (1 + b) := IntWalk.i64_in _ (by omega)
      have hw2 : IntKind.i64.wrap (2 * (a + (1 + b))) = 2 * (a + (1 + b)) := IntWalk.i64_in _ (by omega)
      have hw3 : IntKind.i64.wrap (2 * (a + (1 + b)) + 4 * 32) = 2 * (a + (1 + b)) + 128 := by rw [IntWalk.i64_in _ (by omega)]; omega
      have hw4 : IntKind.i64.wrap (2 * (a + (1 + b)) + 128) = 2 * (a + (1 + b)) + 128 := IntWalk.i64_in _ (by omega)
      have hw5 : IntKind.i64.wrap ((2 + f0) * 32) = (2 + f0) * 32 := IntWalk.i64_in _ (by omega)
      have hw6 : wrap64 ((2 + f0) * 32) = (2 + f0) * 32 := IntWalk.wrap64_in _ (by omega)
      have hw7 : wrap64 ((2 + f0) * 2 ^ min 5 64) = (2 + f0) * 32 := by rw [show ((2 : Int) ^ min 5 64) = 32 from rfl]; exact IntWalk.wrap64_in _ (by omega)
      refine wp_region_still_tail 13 (by kernel_rfl) (by kernel_rfl) ?_
      simp only [List.take_succ_cons, List.take_zero, List.drop_succ_cons, List.drop_zero]
      change wpStill _ _ (World.drew _) _ _ _
      repeat still_step
      still_call ((slack_at _ _ _ HZ.out).mono fun e w' ⟨h1, h2⟩ => ⟨h1, h2.symm⟩)
      repeat still_step
      refine wpStill_nil ?_
      change wpList _ _ _ _ _ (World.drew _)
      go_wp2_with (first | (go_at_call 10; refine (awake33 _).mono ?_; rintro e w3 ⟨rfl, hb3⟩))
      all_goals go_wp2
      all_goals go_ret
      all_goals exact ⟨rbool (by simp), e2.trans (Below.trans (b := w2.drew) ((Below.refl _ _).drew) (hb3.mono e2.size))⟩
  · obtain rfl : s0 = 3 := by omega
    go_wp2_with fail
    refine (mod_bd _ _ _ (by omega) (by omega)).mono ?_
    rintro e w' ⟨a, ha0, ha1, rfl, rfl⟩
    go_wp2_with fail
    refine (mod_bd _ _ _ (by omega) (by omega)).mono ?_
    rintro e w' ⟨b, hb0, hb1, rfl, rfl⟩
    go_wp2_with fail
    by_cases hsafe : 2 * (a + (1 + b)) + 256 ≤ (2 + f0) * 64
    · go_region_held3 (fun W => W.cell? ⟨w.heap.size, 0, none⟩ = some (.int .i64 6)) (first | go_keep | (rw [hb1.cell (p := ⟨w.heap.size, 0, none⟩) (by simp)]; first | assumption | simp [go_sem]) | (rw [hb2.cell (p := ⟨w.heap.size, 0, none⟩) (by have := hb1.size; simp at this ⊢; omega)]; assumption)) ((first | (go_at_call 21; refine (semi_any _).mono ?_; rintro e w1 ⟨c1, rfl, hc1, hb1⟩) | (go_at_call 17; refine (safe_at _ _ _ _ _ _ _ hc1 HZ.out (by omega) (by omega) (by omega) (by omega) (by omega) (by omega)).mono ?_; rintro e w2 ⟨rfl, hb2⟩)))
      have e1 : Below w.heap.size w w1 := ((Below.refl _ w).alloc (Nat.le_refl _) _).trans (b := w.alloc _) (Below.trans (b := (w.alloc _).drew) ((Below.refl _ _).drew) (hb1.mono (by simp)))
      have e2 : Below w.heap.size w w2 := e1.trans (hb2.mono e1.size)
      go_wp2_with (first | (go_at_call 22; refine (up_at _ 6 64 _ _ HZ.out (by assumption) (by omega) (by omega)).mono ?_; rintro e w' ⟨rfl, rfl⟩))
      go_ret
      exact ⟨rbool (by simp; omega), e2⟩
    · have hd : decide (2 * (a + (1 + b)) + 256 ≤ (2 + f0) * 64) = false := decide_eq_false hsafe
      go_region_held3 (fun W => W.cell? ⟨w.heap.size, 0, none⟩ = some (.int .i64 6)) (first | go_keep | (rw [hb1.cell (p := ⟨w.heap.size, 0, none⟩) (by simp)]; first | assumption | simp [go_sem]) | (rw [hb2.cell (p := ⟨w.heap.size, 0, none⟩) (by have := hb1.size; simp at this ⊢; omega)]; assumption)) ((first | (go_at_call 21; refine (semi_any _).mono ?_; rintro e w1 ⟨c1, rfl, hc1, hb1⟩) | (go_at_call 17; refine (safe_at _ _ _ _ _ _ _ hc1 HZ.out (by omega) (by omega) (by omega) (by omega) (by omega) (by omega)).mono ?_; rintro e w2 ⟨rfl, hb2⟩)))
      have e1 : Below w.heap.size w w1 := ((Below.refl _ w).alloc (Nat.le_refl _) _).trans (b := w.alloc _) (Below.trans (b := (w.alloc _).drew) ((Below.refl _ _).drew) (hb1.mono (by simp)))
      have e2 : Below w.heap.size w w2 := e1.trans (hb2.mono e1.size)
      go_wp2_with fail
      have hlt : (2 + f0) * 64 < 2 * (a + (1 + b)) + 256 := by omega
      have hd2 : decide ((2 + f0) * 64 < 2 * (a + (1 + b)) + 256) = true := decide_eq_true hlt
      have hw1 : IntKind.i64.wrap (a + (1 + b)) = a + (1 + b) := IntWalk.i64_in _ (by omega)
      have hw2 : IntKind.i64.wrap (2 * (a + (1 + b))) = 2 * (a + (1 + b)) := IntWalk.i64_in _ (by omega)
      have hw3 : IntKind.i64.wrap (2 * (a + (1 + b)) + 4 * 64) = 2 * (a + (1 + b)) + 256 := by rw [IntWalk.i64_in _ (by omega)]; omega
      have hw4 : IntKind.i64.wrap (2 * (a + (1 + b)) + 256) = 2 * (a + (1 + b)) + 256 := IntWalk.i64_in _ (by omega)
      have hw5 : IntKind.i64.wrap ((2 + f0) * 64) = (2 + f0) * 64 := IntWalk.i64_in _ (by omega)
      have hw6 : wrap64 ((2 + f0) * 64) = (2 + f0) * 64 := IntWalk.wrap64_in _ (by omega)
      have hw7 : wrap64 ((2 + f0) * 2 ^ min 6 64) = (2 + f0) * 64 := by rw [show ((2 : Int) ^ min 6 64) = 64 from rfl]; exact IntWalk.wrap64_in _ (by omega)
      refine wp_region_still_tail 13 (by kernel_rfl) (by kernel_rfl) ?_
      simp only [List.take_succ_cons, List.take_zero, List.drop_succ_cons, List.drop_zero]
      change wpStill _ _ (World.drew _) _ _ _
      repeat still_step
      still_call ((slack_at _ _ _ HZ.out).mono fun e w' ⟨h1, h2⟩ => ⟨h1, h2.symm⟩)
      repeat still_step
      refine wpStill_nil ?_
      change wpList _ _ _ _ _ (World.drew _)
      go_wp2_with (first | (go_at_call 10; refine (awake33 _).mono ?_; rintro e w3 ⟨rfl, hb3⟩))
      all_goals go_wp2
      all_goals go_ret
      all_goals exact ⟨rbool (by simp), e2.trans (Below.trans (b := w2.drew) ((Below.refl _ _).drew) (hb3.mono e2.size))⟩
  · obtain rfl : s0 = 4 := by omega
    go_wp2_with fail
    refine (mod_bd _ _ _ (by omega) (by omega)).mono ?_
    rintro e w' ⟨a, ha0, ha1, rfl, rfl⟩
    go_wp2_with fail
    refine (mod_bd _ _ _ (by omega) (by omega)).mono ?_
    rintro e w' ⟨b, hb0, hb1, rfl, rfl⟩
    go_wp2_with fail
    by_cases hsafe : 2 * (a + (1 + b)) + 512 ≤ (2 + f0) * 128
    · go_region_held3 (fun W => W.cell? ⟨w.heap.size, 0, none⟩ = some (.int .i64 7)) (first | go_keep | (rw [hb1.cell (p := ⟨w.heap.size, 0, none⟩) (by simp)]; first | assumption | simp [go_sem]) | (rw [hb2.cell (p := ⟨w.heap.size, 0, none⟩) (by have := hb1.size; simp at this ⊢; omega)]; assumption)) ((first | (go_at_call 21; refine (semi_any _).mono ?_; rintro e w1 ⟨c1, rfl, hc1, hb1⟩) | (go_at_call 17; refine (safe_at _ _ _ _ _ _ _ hc1 HZ.out (by omega) (by omega) (by omega) (by omega) (by omega) (by omega)).mono ?_; rintro e w2 ⟨rfl, hb2⟩)))
      have e1 : Below w.heap.size w w1 := ((Below.refl _ w).alloc (Nat.le_refl _) _).trans (b := w.alloc _) (Below.trans (b := (w.alloc _).drew) ((Below.refl _ _).drew) (hb1.mono (by simp)))
      have e2 : Below w.heap.size w w2 := e1.trans (hb2.mono e1.size)
      go_wp2_with (first | (go_at_call 22; refine (up_at _ 7 128 _ _ HZ.out (by assumption) (by omega) (by omega)).mono ?_; rintro e w' ⟨rfl, rfl⟩))
      go_ret
      exact ⟨rbool (by simp; omega), e2⟩
    · have hd : decide (2 * (a + (1 + b)) + 512 ≤ (2 + f0) * 128) = false := decide_eq_false hsafe
      go_region_held3 (fun W => W.cell? ⟨w.heap.size, 0, none⟩ = some (.int .i64 7)) (first | go_keep | (rw [hb1.cell (p := ⟨w.heap.size, 0, none⟩) (by simp)]; first | assumption | simp [go_sem]) | (rw [hb2.cell (p := ⟨w.heap.size, 0, none⟩) (by have := hb1.size; simp at this ⊢; omega)]; assumption)) ((first | (go_at_call 21; refine (semi_any _).mono ?_; rintro e w1 ⟨c1, rfl, hc1, hb1⟩) | (go_at_call 17; refine (safe_at _ _ _ _ _ _ _ hc1 HZ.out (by omega) (by omega) (by omega) (by omega) (by omega) (by omega)).mono ?_; rintro e w2 ⟨rfl, hb2⟩)))
      have e1 : Below w.heap.size w w1 := ((Below.refl _ w).alloc (Nat.le_refl _) _).trans (b := w.alloc _) (Below.trans (b := (w.alloc _).drew) ((Below.refl _ _).drew) (hb1.mono (by simp)))
      have e2 : Below w.heap.size w w2 := e1.trans (hb2.mono e1.size)
      go_wp2_with fail
      have hlt : (2 + f0) * 128 < 2 * (a + (1 + b)) + 512 := by omega
      have hd2 : decide ((2 + f0) * 128 < 2 * (a + (1 + b)) + 512) = true := decide_eq_true hlt
      have hw1 : IntKind.i64.wrap (a + (1 + b)) = a + (1 + b) := IntWalk.i64_in _ (by omega)
      have hw2 : IntKind.i64.wrap (2 * (a + (1 + b))) = 2 * (a + (1 + b)) := IntWalk.i64_in _ (by omega)
      have hw3 : IntKind.i64.wrap (2 * (a + (1 + b)) + 4 * 128) = 2 * (a + (1 + b)) + 512 := by rw [IntWalk.i64_in _ (by omega)]; omega
      have hw4 : IntKind.i64.wrap (2 * (a + (1 + b)) + 512) = 2 * (a + (1 + b)) + 512 := IntWalk.i64_in _ (by omega)
      have hw5 : IntKind.i64.wrap ((2 + f0) * 128) = (2 + f0) * 128 := IntWalk.i64_in _ (by omega)
      have hw6 : wrap64 ((2 + f0) * 128) = (2 + f0) * 128 := IntWalk.wrap64_in _ (by omega)
      have hw7 : wrap64 ((2 + f0) * 2 ^ min 7 64) = (2 + f0) * 128 := by rw [show ((2 : Int) ^ min 7 64) = 128 from rfl]; exact IntWalk.wrap64_in _ (by omega)
      refine wp_region_still_tail 13 (by kernel_rfl) (by kernel_rfl) ?_
      simp only [List.take_succ_cons, List.take_zero, List.drop_succ_cons, List.drop_zero]
      change wpStill _ _ (World.drew _) _ _ _
      repeat still_step
      still_call ((slack_at _ _ _ HZ.out).mono fun e w' ⟨h1, h2⟩ => ⟨h1, h2.symm⟩)
      repeat still_step
      refine wpStill_nil ?_
      change wpList _ _ _ _ _ (World.drew _)
      go_wp2_with (first | (go_at_call 10; refine (awake33 _).mono ?_; rintro e w3 ⟨rfl, hb3⟩))
      all_goals go_wp2
      all_goals go_ret
      all_goals exact ⟨rbool (by simp), e2.trans (Below.trans (b := w2.drew) ((Below.refl _ _).drew) (hb3.mono e2.size))⟩
  · obtain rfl : s0 = 5 := by omega
    go_wp2_with fail
    refine (mod_bd _ _ _ (by omega) (by omega)).mono ?_
    rintro e w' ⟨a, ha0, ha1, rfl, rfl⟩
    go_wp2_with fail
    refine (mod_bd _ _ _ (by omega) (by omega)).mono ?_
    rintro e w' ⟨b, hb0, hb1, rfl, rfl⟩
    go_wp2_with fail
    by_cases hsafe : 2 * (a + (1 + b)) + 1024 ≤ (2 + f0) * 256
    · go_region_held3 (fun W => W.cell? ⟨w.heap.size, 0, none⟩ = some (.int .i64 8)) (first | go_keep | (rw [hb1.cell (p := ⟨w.heap.size, 0, none⟩) (by simp)]; first | assumption | simp [go_sem]) | (rw [hb2.cell (p := ⟨w.heap.size, 0, none⟩) (by have := hb1.size; simp at this ⊢; omega)]; assumption)) ((first | (go_at_call 21; refine (semi_any _).mono ?_; rintro e w1 ⟨c1, rfl, hc1, hb1⟩) | (go_at_call 17; refine (safe_at _ _ _ _ _ _ _ hc1 HZ.out (by omega) (by omega) (by omega) (by omega) (by omega) (by omega)).mono ?_; rintro e w2 ⟨rfl, hb2⟩)))
      have e1 : Below w.heap.size w w1 := ((Below.refl _ w).alloc (Nat.le_refl _) _).trans (b := w.alloc _) (Below.trans (b := (w.alloc _).drew) ((Below.refl _ _).drew) (hb1.mono (by simp)))
      have e2 : Below w.heap.size w w2 := e1.trans (hb2.mono e1.size)
      go_wp2_with (first | (go_at_call 22; refine (up_at _ 8 256 _ _ HZ.out (by assumption) (by omega) (by omega)).mono ?_; rintro e w' ⟨rfl, rfl⟩))
      go_ret
      exact ⟨rbool (by simp; omega), e2⟩
    · have hd : decide (2 * (a + (1 + b)) + 1024 ≤ (2 + f0) * 256) = false := decide_eq_false hsafe
      go_region_held3 (fun W => W.cell? ⟨w.heap.size, 0, none⟩ = some (.int .i64 8)) (first | go_keep | (rw [hb1.cell (p := ⟨w.heap.size, 0, none⟩) (by simp)]; first | assumption | simp [go_sem]) | (rw [hb2.cell (p := ⟨w.heap.size, 0, none⟩) (by have := hb1.size; simp at this ⊢; omega)]; assumption)) ((first | (go_at_call 21; refine (semi_any _).mono ?_; rintro e w1 ⟨c1, rfl, hc1, hb1⟩) | (go_at_call 17; refine (safe_at _ _ _ _ _ _ _ hc1 HZ.out (by omega) (by omega) (by omega) (by omega) (by omega) (by omega)).mono ?_; rintro e w2 ⟨rfl, hb2⟩)))
      have e1 : Below w.heap.size w w1 := ((Below.refl _ w).alloc (Nat.le_refl _) _).trans (b := w.alloc _) (Below.trans (b := (w.alloc _).drew) ((Below.refl _ _).drew) (hb1.mono (by simp)))
      have e2 : Below w.heap.size w w2 := e1.trans (hb2.mono e1.size)
      go_wp2_with fail
      have hlt : (2 + f0) * 256 < 2 * (a + (1 + b)) + 1024 := by omega
      have hd2 : decide ((2 + f0) * 256 < 2 * (a + (1 + b)) + 1024) = true := decide_eq_true hlt
      have hw1 : IntKind.i64.wrap (a + (1 + b)) = a + (1 + b) := IntWalk.i64_in _ (by omega)
      have hw2 : IntKind.i64.wrap (2 * (a + (1 + b))) = 2 * (a + (1 + b)) := IntWalk.i64_in _ (by omega)
      have hw3 : IntKind.i64.wrap (2 * (a + (1 + b)) + 4 * 256) = 2 * (a + (1 + b)) + 1024 := by rw [IntWalk.i64_in _ (by omega)]; omega
      have hw4 : IntKind.i64.wrap (2 * (a + (1 + b)) + 1024) = 2 * (a + (1 + b)) + 1024 := IntWalk.i64_in _ (by omega)
      have hw5 : IntKind.i64.wrap ((2 + f0) * 256) = (2 + f0) * 256 := IntWalk.i64_in _ (by omega)
      have hw6 : wrap64 ((2 + f0) * 256) = (2 + f0) * 256 := IntWalk.wrap64_in _ (by omega)
      have hw7 : wrap64 ((2 + f0) * 2 ^ min 8 64) = (2 + f0) * 256 := by rw [show ((2 : Int) ^ min 8 64) = 256 from rfl]; exact IntWalk.wrap64_in _ (by omega)
      refine wp_region_still_tail 13 (by kernel_rfl) (by kernel_rfl) ?_
      simp only [List.take_succ_cons, List.take_zero, List.drop_succ_cons, List.drop_zero]
      change wpStill _ _ (World.drew _) _ _ _
      repeat still_step
      still_call ((slack_at _ _ _ HZ.out).mono fun e w' ⟨h1, h2⟩ => ⟨h1, h2.symm⟩)
      repeat still_step
      refine wpStill_nil ?_
      change wpList _ _ _ _ _ (World.drew _)
      go_wp2_with (first | (go_at_call 10; refine (awake33 _).mono ?_; rintro e w3 ⟨rfl, hb3⟩))
      all_goals go_wp2
      all_goals go_ret
      all_goals exact ⟨rbool (by simp), e2.trans (Below.trans (b := w2.drew) ((Below.refl _ _).drew) (hb3.mono e2.size))⟩

end Go.Proofs.Ytchdmemgkegefaa
