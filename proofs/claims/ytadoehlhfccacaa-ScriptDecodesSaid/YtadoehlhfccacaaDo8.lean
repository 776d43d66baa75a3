/- The reference model's Do: the operations of code 8: it returns a valid graph of one node more at most. Condition: a valid graph of at most 900 nodes in memory, operands from 0 to 255. -/
import Derived.Test.YtadoehlhfccacaaDoS
namespace Go.Proofs.Ytadoehlhfccacaa
open Go.RowKit
set_option linter.unusedVariables false

set_option maxRecDepth 100000 in
set_option maxHeartbeats 8000000 in
theorem do_c8 (w : World) (B rb : Nat) (hB : B ≤ w.heap.size) (nv uv rv : Value) (g : Gr) (hg : GrM w B rb nv uv rv g) (n : Nat) (hok : GrOk n g) (hn : n ≤ 900) (x y z : Int) (hx : 0 ≤ x ∧ x ≤ 255) (hy : 0 ≤ y ∧ y ≤ 255) (hz : 0 ≤ z ∧ z ≤ 255) :
    Calls Try.prog 22 #[.agg #[nv, uv, rv], .agg #[.int .i64 8, .int .i64 x, .int .i64 y, .int .i64 z]] w (DoPost w B n) := by
  have HOK := Lib.hid hok
  have HBW := Lib.hid hB
  obtain ⟨na, nc, ua, uc, rc, rfl, rfl, rfl⟩ := hg.forms
  rw [hok.ul, hok.rl] at hg ⊢
  have HGM := Lib.hid hg
  have hnl : g.nodes.length ≤ 900 := Nat.le_trans hok.nl hn
  obtain ⟨hx0, hx1⟩ := hx
  obtain ⟨hy0, hy1⟩ := hy
  obtain ⟨hz0, hz1⟩ := hz
  clear hg hok
  go_enter Try.func22, Try.ntmps22
  go_wp2_with fail
  refine (gcopy_any _ B rb _ _ _ g (HGM.out.below (by repeat (first | exact Below.refl _ _ | refine Below.alloc ?_ (by first | exact Nat.le_refl _ | (simp; done) | (simp; omega)) _))) n HOK.out (by omega)).mono ?_
  rintro e w1 ⟨rb1, nv1, uv1, rv1, rfl, hm1, hb1⟩
  have hul := HOK.out.ul
  have hrl := HOK.out.rl
  obtain ⟨na1, nc1, ua1, uc1, rc1, rfl, rfl, rfl⟩ := hm1.forms
  rw [hul, hrl] at hm1
  rw [hul, hrl]
  clear hul hrl
  have st0 : DoSt w (.slice na g.nodes.length nc) (.slice ua 32 uc) (.slice (some ⟨rb, 0, none⟩) 32 rc) (.slice na1 g.nodes.length nc1) (.slice ua1 32 uc1) (.slice (some ⟨rb1, 0, none⟩) 32 rc1) 8 x y z w1.heap.size (w1.alloc (.cells #[.slice na1 g.nodes.length nc1, .slice ua1 32 uc1, .slice (some ⟨rb1, 0, none⟩) 32 rc1] 45)) := by
    have hb0 : Below w.heap.size w w1 := by
      refine Below.trans ?_ (hb1.mono (by simp; omega))
      exact (by repeat (first | exact Below.refl _ _ | refine Below.alloc ?_ (by first | exact Nat.le_refl _ | (simp; done) | (simp; omega)) _))
    have h4 : ∀ {b o}, b < w.heap.size + 1 + 1 + 1 + 1 → ((((w.alloc (.cells #[.slice na g.nodes.length nc, .slice ua 32 uc, .slice (some ⟨rb, 0, none⟩) 32 rc] 45)).alloc (.cells #[.int .i64 8, .int .i64 x, .int .i64 y, .int .i64 z] 35)).alloc (.cells #[.slice none 0 0, .slice none 0 0, .slice none 0 0] 45)).alloc (.cells #[.int .i64 0, .int .u64 0] 53)).heap[b]? = some o → w1.heap[b]? = some o := fun hb e => below_block hb1 (by simpa using hb) e
    refine ⟨hb0.alloc hb0.size _, alloc_block (h4 (by omega) (alloc_block (alloc_block (alloc_block (heap_alloc_new _ _))))), alloc_block (h4 (by omega) (alloc_block (alloc_block (heap_alloc_at _ _ _ (by simp))))), alloc_block (h4 (by omega) (alloc_block (heap_alloc_at _ _ _ (by simp)))), alloc_block (h4 (by omega) (heap_alloc_at _ _ _ (by simp))), ?_, heap_alloc_new _ _⟩
    have := hb1.size
    simp at this
    exact this
  have hm1' : GrM (w1.alloc (.cells #[.slice na1 g.nodes.length nc1, .slice ua1 32 uc1, .slice (some ⟨rb1, 0, none⟩) 32 rc1] 45)) (w.heap.size + 1 + 1 + 1 + 1) rb1 (.slice na1 g.nodes.length nc1) (.slice ua1 32 uc1) (.slice (some ⟨rb1, 0, none⟩) 32 rc1) g := (hm1.base (by simp)).keep fun k hk => Below.heap_alloc _ _ _ hk
  have hs1 : w.heap.size + 1 + 1 + 1 + 1 ≤ w1.heap.size := st0.hp
  have MM := Lib.hid hm1'
  have ST := Lib.hid st0
  clear hm1 hm1' hb1 st0
  go_upto_region 2 with (fail)
  obtain ⟨W, hW⟩ : ∃ W : World, W = (w1.alloc (.cells #[.slice na1 g.nodes.length nc1, .slice ua1 32 uc1, .slice (some ⟨rb1, 0, none⟩) 32 rc1] 45)) := ⟨_, rfl⟩
  rw [← hW] at MM ST ⊢
  generalize w1.heap.size = p at *
  clear hW
  have hs6 := ST.out.s6
  have hs3 := ST.out.s3
  have hhp := ST.out.hp
  have hs0 : w.heap.size < W.heap.size := (by omega)
  have hs01 : w.heap.size + 1 < W.heap.size := (by omega)
  have hs02 : w.heap.size + 1 + 1 < W.heap.size := (by omega)
  have o0c := ST.out.o0
  have o1c := ST.out.o1
  have o2c := ST.out.o2
  have o3c := ST.out.o3
  obtain ⟨r0c, fr0⟩ := ST.out.r0
  obtain ⟨r1c, fr1⟩ := ST.out.r1
  obtain ⟨r2c, fr2⟩ := ST.out.r2
  obtain ⟨q0c, fq0⟩ := ST.out.q0
  obtain ⟨q1c, fq1⟩ := ST.out.q1
  obtain ⟨p0c, fp0⟩ := ST.out.p0
  have p1c := ST.out.p1
  have p2c := ST.out.p2
  go_wp2
  exact do_ret (a1 := 0) (a2 := 0) ST.out.bel ST.out.b2 ST.out.b3 (MM.out.base (by omega)) (HOK.out.more (by omega)) rfl rfl rfl
end Go.Proofs.Ytadoehlhfccacaa
