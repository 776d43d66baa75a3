/- The reference model's Do: the operations of code 10: it returns a valid graph of one node more at most. Condition: a valid graph of at most 900 nodes in memory, operands from 0 to 255. -/
import Derived.Test.YtadoehlhfccacaaDoR
namespace Go.Proofs.Ytadoehlhfccacaa
open Go.RowKit
set_option linter.unusedVariables false

def DqF (b2 p : Nat) (agin agout : Value) (o0 o1 o2 : Value) (xx yy zz : Int) : Nat → Act → World → Prop
  | 0, a, _ => a.tmps[103]? = some agout
  | 1, a, _ => a.tmps[104]? = some agin
  | 2, a, _ => ∃ q : Int, a.tmps[105]? = some (.int .i64 q)
  | 3, a, _ => ∃ q : Int, a.tmps[106]? = some (.int .u64 q)
  | 4, a, _ => ∃ q : Int, a.tmps[107]? = some (.agg #[.int .i64 0, .int .u64 q])
  | 5, _, W => W.heap[b2]? = some (.cells #[o0, o1, o2] 45 (0, 0))
  | 6, _, W => ∃ u : Int, W.heap[b2 + 1]? = some (.cells #[.int .i64 0, .int .u64 u] 53 (0, 0))
  | _, _, _ => True
def DqLoc : Nat → List Nat | 0 => [103] | 1 => [104] | 2 => [105] | 3 => [106] | 4 => [107] | _ => []
theorem DqF.loc (b2 p : Nat) (agin agout : Value) (o0 o1 o2 : Value) (xx yy zz : Int) : ∀ j a d v w, d ∉ DqLoc j → DqF b2 p agin agout o0 o1 o2 xx yy zz j a w → DqF b2 p agin agout o0 o1 o2 xx yy zz j (a.put (some d) v) w := by
  intro j a d v w hd h
  match j with
  | 0 | 1 | 2 | 3 | 4 =>
    simp only [DqLoc, List.mem_singleton] at hd
    simp only [DqF] at h ⊢
    rw [put_same hd]
    exact h
  | 5 | 6 => exact h
  | _ + 7 => trivial
theorem DqF.stab (b2 p : Nat) (agin agout : Value) (o0 o1 o2 : Value) (xx yy zz : Int) : ∀ i j a W W', i ≠ j → DrE b2 5 6 i W W' → DqF b2 p agin agout o0 o1 o2 xx yy zz j a W → DqF b2 p agin agout o0 o1 o2 xx yy zz j a W' := by
  intro i j a W W' hij he h
  match j with
  | 0 | 1 | 2 | 3 | 4 => exact h
  | 5 => exact he.blk h (fun e => absurd e hij) (fun _ => by omega)
  | 6 => obtain ⟨u, h⟩ := h; exact ⟨u, he.blk h (fun _ => by omega) (fun e => absurd e hij)⟩
  | _ + 7 => trivial

set_option maxRecDepth 100000 in
set_option maxHeartbeats 8000000 in
theorem do_c10 (w : World) (B rb : Nat) (hB : B ≤ w.heap.size) (nv uv rv : Value) (g : Gr) (hg : GrM w B rb nv uv rv g) (n : Nat) (hok : GrOk n g) (hn : n ≤ 900) (x y z : Int) (hx : 0 ≤ x ∧ x ≤ 255) (hy : 0 ≤ y ∧ y ≤ 255) (hz : 0 ≤ z ∧ z ≤ 255) :
    Calls Try.prog 22 #[.agg #[nv, uv, rv], .agg #[.int .i64 10, .int .i64 x, .int .i64 y, .int .i64 z]] w (DoPost w B n) := by
  have HOK := Lib.hid hok
  have HBW := Lib.hid hB
  obtain ⟨na, nc, ua, uc, rc, rfl, rfl, rfl⟩ := hg.forms
  rw [hok.ul, hok.rl] at hg ⊢
  have HGM := Lib.hid hg
  have hnl : g.nodes.length ≤ 900 := Nat.le_trans hok.nl hn
  obtain ⟨hx0, hx1⟩ := hx
  obtain ⟨hy0, hy1⟩ := hy
  obtain ⟨hz0, hz1⟩ := hz
  clear hg hok
  go_enter Try.func22, Try.ntmps22
  go_wp2_with fail
  refine (gcopy_any _ B rb _ _ _ g (HGM.out.below (by repeat (first | exact Below.refl _ _ | refine Below.alloc ?_ (by first | exact Nat.le_refl _ | (simp; done) | (simp; omega)) _))) n HOK.out (by omega)).mono ?_
  rintro e w1 ⟨rb1, nv1, uv1, rv1, rfl, hm1, hb1⟩
  have hul := HOK.out.ul
  have hrl := HOK.out.rl
  obtain ⟨na1, nc1, ua1, uc1, rc1, rfl, rfl, rfl⟩ := hm1.forms
  rw [hul, hrl] at hm1
  rw [hul, hrl]
  clear hul hrl
  have st0 : DoSt w (.slice na g.nodes.length nc) (.slice ua 32 uc) (.slice (some ⟨rb, 0, none⟩) 32 rc) (.slice na1 g.nodes.length nc1) (.slice ua1 32 uc1) (.slice (some ⟨rb1, 0, none⟩) 32 rc1) 10 x y z w1.heap.size (w1.alloc (.cells #[.slice na1 g.nodes.length nc1, .slice ua1 32 uc1, .slice (some ⟨rb1, 0, none⟩) 32 rc1] 45)) := by
    have hb0 : Below w.heap.size w w1 := by
      refine Below.trans ?_ (hb1.mono (by simp; omega))
      exact (by repeat (first | exact Below.refl _ _ | refine Below.alloc ?_ (by first | exact Nat.le_refl _ | (simp; done) | (simp; omega)) _))
    have h4 : ∀ {b o}, b < w.heap.size + 1 + 1 + 1 + 1 → ((((w.alloc (.cells #[.slice na g.nodes.length nc, .slice ua 32 uc, .slice (some ⟨rb, 0, none⟩) 32 rc] 45)).alloc (.cells #[.int .i64 10, .int .i64 x, .int .i64 y, .int .i64 z] 35)).alloc (.cells #[.slice none 0 0, .slice none 0 0, .slice none 0 0] 45)).alloc (.cells #[.int .i64 0, .int .u64 0] 53)).heap[b]? = some o → w1.heap[b]? = some o := fun hb e => below_block hb1 (by simpa using hb) e
    refine ⟨hb0.alloc hb0.size _, alloc_block (h4 (by omega) (alloc_block (alloc_block (alloc_block (heap_alloc_new _ _))))), alloc_block (h4 (by omega) (alloc_block (alloc_block (heap_alloc_at _ _ _ (by simp))))), alloc_block (h4 (by omega) (alloc_block (heap_alloc_at _ _ _ (by simp)))), alloc_block (h4 (by omega) (heap_alloc_at _ _ _ (by simp))), ?_, heap_alloc_new _ _⟩
    have := hb1.size
    simp at this
    exact this
  have hm1' : GrM (w1.alloc (.cells #[.slice na1 g.nodes.length nc1, .slice ua1 32 uc1, .slice (some ⟨rb1, 0, none⟩) 32 rc1] 45)) (w.heap.size + 1 + 1 + 1 + 1) rb1 (.slice na1 g.nodes.length nc1) (.slice ua1 32 uc1) (.slice (some ⟨rb1, 0, none⟩) 32 rc1) g := (hm1.base (by simp)).keep fun k hk => Below.heap_alloc _ _ _ hk
  have hs1 : w.heap.size + 1 + 1 + 1 + 1 ≤ w1.heap.size := st0.hp
  have MM := Lib.hid hm1'
  have ST := Lib.hid st0
  clear hm1 hm1' hb1 st0
  go_upto_region 2 with (fail)
  obtain ⟨W, hW⟩ : ∃ W : World, W = (w1.alloc (.cells #[.slice na1 g.nodes.length nc1, .slice ua1 32 uc1, .slice (some ⟨rb1, 0, none⟩) 32 rc1] 45)) := ⟨_, rfl⟩
  rw [← hW] at MM ST ⊢
  generalize w1.heap.size = p at *
  clear hW
  have hs6 := ST.out.s6
  have hs3 := ST.out.s3
  have hhp := ST.out.hp
  have hs0 : w.heap.size < W.heap.size := (by omega)
  have hs01 : w.heap.size + 1 < W.heap.size := (by omega)
  have hs02 : w.heap.size + 1 + 1 < W.heap.size := (by omega)
  have o0c := ST.out.o0
  have o1c := ST.out.o1
  have o2c := ST.out.o2
  have o3c := ST.out.o3
  go_wp2_with fail
  refine wp_region_facts2 (by kernel_rfl) (fun _ => DrG w (.slice na g.nodes.length nc) (.slice ua 32 uc) (.slice (some ⟨rb, 0, none⟩) 32 rc) (.slice na1 g.nodes.length nc1) (.slice ua1 32 uc1) (.slice (some ⟨rb1, 0, none⟩) 32 rc1) 10 x y z p B rb rb1 g g) (DrE (w.heap.size + 1 + 1) 5 6) (DqF (w.heap.size + 1 + 1) p (.agg #[.slice na g.nodes.length nc, .slice ua 32 uc, .slice (some ⟨rb, 0, none⟩) 32 rc]) (.agg #[.slice na1 g.nodes.length nc1, .slice ua1 32 uc1, .slice (some ⟨rb1, 0, none⟩) 32 rc1]) (.slice na1 g.nodes.length nc1) (.slice ua1 32 uc1) (.slice (some ⟨rb1, 0, none⟩) 32 rc1) x y z) DqLoc (by kernel_rfl) (by kernel_rfl) (by kernel_rfl) (DqF.loc (w.heap.size + 1 + 1) p (.agg #[.slice na g.nodes.length nc, .slice ua 32 uc, .slice (some ⟨rb, 0, none⟩) 32 rc]) (.agg #[.slice na1 g.nodes.length nc1, .slice ua1 32 uc1, .slice (some ⟨rb1, 0, none⟩) 32 rc1]) (.slice na1 g.nodes.length nc1) (.slice ua1 32 uc1) (.slice (some ⟨rb1, 0, none⟩) 32 rc1) x y z) (fun i j a W W' h _ => DqF.stab (w.heap.size + 1 + 1) p (.agg #[.slice na g.nodes.length nc, .slice ua 32 uc, .slice (some ⟨rb, 0, none⟩) 32 rc]) (.agg #[.slice na1 g.nodes.length nc1, .slice ua1 32 uc1, .slice (some ⟨rb1, 0, none⟩) 32 rc1]) (.slice na1 g.nodes.length nc1) (.slice ua1 32 uc1) (.slice (some ⟨rb1, 0, none⟩) 32 rc1) x y z i j a W W' h) ?_ ?_ ?_
  · exact (DrG.of ST.out (HGM.out.below ST.out.bel) MM.out).keep ((Below.refl _ _).drew)
  · skip
    refine RSteps2.cons (RStep2.mk rfl rfl fun t V hsz hout L hun hdn hG hdep K hK => ?_) ?_
    · have HS : Hid (103 < t.size) := Lib.hid (by rw [show t.size = 324 from hsz]; decide)
      obtain ⟨g0, g1, g2, o0, o1, o2, o3, p0, p1, p2⟩ := hG.cells
      obtain ⟨s0, s1, s2, s3, s4⟩ := hG.sizes
      have t6 : t[6]? = some (.pointer (some ⟨p, 0, none⟩)) := hout 6 (by kernel_rfl)
      clear hout hdep hun hdn hsz
      go_simp
      exact hK.out _ _ hG DrE.refl (put_here HS.out)
    refine RSteps2.cons (RStep2.mk rfl rfl fun t V hsz hout L hun hdn hG hdep K hK => ?_) ?_
    · have HS : Hid (104 < t.size) := Lib.hid (by rw [show t.size = 324 from hsz]; decide)
      obtain ⟨g0, g1, g2, o0, o1, o2, o3, p0, p1, p2⟩ := hG.cells
      obtain ⟨s0, s1, s2, s3, s4⟩ := hG.sizes
      have t2 : t[2]? = some (.pointer (some ⟨w.heap.size, 0, none⟩)) := hout 2 (by kernel_rfl)
      clear hout hdep hun hdn hsz
      go_simp
      exact hK.out _ _ hG DrE.refl (put_here HS.out)
    refine RSteps2.cons (RStep2.mk rfl rfl fun t V hsz hout L hun hdn hG hdep K hK => ?_) ?_
    · have HS : Hid (105 < t.size) := Lib.hid (by rw [show t.size = 324 from hsz]; decide)
      obtain ⟨g0, g1, g2, o0, o1, o2, o3, p0, p1, p2⟩ := hG.cells
      obtain ⟨s0, s1, s2, s3, s4⟩ := hG.sizes
      have t104 : t[104]? = some (.agg #[.slice na g.nodes.length nc, .slice ua 32 uc, .slice (some ⟨rb, 0, none⟩) 32 rc]) := hdep 1 (by kernel_rfl)
      clear hout hdep hun hdn hsz g0 g1 g2 o0 o1 o2 o3 p0 p1 p2
      go_simp
      refine (live_any _ B rb _ _ _ g hG.ins n HOK.out (by omega)).mono ?_
      rintro e w2 ⟨zq, rfl, hb2⟩
      go_simp
      exact hK.out _ _ (hG.keep hb2) (DrE.gw hb2.size hb2.block) ⟨zq, put_here HS.out⟩
    refine RSteps2.cons (RStep2.mk rfl rfl fun t V hsz hout L hun hdn hG hdep K hK => ?_) ?_
    · have HS : Hid (106 < t.size) := Lib.hid (by rw [show t.size = 324 from hsz]; decide)
      obtain ⟨g0, g1, g2, o0, o1, o2, o3, p0, p1, p2⟩ := hG.cells
      obtain ⟨s0, s1, s2, s3, s4⟩ := hG.sizes
      obtain ⟨q, tq⟩ := hdep 2 (by kernel_rfl)
      have t105 : t[105]? = some (.int .i64 q) := tq
      clear tq
      clear hout hdep hun hdn hsz
      go_simp
      exact hK.out _ _ hG DrE.refl ⟨_, put_here HS.out⟩
    refine RSteps2.cons (RStep2.mk rfl rfl fun t V hsz hout L hun hdn hG hdep K hK => ?_) ?_
    · have HS : Hid (107 < t.size) := Lib.hid (by rw [show t.size = 324 from hsz]; decide)
      obtain ⟨g0, g1, g2, o0, o1, o2, o3, p0, p1, p2⟩ := hG.cells
      obtain ⟨s0, s1, s2, s3, s4⟩ := hG.sizes
      obtain ⟨q, tq⟩ := hdep 3 (by kernel_rfl)
      have t106 : t[106]? = some (.int .u64 q) := tq
      clear tq
      clear hout hdep hun hdn hsz
      go_simp
      exact hK.out _ _ hG DrE.refl ⟨_, put_here HS.out⟩
    refine RSteps2.cons (RStep2.mk rfl rfl fun t V hsz hout L hun hdn hG hdep K hK => ?_) ?_
    · skip
      obtain ⟨g0, g1, g2, o0, o1, o2, o3, p0, p1, p2⟩ := hG.cells
      obtain ⟨s0, s1, s2, s3, s4⟩ := hG.sizes
      have t4 : t[4]? = some (.pointer (some ⟨w.heap.size + 1 + 1, 0, none⟩)) := hout 4 (by kernel_rfl)
      have t103 : t[103]? = some (.agg #[.slice na1 g.nodes.length nc1, .slice ua1 32 uc1, .slice (some ⟨rb1, 0, none⟩) 32 rc1]) := hdep 0 (by kernel_rfl)
      obtain ⟨z0, z1, z2, hb2⟩ := hG.b2
      have c0 : V.cell? ⟨w.heap.size + 1 + 1, 0, none⟩ = some z0 := by rw [cell_block hb2]; rfl
      have c1 : V.cell? ⟨w.heap.size + 1 + 1, 1, none⟩ = some z1 := by rw [cell_block hb2]; rfl
      have c2 : V.cell? ⟨w.heap.size + 1 + 1, 2, none⟩ = some z2 := by rw [cell_block hb2]; rfl
      have f0 : V.frozen? ⟨w.heap.size + 1 + 1, 0, none⟩ = false := frozen_block hb2
      have f1 : V.frozen? ⟨w.heap.size + 1 + 1, 1, none⟩ = false := frozen_block hb2
      have f2 : V.frozen? ⟨w.heap.size + 1 + 1, 2, none⟩ = false := frozen_block hb2
      have HB := Lib.hid hb2
      clear hb2 hout hdep hun hdn hsz g0 g1 g2 o0 o1 o2 o3 p0 p1 p2
      go_simp
      exact hK.out undef _ ((hG.set2).set2).set2 (DrE.set4 (by simp) (fun k hk => by rw [setCell_other _ hk, setCell_other _ hk, setCell_other _ hk])) (set3_block HB.out _ _ _)
    refine RSteps2.cons (RStep2.mk rfl rfl fun t V hsz hout L hun hdn hG hdep K hK => ?_) ?_
    · skip
      obtain ⟨g0, g1, g2, o0, o1, o2, o3, p0, p1, p2⟩ := hG.cells
      obtain ⟨s0, s1, s2, s3, s4⟩ := hG.sizes
      have t5 : t[5]? = some (.pointer (some ⟨w.heap.size + 1 + 1 + 1, 0, none⟩)) := hout 5 (by kernel_rfl)
      obtain ⟨u, ta⟩ := hdep 4 (by kernel_rfl)
      have t107 : t[107]? = some (.agg #[.int .i64 0, .int .u64 u]) := ta
      obtain ⟨z0, z1, hb2⟩ := hG.b3
      have c0 : V.cell? ⟨w.heap.size + 1 + 1 + 1, 0, none⟩ = some z0 := by rw [cell_block hb2]; rfl
      have c1 : V.cell? ⟨w.heap.size + 1 + 1 + 1, 1, none⟩ = some z1 := by rw [cell_block hb2]; rfl
      have f0 : V.frozen? ⟨w.heap.size + 1 + 1 + 1, 0, none⟩ = false := frozen_block hb2
      have f1 : V.frozen? ⟨w.heap.size + 1 + 1 + 1, 1, none⟩ = false := frozen_block hb2
      have HB := Lib.hid hb2
      clear ta hb2 hout hdep hun hdn hsz g0 g1 g2 o0 o1 o2 o3 p0 p1 p2
      go_simp
      exact hK.out undef _ ((hG.set3).set3) (DrE.set5 (by simp) (fun k hk => by rw [setCell_other _ hk, setCell_other _ hk])) ⟨u, set2_block' HB.out _ _⟩
    exact RSteps2.nil (by decide)
  · intro a' V hR
    have hG := hR.g
    have hb2 := hR.all (i := 5) (by decide)
    obtain ⟨u, hb3⟩ := hR.all (i := 6) (by decide)
    obtain ⟨us, hus, rfl⟩ := hR.frame rfl 103 5 (by intro k hk; simp [writes]; omega) (by simp)
    clear hR
    obtain ⟨v0, us0, rfl, hus0⟩ := list_next hus
    obtain ⟨v1, us1, rfl, hus1⟩ := list_next hus0
    obtain ⟨v2, us2, rfl, hus2⟩ := list_next hus1
    obtain ⟨v3, us3, rfl, hus3⟩ := list_next hus2
    obtain ⟨v4, us4, rfl, hus4⟩ := list_next hus3
    obtain rfl := list_none hus4
    simp only [List.take_succ_cons, List.take_zero, List.drop_succ_cons, List.drop_zero, List.cons_append, List.nil_append]
    have HG := Lib.hid hG
    have HB2 := Lib.hid hb2
    have HB3 := Lib.hid hb3
    clear hG hb2 hb3
    go_wp2_with fail
    exact do_fin HG.out.bel HB2.out HB3.out (HG.out.out.base (by have := HBW.out; omega)) (HOK.out.more (by omega)) rfl rfl rfl
end Go.Proofs.Ytadoehlhfccacaa
