/- The reference model's Do: the operations of code 2: it returns a valid graph of one node more at most. Condition: a valid graph of at most 900 nodes in memory, operands from 0 to 255. -/
import Derived.Test.YtadoehlhfccacaaReg5
import Derived.Test.YtadoehlhfccacaaDoN
namespace Go.Proofs.Ytadoehlhfccacaa
open Go.RowKit
set_option linter.unusedVariables false

def DeF (vs : Nat → Value) : Nat → Act → World → Prop
  | 0, a, _ => a.tmps[309]? = some (vs 0)
  | 1, a, _ => a.tmps[310]? = some (vs 1)
  | 2, a, _ => a.tmps[311]? = some (vs 2)
  | 3, a, _ => a.tmps[312]? = some (vs 3)
  | 4, a, _ => a.tmps[313]? = some (vs 4)
  | 5, a, _ => a.tmps[314]? = some (vs 5)
  | 6, a, _ => a.tmps[315]? = some (vs 6)
  | 7, a, _ => a.tmps[316]? = some (vs 7)
  | 8, a, _ => a.tmps[317]? = some (vs 8)
  | 9, a, _ => a.tmps[318]? = some (vs 9)
  | 11, a, _ => a.tmps[319]? = some (vs 11)
  | _, _, _ => True
def DeLoc : Nat → List Nat | 0 => [309] | 1 => [310] | 2 => [311] | 3 => [312] | 4 => [313] | 5 => [314] | 6 => [315] | 7 => [316] | 8 => [317] | 9 => [318] | 11 => [319] | _ => []
theorem DeF.loc (vs : Nat → Value) : ∀ j a d v w, d ∉ DeLoc j → DeF vs j a w → DeF vs j (a.put (some d) v) w := by
  intro j a d v w hd h
  match j with
  | 0 | 1 | 2 | 3 | 4 | 5 | 6 | 7 | 8 | 9 | 11 =>
    simp only [DeLoc, List.mem_singleton] at hd
    simp only [DeF] at h ⊢
    rw [put_same hd]
    exact h
  | 10 | 12 => exact h
  | _ + 13 => trivial
theorem DeF.stab (vs : Nat → Value) : ∀ j a W W', DeF vs j a W → DeF vs j a W' := by
  intro j a W W' h
  match j with
  | 0 | 1 | 2 | 3 | 4 | 5 | 6 | 7 | 8 | 9 | 11 => exact h
  | 10 | 12 => exact h
  | _ + 13 => trivial

set_option maxRecDepth 100000 in
set_option maxHeartbeats 8000000 in
theorem do_c2 (w : World) (B rb : Nat) (hB : B ≤ w.heap.size) (nv uv rv : Value) (g : Gr) (hg : GrM w B rb nv uv rv g) (n : Nat) (hok : GrOk n g) (hn : n ≤ 900) (x y z : Int) (hx : 0 ≤ x ∧ x ≤ 255) (hy : 0 ≤ y ∧ y ≤ 255) (hz : 0 ≤ z ∧ z ≤ 255) :
    Calls Try.prog 22 #[.agg #[nv, uv, rv], .agg #[.int .i64 2, .int .i64 x, .int .i64 y, .int .i64 z]] w (DoPost w B n) := by
  have HOK := Lib.hid hok
  have HBW := Lib.hid hB
  obtain ⟨na, nc, ua, uc, rc, rfl, rfl, rfl⟩ := hg.forms
  rw [hok.ul, hok.rl] at hg ⊢
  have HGM := Lib.hid hg
  have hnl : g.nodes.length ≤ 900 := Nat.le_trans hok.nl hn
  obtain ⟨hx0, hx1⟩ := hx
  obtain ⟨hy0, hy1⟩ := hy
  obtain ⟨hz0, hz1⟩ := hz
  clear hg hok
  go_enter Try.func22, Try.ntmps22
  go_wp2_with fail
  refine (gcopy_any _ B rb _ _ _ g (HGM.out.below (by repeat (first | exact Below.refl _ _ | refine Below.alloc ?_ (by first | exact Nat.le_refl _ | (simp; done) | (simp; omega)) _))) n HOK.out (by omega)).mono ?_
  rintro e w1 ⟨rb1, nv1, uv1, rv1, rfl, hm1, hb1⟩
  have hul := HOK.out.ul
  have hrl := HOK.out.rl
  obtain ⟨na1, nc1, ua1, uc1, rc1, rfl, rfl, rfl⟩ := hm1.forms
  rw [hul, hrl] at hm1
  rw [hul, hrl]
  clear hul hrl
  have st0 : DoSt w (.slice na g.nodes.length nc) (.slice ua 32 uc) (.slice (some ⟨rb, 0, none⟩) 32 rc) (.slice na1 g.nodes.length nc1) (.slice ua1 32 uc1) (.slice (some ⟨rb1, 0, none⟩) 32 rc1) 2 x y z w1.heap.size (w1.alloc (.cells #[.slice na1 g.nodes.length nc1, .slice ua1 32 uc1, .slice (some ⟨rb1, 0, none⟩) 32 rc1] 45)) := by
    have hb0 : Below w.heap.size w w1 := by
      refine Below.trans ?_ (hb1.mono (by simp; omega))
      exact (by repeat (first | exact Below.refl _ _ | refine Below.alloc ?_ (by first | exact Nat.le_refl _ | (simp; done) | (simp; omega)) _))
    have h4 : ∀ {b o}, b < w.heap.size + 1 + 1 + 1 + 1 → ((((w.alloc (.cells #[.slice na g.nodes.length nc, .slice ua 32 uc, .slice (some ⟨rb, 0, none⟩) 32 rc] 45)).alloc (.cells #[.int .i64 2, .int .i64 x, .int .i64 y, .int .i64 z] 35)).alloc (.cells #[.slice none 0 0, .slice none 0 0, .slice none 0 0] 45)).alloc (.cells #[.int .i64 0, .int .u64 0] 53)).heap[b]? = some o → w1.heap[b]? = some o := fun hb e => below_block hb1 (by simpa using hb) e
    refine ⟨hb0.alloc hb0.size _, alloc_block (h4 (by omega) (alloc_block (alloc_block (alloc_block (heap_alloc_new _ _))))), alloc_block (h4 (by omega) (alloc_block (alloc_block (heap_alloc_at _ _ _ (by simp))))), alloc_block (h4 (by omega) (alloc_block (heap_alloc_at _ _ _ (by simp)))), alloc_block (h4 (by omega) (heap_alloc_at _ _ _ (by simp))), ?_, heap_alloc_new _ _⟩
    have := hb1.size
    simp at this
    exact this
  have hm1' : GrM (w1.alloc (.cells #[.slice na1 g.nodes.length nc1, .slice ua1 32 uc1, .slice (some ⟨rb1, 0, none⟩) 32 rc1] 45)) (w.heap.size + 1 + 1 + 1 + 1) rb1 (.slice na1 g.nodes.length nc1) (.slice ua1 32 uc1) (.slice (some ⟨rb1, 0, none⟩) 32 rc1) g := (hm1.base (by simp)).keep fun k hk => Below.heap_alloc _ _ _ hk
  have hs1 : w.heap.size + 1 + 1 + 1 + 1 ≤ w1.heap.size := st0.hp
  have MM := Lib.hid hm1'
  have ST := Lib.hid st0
  clear hm1 hm1' hb1 st0
  go_upto_region 2 with (fail)
  obtain ⟨W, hW⟩ : ∃ W : World, W = (w1.alloc (.cells #[.slice na1 g.nodes.length nc1, .slice ua1 32 uc1, .slice (some ⟨rb1, 0, none⟩) 32 rc1] 45)) := ⟨_, rfl⟩
  rw [← hW] at MM ST ⊢
  generalize w1.heap.size = p at *
  clear hW
  have hs6 := ST.out.s6
  have hs3 := ST.out.s3
  have hhp := ST.out.hp
  have hs0 : w.heap.size < W.heap.size := (by omega)
  have hs01 : w.heap.size + 1 < W.heap.size := (by omega)
  have hs02 : w.heap.size + 1 + 1 < W.heap.size := (by omega)
  have g0c := ST.out.g0
  have g1c := ST.out.g1
  have g2c := ST.out.g2
  have o0c := ST.out.o0
  have o1c := ST.out.o1
  have o2c := ST.out.o2
  have o3c := ST.out.o3
  go_wp2_with fail
  refine (handle_any _ B rb _ _ _ g (HGM.out.below ST.out.bel) HOK.out.ul x true (by omega) (by omega)).mono ?_
  rintro e w2 ⟨r2, rfl, hh2, hb2⟩
  have ST2 := Lib.hid (ST.out.keep hb2)
  have MM2 := Lib.hid (MM.out.below hb2)
  have HH2 := Lib.hid hh2
  clear hb2 hh2 hs6 hs3 hs0 hs01 hs02 g0c g1c g2c o0c o1c o2c o3c
  by_cases hr2 : r2 = 0
  · subst hr2
    have hs6 := ST2.out.s6
    have hs3 := ST2.out.s3
    have hhp := ST2.out.hp
    have hs0 : w.heap.size < w2.heap.size := (by omega)
    have hs01 : w.heap.size + 1 < w2.heap.size := (by omega)
    have hs02 : w.heap.size + 1 + 1 < w2.heap.size := (by omega)
    have g0c := ST2.out.g0
    have g1c := ST2.out.g1
    have g2c := ST2.out.g2
    have o0c := ST2.out.o0
    have o1c := ST2.out.o1
    have o2c := ST2.out.o2
    have o3c := ST2.out.o3
    obtain ⟨_, _, ub1, _, _, hj1, euc, hj2⟩ := MM2.out.uc HOK.out.ul
    clear hj1 hj2
    simp only [Value.slice.injEq] at euc
    obtain ⟨rfl, _, rfl⟩ := euc
    obtain ⟨h, _⟩ | ⟨hx2, hx3, hus⟩ := HH2.out rfl
    · rename_i h2; cases h2
    obtain ⟨hri1, hri2⟩ := HOK.out.root _ hus
    clear hus
    have HRI : Hid (g.roots.getD (x - 1).toNat 0 = g.roots.getD (x - 1).toNat 0) := Lib.hid rfl
    obtain ⟨ri, hri⟩ := Int.eq_ofNat_of_zero_le hri1
    have HR := Lib.hid hri
    rw [hri] at hri2
    clear hri hri1 HRI
    have hrl : ri < g.nodes.length := by omega
    obtain ⟨nq, xa, xb, rfl, hq1, hq2, hqc0, hqc1, hxa, hxb⟩ := HGM.out.node_at hrl
    have HND := Lib.hid (HOK.out.node g.nodes[ri] (List.getElem_mem hrl))
    obtain ⟨ra, rac, rfl⟩ := own_form hxa
    obtain ⟨da, dac, rfl⟩ := own_form hxb
    generalize hnd : g.nodes[ri] = nd at *
    have HNE := Lib.hid hnd
    clear hnd
    generalize hml : nd.refs.length = ml at *
    generalize hdl : nd.data.length = dl at *
    have HML := Lib.hid hml
    have HDL := Lib.hid hdl
    clear hml hdl
    have HXA := Lib.hid hxa
    have HXB := Lib.hid hxb
    have HQ0 := Lib.hid hqc0
    have HQ1 := Lib.hid hqc1
    clear hxa hxb hqc0 hqc1
    go_wp2_with fail
    refine wp_region_facts2 (by kernel_rfl) (fun _ => DrG w (.slice (some ⟨nq, 0, none⟩) g.nodes.length nc) (.slice ua 32 uc) (.slice (some ⟨rb, 0, none⟩) 32 rc) (.slice na1 g.nodes.length nc1) (.slice (some ⟨ub1, 0, none⟩) 32 uc1) (.slice (some ⟨rb1, 0, none⟩) 32 rc1) 2 x y z p B rb rb1 g g) DnE (DnF (w.heap.size + 1 + 1 + 1 + 1) nq ri w.heap.size x (.slice (some ⟨nq, 0, none⟩) g.nodes.length nc) (.slice na1 g.nodes.length nc1) (.agg #[.slice (some ⟨nq, 0, none⟩) g.nodes.length nc, .slice ua 32 uc, .slice (some ⟨rb, 0, none⟩) 32 rc]) (.slice ra ml rac) (.slice da dl dac)) dnLoc (by kernel_rfl) (by kernel_rfl) (by kernel_rfl) (DnF.loc _ _ _ _ _ _ _ _ _ _) (fun i j a W W' h _ => DnF.stab _ _ _ _ _ _ _ _ _ _ i j a W W' h) ?_ ?_ ?_
    · exact (DrG.of ST2.out (HGM.out.below ST2.out.bel) MM2.out).keep ((Below.refl _ _).drew)
    · skip
      refine RSteps2.cons (RStep2.mk rfl rfl fun t V hsz hout L hun hdn hG hdep K hK => ?_) ?_
      · have HS : Hid (163 < t.size) := Lib.hid (by rw [show t.size = 324 from hsz]; decide)
        obtain ⟨g0, g1, g2, o0, o1, o2, o3, p0, p1, p2⟩ := hG.cells
        obtain ⟨s0, s1, s2, s3, s4⟩ := hG.sizes
        have t2 : t[2]? = some (.pointer (some ⟨w.heap.size, 0, none⟩)) := hout 2 (by kernel_rfl)
        clear hout hdep hun hdn hsz
        go_simp
        exact hK.out _ _ hG ⟨Gn.of_gw (Nat.le_refl _) (Gw.refl _), fun _ => Gw.refl _⟩ (put_here HS.out)
      refine RSteps2.cons (RStep2.mk rfl rfl fun t V hsz hout L hun hdn hG hdep K hK => ?_) ?_
      · have HS : Hid (164 < t.size) := Lib.hid (by rw [show t.size = 324 from hsz]; decide)
        obtain ⟨g0, g1, g2, o0, o1, o2, o3, p0, p1, p2⟩ := hG.cells
        obtain ⟨s0, s1, s2, s3, s4⟩ := hG.sizes
        have t163 : t[163]? = some (.pointer (some ⟨w.heap.size, 0, none⟩)) := hdep 0 (by kernel_rfl)
        clear hout hdep hun hdn hsz
        go_simp
        exact hK.out _ _ hG ⟨Gn.of_gw (Nat.le_refl _) (Gw.refl _), fun _ => Gw.refl _⟩ (put_here HS.out)
      refine RSteps2.cons (RStep2.mk rfl rfl fun t V hsz hout L hun hdn hG hdep K hK => ?_) ?_
      · have HS : Hid (165 < t.size) := Lib.hid (by rw [show t.size = 324 from hsz]; decide)
        obtain ⟨g0, g1, g2, o0, o1, o2, o3, p0, p1, p2⟩ := hG.cells
        obtain ⟨s0, s1, s2, s3, s4⟩ := hG.sizes
        have t2 : t[2]? = some (.pointer (some ⟨w.heap.size, 0, none⟩)) := hout 2 (by kernel_rfl)
        clear hout hdep hun hdn hsz
        go_simp
        exact hK.out _ _ hG ⟨Gn.of_gw (Nat.le_refl _) (Gw.refl _), fun _ => Gw.refl _⟩ (put_here HS.out)
      refine RSteps2.cons (RStep2.mk rfl rfl fun t V hsz hout L hun hdn hG hdep K hK => ?_) ?_
      · have HS : Hid (166 < t.size) := Lib.hid (by rw [show t.size = 324 from hsz]; decide)
        obtain ⟨g0, g1, g2, o0, o1, o2, o3, p0, p1, p2⟩ := hG.cells
        obtain ⟨s0, s1, s2, s3, s4⟩ := hG.sizes
        have t3 : t[3]? = some (.pointer (some ⟨w.heap.size + 1, 0, none⟩)) := hout 3 (by kernel_rfl)
        clear hout hdep hun hdn hsz
        go_simp
        exact hK.out _ _ hG ⟨Gn.of_gw (Nat.le_refl _) (Gw.refl _), fun _ => Gw.refl _⟩ (put_here HS.out)
      refine RSteps2.cons (RStep2.mk rfl rfl fun t V hsz hout L hun hdn hG hdep K hK => ?_) ?_
      · have HS : Hid (167 < t.size) := Lib.hid (by rw [show t.size = 324 from hsz]; decide)
        obtain ⟨g0, g1, g2, o0, o1, o2, o3, p0, p1, p2⟩ := hG.cells
        obtain ⟨s0, s1, s2, s3, s4⟩ := hG.sizes
        have t166 : t[166]? = some (.pointer (some ⟨w.heap.size + 1, 1, none⟩)) := hdep 3 (by kernel_rfl)
        clear hout hdep hun hdn hsz
        go_simp
        exact hK.out _ _ hG ⟨Gn.of_gw (Nat.le_refl _) (Gw.refl _), fun _ => Gw.refl _⟩ (put_here HS.out)
      refine RSteps2.cons (RStep2.mk rfl rfl fun t V hsz hout L hun hdn hG hdep K hK => ?_) ?_
      · have HS : Hid (168 < t.size) := Lib.hid (by rw [show t.size = 324 from hsz]; decide)
        obtain ⟨g0, g1, g2, o0, o1, o2, o3, p0, p1, p2⟩ := hG.cells
        obtain ⟨s0, s1, s2, s3, s4⟩ := hG.sizes
        have t165 : t[165]? = some (.agg #[.slice (some ⟨nq, 0, none⟩) g.nodes.length nc, .slice ua 32 uc, .slice (some ⟨rb, 0, none⟩) 32 rc]) := hdep 2 (by kernel_rfl)
        have t167 : t[167]? = some (.int .i64 x) := hdep 4 (by kernel_rfl)
        clear hout hdep hun hdn hsz g0 g1 g2 o0 o1 o2 o3 p0 p1 p2
        go_simp
        refine (node_any _ B rb _ _ _ g hG.ins HOK.out.rl x ri (.inr ⟨hx2, hx3, HR.out⟩)).mono ?_
        rintro e w3 ⟨rfl, hb3⟩
        go_simp
        exact hK.out _ _ (hG.keep hb3) ⟨Gn.of_gw hb3.size hb3.block, fun _ => hb3.block⟩ (put_here HS.out)
      refine RSteps2.cons (RStep2.mk rfl rfl fun t V hsz hout L hun hdn hG hdep K hK => ?_) ?_
      · have HS : Hid (169 < t.size) := Lib.hid (by rw [show t.size = 324 from hsz]; decide)
        obtain ⟨g0, g1, g2, o0, o1, o2, o3, p0, p1, p2⟩ := hG.cells
        obtain ⟨s0, s1, s2, s3, s4⟩ := hG.sizes
        have t164 : t[164]? = some (.slice (some ⟨nq, 0, none⟩) g.nodes.length nc) := hdep 1 (by kernel_rfl)
        have t168 : t[168]? = some (.int .i64 ri) := hdep 5 (by kernel_rfl)
        have hnq : nq < V.heap.size := by omega
        clear hout hdep hun hdn hsz g0 g1 g2 o0 o1 o2 o3 p0 p1 p2
        go_simp
        exact hK.out _ _ hG ⟨Gn.of_gw (Nat.le_refl _) (Gw.refl _), fun _ => Gw.refl _⟩ (put_here HS.out)
      refine RSteps2.cons (RStep2.mk rfl rfl fun t V hsz hout L hun hdn hG hdep K hK => ?_) ?_
      · have HS : Hid (170 < t.size) := Lib.hid (by rw [show t.size = 324 from hsz]; decide)
        obtain ⟨g0, g1, g2, o0, o1, o2, o3, p0, p1, p2⟩ := hG.cells
        obtain ⟨s0, s1, s2, s3, s4⟩ := hG.sizes
        have t169 : t[169]? = some (.pointer (some ⟨nq, ri * 2, none⟩)) := hdep 6 (by kernel_rfl)
        have x0 : V.cell? ⟨nq, ri * 2, none⟩ = some (.slice ra ml rac) := (hG.bel.cell (p := ⟨nq, ri * 2, none⟩) hq2).trans HQ0.out
        have x1 : V.cell? ⟨nq, ri * 2 + 1, none⟩ = some (.slice da dl dac) := (hG.bel.cell (p := ⟨nq, ri * 2 + 1, none⟩) hq2).trans HQ1.out
        have hnq : nq < V.heap.size := by omega
        clear hout hdep hun hdn hsz g0 g1 g2 o0 o1 o2 o3 p0 p1 p2
        go_simp
        exact hK.out _ _ hG ⟨Gn.of_gw (Nat.le_refl _) (Gw.refl _), fun _ => Gw.refl _⟩ (put_here HS.out)
      refine RSteps2.cons (RStep2.mk rfl rfl fun t V hsz hout L hun hdn hG hdep K hK => ?_) ?_
      · have HS : Hid (13 < t.size) := Lib.hid (by rw [show t.size = 324 from hsz]; decide)
        obtain ⟨g0, g1, g2, o0, o1, o2, o3, p0, p1, p2⟩ := hG.cells
        obtain ⟨s0, s1, s2, s3, s4⟩ := hG.sizes
        have hp := hG.hp
        have hn1 := hG.ins.nodes.ne (b := V.heap.size) (.inr (Nat.le_refl _))
        have hn2 := hG.out.nodes.ne (b := V.heap.size) (.inr (Nat.le_refl _))
        clear hout hdep hun hdn hsz g0 g1 g2 o0 o1 o2 o3 p0 p1 p2
        have N1 := Lib.hid hn1
        have N2 := Lib.hid hn2
        clear hn1 hn2
        go_simp
        exact hK.out _ _ (hG.keep ((Below.refl _ _).alloc (Nat.le_refl _) _)) ⟨Gn.of_gw (by simp) (Gw.alloc _ _), fun _ => Gw.alloc _ _⟩ ⟨_, _, _, put_here HS.out, by omega, N1.out, N2.out, heap_alloc_new _ _⟩
      refine RSteps2.cons (RStep2.mk rfl rfl fun t V hsz hout L hun hdn hG hdep K hK => ?_) ?_
      · skip
        obtain ⟨g0, g1, g2, o0, o1, o2, o3, p0, p1, p2⟩ := hG.cells
        obtain ⟨s0, s1, s2, s3, s4⟩ := hG.sizes
        obtain ⟨b, z0, z1, t13, hbb, hn1, hn2, hk⟩ := hdep 8 (by kernel_rfl)
        have t170 : t[170]? = some (.agg #[(.slice ra ml rac), (.slice da dl dac)]) := hdep 7 (by kernel_rfl)
        have t13' : t[13]? = some (.pointer (some ⟨b, 0, none⟩)) := t13
        have T13 := Lib.hid t13
        have c0 : V.cell? ⟨b, 0, none⟩ = some z0 := by rw [cell_block hk]; rfl
        have c1 : V.cell? ⟨b, 1, none⟩ = some z1 := by rw [cell_block hk]; rfl
        have f0 : V.frozen? ⟨b, 0, none⟩ = false := frozen_block hk
        have f1 : V.frozen? ⟨b, 1, none⟩ = false := frozen_block hk
        have hbl := block_lt hk
        have HB := Lib.hid hk
        have N1 := Lib.hid hn1
        have N2 := Lib.hid hn2
        clear t13 hk hn1 hn2 hout hdep hun hdn hsz g0 g1 g2 o0 o1 o2 o3 p0 p1 p2
        go_simp
        exact hK.out undef _ ((hG.set_node HB.out N1.out N2.out (by omega)).set_node (setCell_block HB.out _) N1.out N2.out (by omega)) ⟨(Gn.set HB.out _).trans (Gn.set (setCell_block HB.out _) _), fun h => absurd rfl h⟩ ⟨b, T13.out, hbb, N1.out, N2.out, set2_block' HB.out _ _⟩
      exact RSteps2.nil (by decide)
    · intro a' V hR
      have hG := hR.g
      obtain ⟨b, t13, hbb, hn1, hn2, hbx⟩ := hR.all (i := 9) (by decide)
      obtain ⟨f, rfl, hf⟩ := hR.frameS rfl [13, 163, 164, 165, 166, 167, 168, 169, 170] (by intro k hk; simp at hk; simp [writes]; omega)
      clear hR
      have hf13 := hf 13 (by simp) (by simp)
      rw [t13] at hf13
      have e13 : f 13 = .pointer (some ⟨b, 0, none⟩) := by injection hf13 with h; exact h.symm
      clear hf hf13 t13
      simp only [setAll, List.map_cons, List.map_nil, List.set_cons_succ, List.set_cons_zero]
      rw [e13]
      clear e13
      generalize f 163 = v163
      generalize f 164 = v164
      generalize f 165 = v165
      generalize f 166 = v166
      generalize f 167 = v167
      generalize f 168 = v168
      generalize f 169 = v169
      generalize f 170 = v170
      clear f
      have HG := Lib.hid hG
      have HBX := Lib.hid hbx
      have N1 := Lib.hid hn1
      have N2 := Lib.hid hn2
      clear hG hbx hn1 hn2
      obtain ⟨g0, g1, g2, o0, o1, o2, o3, p0, p1, p2⟩ := HG.out.cells
      obtain ⟨s0, s1, s2, s3, s4⟩ := HG.out.sizes
      have bx0 : V.cell? ⟨b, 0, none⟩ = some (.slice ra ml rac) := by rw [cell_block HBX.out]; rfl
      have bx1 : V.cell? ⟨b, 1, none⟩ = some (.slice da dl dac) := by rw [cell_block HBX.out]; rfl
      have hbs := block_lt HBX.out
      by_cases hlim : ml ≤ y
      · have hlm : decide ((ml : Int) ≤ y) = true := by simpa using hlim
        go_wp2_with fail
        refine (fail_any _ _ _ _ ⟨_, _, _, rfl⟩ ⟨_, _, _, rfl⟩ ⟨_, _, _, rfl⟩ 17).mono ?_
        rintro e wf ⟨rfl, hbf⟩
        have HF := Lib.hid (HG.out.keep hbf)
        clear hbf g0 g1 g2 o0 o1 o2 o3 p0 p1 p2 bx0 bx1 s0 s1 s2 s3 s4 hbs
        obtain ⟨g0, g1, g2, o0, o1, o2, o3, p0, p1, p2⟩ := HF.out.cells
        obtain ⟨s0, s1, s2, s3, s4⟩ := HF.out.sizes
        obtain ⟨z0, z1, z2, hbb2⟩ := HF.out.b2
        obtain ⟨y0, y1, hbb3⟩ := HF.out.b3
        have c0 : wf.cell? ⟨w.heap.size + 1 + 1, 0, none⟩ = some z0 := by rw [cell_block hbb2]; rfl
        have c1 : wf.cell? ⟨w.heap.size + 1 + 1, 1, none⟩ = some z1 := by rw [cell_block hbb2]; rfl
        have c2 : wf.cell? ⟨w.heap.size + 1 + 1, 2, none⟩ = some z2 := by rw [cell_block hbb2]; rfl
        have f0 : wf.frozen? ⟨w.heap.size + 1 + 1, 0, none⟩ = false := frozen_block hbb2
        have f1 : wf.frozen? ⟨w.heap.size + 1 + 1, 1, none⟩ = false := frozen_block hbb2
        have f2 : wf.frozen? ⟨w.heap.size + 1 + 1, 2, none⟩ = false := frozen_block hbb2
        have c3 : wf.cell? ⟨w.heap.size + 1 + 1 + 1, 0, none⟩ = some y0 := by rw [cell_block hbb3]; rfl
        have c4 : wf.cell? ⟨w.heap.size + 1 + 1 + 1, 1, none⟩ = some y1 := by rw [cell_block hbb3]; rfl
        have f3 : wf.frozen? ⟨w.heap.size + 1 + 1 + 1, 0, none⟩ = false := frozen_block hbb3
        have f4 : wf.frozen? ⟨w.heap.size + 1 + 1 + 1, 1, none⟩ = false := frozen_block hbb3
        have HB2 := Lib.hid hbb2
        have HB3 := Lib.hid hbb3
        clear hbb2 hbb3
        go_wp2
        exact do_ret (a1 := 17) HF.out.bel HB2.out HB3.out HF.out.ins (HOK.out.more (by omega)) rfl rfl rfl
      · have hlm : decide ((ml : Int) ≤ y) = false := by simpa using hlim
        obtain ⟨yk, hyk⟩ := Int.eq_ofNat_of_zero_le hy0
        have hyd : yk < nd.refs.length := by rw [HML.out]; omega
        obtain ⟨rq, rqc, e, _, _, hrq1, hrq2, hrqc, _⟩ := HXA.out.at1 hyd
        simp only [Value.slice.injEq] at e
        obtain ⟨rfl, e2, rfl⟩ := e
        clear e2
        have hto := HND.out.2.2 _ (List.getElem_mem hyd)
        obtain ⟨tgt, hto1, hto2⟩ : ∃ tgt, w.cell? ⟨rq, yk, none⟩ = some (.int .i64 tgt) ∧ (-1 ≤ tgt ∧ tgt < g.nodes.length) := ⟨_, hrqc, hto⟩
        have cq : V.cell? ⟨rq, yk, none⟩ = some (.int .i64 tgt) := (HG.out.bel.cell (p := ⟨rq, yk, none⟩) hrq2).trans hto1
        have hrqs : rq < V.heap.size := by omega
        have hykl : (yk : Int) < ml := by omega
        obtain ⟨ht1, ht2⟩ := hto2
        clear hto1 hrqc hto hyd
        by_cases hneg : tgt = -1
        · subst hneg
          obtain ⟨z0, z1, z2, hbb2⟩ := HG.out.b2
          clear hbb2 z0 z1 z2
          obtain ⟨z0, z1, z2, hbb2⟩ := HG.out.b2
          obtain ⟨y0, y1, hbb3⟩ := HG.out.b3
          have c0 : V.cell? ⟨w.heap.size + 1 + 1, 0, none⟩ = some z0 := by rw [cell_block hbb2]; rfl
          have c1 : V.cell? ⟨w.heap.size + 1 + 1, 1, none⟩ = some z1 := by rw [cell_block hbb2]; rfl
          have c2 : V.cell? ⟨w.heap.size + 1 + 1, 2, none⟩ = some z2 := by rw [cell_block hbb2]; rfl
          have f0 : V.frozen? ⟨w.heap.size + 1 + 1, 0, none⟩ = false := frozen_block hbb2
          have f1 : V.frozen? ⟨w.heap.size + 1 + 1, 1, none⟩ = false := frozen_block hbb2
          have f2 : V.frozen? ⟨w.heap.size + 1 + 1, 2, none⟩ = false := frozen_block hbb2
          have c3 : V.cell? ⟨w.heap.size + 1 + 1 + 1, 0, none⟩ = some y0 := by rw [cell_block hbb3]; rfl
          have c4 : V.cell? ⟨w.heap.size + 1 + 1 + 1, 1, none⟩ = some y1 := by rw [cell_block hbb3]; rfl
          have f3 : V.frozen? ⟨w.heap.size + 1 + 1 + 1, 0, none⟩ = false := frozen_block hbb3
          have f4 : V.frozen? ⟨w.heap.size + 1 + 1 + 1, 1, none⟩ = false := frozen_block hbb3
          have HB2 := Lib.hid hbb2
          have HB3 := Lib.hid hbb3
          clear hbb2 hbb3
          go_wp2
          exact do_ret (a1 := 0) HG.out.bel HB2.out HB3.out (HG.out.out.base (by have := HBW.out; omega)) (HOK.out.more (by omega)) rfl rfl rfl
        · have hnz : (tgt == -1) = false := by simpa using hneg
          have HTO : Hid (0 ≤ tgt ∧ tgt < g.nodes.length) := Lib.hid (by omega)
          clear hneg
          go_wp2_with fail
          clear bx0 bx1 cq
          refine (free_any _ B rb _ _ _ g HG.out.ins HOK.out.ul).mono ?_
          rintro e wf ⟨rr, rfl, hrr, hbf⟩
          have HGF := Lib.hid (HG.out.keep hbf)
          clear hbf HG g0 g1 g2 o0 o1 o2 o3 p0 p1 p2 s0 s1 s2 s3 s4
          have HG := HGF
          clear HGF
          obtain ⟨V, hV⟩ : ∃ V : World, V = wf := ⟨_, rfl⟩
          subst hV
          obtain ⟨g0, g1, g2, o0, o1, o2, o3, p0, p1, p2⟩ := HG.out.cells
          obtain ⟨s0, s1, s2, s3, s4⟩ := HG.out.sizes
          by_cases hr0 : rr = 0
          · subst hr0
            go_wp2_with fail
            refine (fail_any _ _ _ _ ⟨_, _, _, rfl⟩ ⟨_, _, _, rfl⟩ ⟨_, _, _, rfl⟩ 15).mono ?_
            rintro e wf ⟨rfl, hbf⟩
            have HF := Lib.hid (HG.out.keep hbf)
            clear hbf g0 g1 g2 o0 o1 o2 o3 p0 p1 p2 s0 s1 s2 s3 s4
            obtain ⟨g0, g1, g2, o0, o1, o2, o3, p0, p1, p2⟩ := HF.out.cells
            obtain ⟨s0, s1, s2, s3, s4⟩ := HF.out.sizes
            obtain ⟨z0, z1, z2, hbb2⟩ := HF.out.b2
            obtain ⟨y0, y1, hbb3⟩ := HF.out.b3
            have c0 : wf.cell? ⟨w.heap.size + 1 + 1, 0, none⟩ = some z0 := by rw [cell_block hbb2]; rfl
            have c1 : wf.cell? ⟨w.heap.size + 1 + 1, 1, none⟩ = some z1 := by rw [cell_block hbb2]; rfl
            have c2 : wf.cell? ⟨w.heap.size + 1 + 1, 2, none⟩ = some z2 := by rw [cell_block hbb2]; rfl
            have f0 : wf.frozen? ⟨w.heap.size + 1 + 1, 0, none⟩ = false := frozen_block hbb2
            have f1 : wf.frozen? ⟨w.heap.size + 1 + 1, 1, none⟩ = false := frozen_block hbb2
            have f2 : wf.frozen? ⟨w.heap.size + 1 + 1, 2, none⟩ = false := frozen_block hbb2
            have c3 : wf.cell? ⟨w.heap.size + 1 + 1 + 1, 0, none⟩ = some y0 := by rw [cell_block hbb3]; rfl
            have c4 : wf.cell? ⟨w.heap.size + 1 + 1 + 1, 1, none⟩ = some y1 := by rw [cell_block hbb3]; rfl
            have f3 : wf.frozen? ⟨w.heap.size + 1 + 1 + 1, 0, none⟩ = false := frozen_block hbb3
            have f4 : wf.frozen? ⟨w.heap.size + 1 + 1 + 1, 1, none⟩ = false := frozen_block hbb3
            have HB2 := Lib.hid hbb2
            have HB3 := Lib.hid hbb3
            clear hbb2 hbb3
            go_wp2
            exact do_ret (a1 := 15) HF.out.bel HB2.out HB3.out HF.out.ins (HOK.out.more (by omega)) rfl rfl rfl
          · have hrz : ((rr : Int) == 0) = false := by rw [beq_eq_false_iff_ne]; omega
            obtain ⟨kk, hkk⟩ : ∃ kk : Nat, rr = kk + 1 := ⟨rr - 1, by omega⟩
            have HW : Hid ((rr : Int) - 1 = (kk : Int)) := Lib.hid (by omega)
            have HWW : Hid (IntKind.i64.wrap (kk : Int) = (kk : Int)) := Lib.hid (IntWalk.i64_in _ (by omega))
            have hk32 : kk < 32 := by omega
            have hki0 : (0 : Int) ≤ kk := Int.natCast_nonneg _
            have hki1 : (kk : Int) < 32 := by omega
            clear hkk hr0
            go_wp2_with fail
            clear g0 g1 g2 o0 o1 o2 o3 p0 p1 p2
            refine wp_region_facts2 (by kernel_rfl) (fun L => DrG w (.slice (some ⟨nq, 0, none⟩) g.nodes.length nc) (.slice ua 32 uc) (.slice (some ⟨rb, 0, none⟩) 32 rc) (.slice na1 g.nodes.length nc1) (.slice (some ⟨ub1, 0, none⟩) 32 uc1) (.slice (some ⟨rb1, 0, none⟩) 32 rc1) 2 x y z p B rb rb1 g (upG g kk true tgt (L 10) (L 12))) (fun _ _ _ => True) (DeF (fun i => match i with | 0 => (.pointer (some ⟨p, 1, none⟩)) | 1 => (.slice (some ⟨ub1, 0, none⟩) 32 uc1) | 2 => (.int .i64 rr) | 3 => (.int .i64 kk) | 4 => (.pointer (some ⟨p, 2, none⟩)) | 5 => (.slice (some ⟨rb1, 0, none⟩) 32 rc1) | 6 => (.int .i64 rr) | 7 => (.int .i64 kk) | 8 => (.int .i64 tgt) | 9 => (.pointer (some ⟨ub1, kk, none⟩)) | 11 => (.pointer (some ⟨rb1, kk, none⟩)) | _ => undef)) DeLoc (by kernel_rfl) (by kernel_rfl) (by kernel_rfl) (DeF.loc _) (fun i j a W W' _ _ _ h => DeF.stab _ j a W W' h) ?_ ?_ ?_
            · exact HG.out.keep ((Below.refl _ _).drew)
            · skip
              refine RSteps2.cons (RStep2.mk rfl rfl fun t V hsz hout L hun hdn hG hdep K hK => ?_) ?_
              · have HS : Hid (309 < t.size) := Lib.hid (by rw [show t.size = 324 from hsz]; decide)
                have HX : Hid (DrG w (.slice (some ⟨nq, 0, none⟩) g.nodes.length nc) (.slice ua 32 uc) (.slice (some ⟨rb, 0, none⟩) 32 rc) (.slice na1 g.nodes.length nc1) (.slice (some ⟨ub1, 0, none⟩) 32 uc1) (.slice (some ⟨rb1, 0, none⟩) 32 rc1) 2 x y z p B rb rb1 g (upG g kk true tgt (upd L 0 10) (upd L 0 12)) V) := Lib.hid (by rw [upd_ne (by decide), upd_ne (by decide)]; exact hG)
                obtain ⟨g0, g1, g2, o0, o1, o2, o3, p0, p1, p2⟩ := hG.cells
                obtain ⟨s0, s1, s2, s3, s4⟩ := hG.sizes
                have t6 : t[6]? = some (.pointer (some ⟨p, 0, none⟩)) := hout 6 (by kernel_rfl)
                clear hout hdep hun hdn hsz
                go_simp
                exact hK.out (.pointer (some ⟨p, 1, none⟩)) _ HX.out trivial (put_here HS.out)
              refine RSteps2.cons (RStep2.mk rfl rfl fun t V hsz hout L hun hdn hG hdep K hK => ?_) ?_
              · have HS : Hid (310 < t.size) := Lib.hid (by rw [show t.size = 324 from hsz]; decide)
                have HX : Hid (DrG w (.slice (some ⟨nq, 0, none⟩) g.nodes.length nc) (.slice ua 32 uc) (.slice (some ⟨rb, 0, none⟩) 32 rc) (.slice na1 g.nodes.length nc1) (.slice (some ⟨ub1, 0, none⟩) 32 uc1) (.slice (some ⟨rb1, 0, none⟩) 32 rc1) 2 x y z p B rb rb1 g (upG g kk true tgt (upd L 1 10) (upd L 1 12)) V) := Lib.hid (by rw [upd_ne (by decide), upd_ne (by decide)]; exact hG)
                obtain ⟨g0, g1, g2, o0, o1, o2, o3, p0, p1, p2⟩ := hG.cells
                obtain ⟨s0, s1, s2, s3, s4⟩ := hG.sizes
                have t309 : t[309]? = some (.pointer (some ⟨p, 1, none⟩)) := hdep 0 (by kernel_rfl)
                clear hout hdep hun hdn hsz
                go_simp
                exact hK.out (.slice (some ⟨ub1, 0, none⟩) 32 uc1) _ HX.out trivial (put_here HS.out)
              refine RSteps2.cons (RStep2.mk rfl rfl fun t V hsz hout L hun hdn hG hdep K hK => ?_) ?_
              · have HS : Hid (311 < t.size) := Lib.hid (by rw [show t.size = 324 from hsz]; decide)
                have HX : Hid (DrG w (.slice (some ⟨nq, 0, none⟩) g.nodes.length nc) (.slice ua 32 uc) (.slice (some ⟨rb, 0, none⟩) 32 rc) (.slice na1 g.nodes.length nc1) (.slice (some ⟨ub1, 0, none⟩) 32 uc1) (.slice (some ⟨rb1, 0, none⟩) 32 rc1) 2 x y z p B rb rb1 g (upG g kk true tgt (upd L 2 10) (upd L 2 12)) V) := Lib.hid (by rw [upd_ne (by decide), upd_ne (by decide)]; exact hG)
                obtain ⟨g0, g1, g2, o0, o1, o2, o3, p0, p1, p2⟩ := hG.cells
                obtain ⟨s0, s1, s2, s3, s4⟩ := hG.sizes
                have t17 : t[17]? = some (.int .i64 rr) := hout 17 (by kernel_rfl)
                clear hout hdep hun hdn hsz
                go_simp
                exact hK.out (.int .i64 rr) _ HX.out trivial (put_here HS.out)
              refine RSteps2.cons (RStep2.mk rfl rfl fun t V hsz hout L hun hdn hG hdep K hK => ?_) ?_
              · have HS : Hid (312 < t.size) := Lib.hid (by rw [show t.size = 324 from hsz]; decide)
                have HX : Hid (DrG w (.slice (some ⟨nq, 0, none⟩) g.nodes.length nc) (.slice ua 32 uc) (.slice (some ⟨rb, 0, none⟩) 32 rc) (.slice na1 g.nodes.length nc1) (.slice (some ⟨ub1, 0, none⟩) 32 uc1) (.slice (some ⟨rb1, 0, none⟩) 32 rc1) 2 x y z p B rb rb1 g (upG g kk true tgt (upd L 3 10) (upd L 3 12)) V) := Lib.hid (by rw [upd_ne (by decide), upd_ne (by decide)]; exact hG)
                obtain ⟨g0, g1, g2, o0, o1, o2, o3, p0, p1, p2⟩ := hG.cells
                obtain ⟨s0, s1, s2, s3, s4⟩ := hG.sizes
                have t311 : t[311]? = some (.int .i64 rr) := hdep 2 (by kernel_rfl)
                have hw := HW.out
                have hww := HWW.out
                clear hout hdep hun hdn hsz
                go_simp
                exact hK.out (.int .i64 kk) _ HX.out trivial (put_here HS.out)
              refine RSteps2.cons (RStep2.mk rfl rfl fun t V hsz hout L hun hdn hG hdep K hK => ?_) ?_
              · have HS : Hid (313 < t.size) := Lib.hid (by rw [show t.size = 324 from hsz]; decide)
                have HX : Hid (DrG w (.slice (some ⟨nq, 0, none⟩) g.nodes.length nc) (.slice ua 32 uc) (.slice (some ⟨rb, 0, none⟩) 32 rc) (.slice na1 g.nodes.length nc1) (.slice (some ⟨ub1, 0, none⟩) 32 uc1) (.slice (some ⟨rb1, 0, none⟩) 32 rc1) 2 x y z p B rb rb1 g (upG g kk true tgt (upd L 4 10) (upd L 4 12)) V) := Lib.hid (by rw [upd_ne (by decide), upd_ne (by decide)]; exact hG)
                obtain ⟨g0, g1, g2, o0, o1, o2, o3, p0, p1, p2⟩ := hG.cells
                obtain ⟨s0, s1, s2, s3, s4⟩ := hG.sizes
                have t6 : t[6]? = some (.pointer (some ⟨p, 0, none⟩)) := hout 6 (by kernel_rfl)
                clear hout hdep hun hdn hsz
                go_simp
                exact hK.out (.pointer (some ⟨p, 2, none⟩)) _ HX.out trivial (put_here HS.out)
              refine RSteps2.cons (RStep2.mk rfl rfl fun t V hsz hout L hun hdn hG hdep K hK => ?_) ?_
              · have HS : Hid (314 < t.size) := Lib.hid (by rw [show t.size = 324 from hsz]; decide)
                have HX : Hid (DrG w (.slice (some ⟨nq, 0, none⟩) g.nodes.length nc) (.slice ua 32 uc) (.slice (some ⟨rb, 0, none⟩) 32 rc) (.slice na1 g.nodes.length nc1) (.slice (some ⟨ub1, 0, none⟩) 32 uc1) (.slice (some ⟨rb1, 0, none⟩) 32 rc1) 2 x y z p B rb rb1 g (upG g kk true tgt (upd L 5 10) (upd L 5 12)) V) := Lib.hid (by rw [upd_ne (by decide), upd_ne (by decide)]; exact hG)
                obtain ⟨g0, g1, g2, o0, o1, o2, o3, p0, p1, p2⟩ := hG.cells
                obtain ⟨s0, s1, s2, s3, s4⟩ := hG.sizes
                have t313 : t[313]? = some (.pointer (some ⟨p, 2, none⟩)) := hdep 4 (by kernel_rfl)
                clear hout hdep hun hdn hsz
                go_simp
                exact hK.out (.slice (some ⟨rb1, 0, none⟩) 32 rc1) _ HX.out trivial (put_here HS.out)
              refine RSteps2.cons (RStep2.mk rfl rfl fun t V hsz hout L hun hdn hG hdep K hK => ?_) ?_
              · have HS : Hid (315 < t.size) := Lib.hid (by rw [show t.size = 324 from hsz]; decide)
                have HX : Hid (DrG w (.slice (some ⟨nq, 0, none⟩) g.nodes.length nc) (.slice ua 32 uc) (.slice (some ⟨rb, 0, none⟩) 32 rc) (.slice na1 g.nodes.length nc1) (.slice (some ⟨ub1, 0, none⟩) 32 uc1) (.slice (some ⟨rb1, 0, none⟩) 32 rc1) 2 x y z p B rb rb1 g (upG g kk true tgt (upd L 6 10) (upd L 6 12)) V) := Lib.hid (by rw [upd_ne (by decide), upd_ne (by decide)]; exact hG)
                obtain ⟨g0, g1, g2, o0, o1, o2, o3, p0, p1, p2⟩ := hG.cells
                obtain ⟨s0, s1, s2, s3, s4⟩ := hG.sizes
                have t17 : t[17]? = some (.int .i64 rr) := hout 17 (by kernel_rfl)
                clear hout hdep hun hdn hsz
                go_simp
                exact hK.out (.int .i64 rr) _ HX.out trivial (put_here HS.out)
              refine RSteps2.cons (RStep2.mk rfl rfl fun t V hsz hout L hun hdn hG hdep K hK => ?_) ?_
              · have HS : Hid (316 < t.size) := Lib.hid (by rw [show t.size = 324 from hsz]; decide)
                have HX : Hid (DrG w (.slice (some ⟨nq, 0, none⟩) g.nodes.length nc) (.slice ua 32 uc) (.slice (some ⟨rb, 0, none⟩) 32 rc) (.slice na1 g.nodes.length nc1) (.slice (some ⟨ub1, 0, none⟩) 32 uc1) (.slice (some ⟨rb1, 0, none⟩) 32 rc1) 2 x y z p B rb rb1 g (upG g kk true tgt (upd L 7 10) (upd L 7 12)) V) := Lib.hid (by rw [upd_ne (by decide), upd_ne (by decide)]; exact hG)
                obtain ⟨g0, g1, g2, o0, o1, o2, o3, p0, p1, p2⟩ := hG.cells
                obtain ⟨s0, s1, s2, s3, s4⟩ := hG.sizes
                have t315 : t[315]? = some (.int .i64 rr) := hdep 6 (by kernel_rfl)
                have hw := HW.out
                have hww := HWW.out
                clear hout hdep hun hdn hsz
                go_simp
                exact hK.out (.int .i64 kk) _ HX.out trivial (put_here HS.out)
              refine RSteps2.cons (RStep2.mk rfl rfl fun t V hsz hout L hun hdn hG hdep K hK => ?_) ?_
              · have HS : Hid (317 < t.size) := Lib.hid (by rw [show t.size = 324 from hsz]; decide)
                have HX : Hid (DrG w (.slice (some ⟨nq, 0, none⟩) g.nodes.length nc) (.slice ua 32 uc) (.slice (some ⟨rb, 0, none⟩) 32 rc) (.slice na1 g.nodes.length nc1) (.slice (some ⟨ub1, 0, none⟩) 32 uc1) (.slice (some ⟨rb1, 0, none⟩) 32 rc1) 2 x y z p B rb rb1 g (upG g kk true tgt (upd L 8 10) (upd L 8 12)) V) := Lib.hid (by rw [upd_ne (by decide), upd_ne (by decide)]; exact hG)
                obtain ⟨g0, g1, g2, o0, o1, o2, o3, p0, p1, p2⟩ := hG.cells
                obtain ⟨s0, s1, s2, s3, s4⟩ := hG.sizes
                have t16 : t[16]? = some (.int .i64 tgt) := hout 16 (by kernel_rfl)
                clear hout hdep hun hdn hsz
                go_simp
                exact hK.out (.int .i64 tgt) _ HX.out trivial (put_here HS.out)
              refine RSteps2.cons (RStep2.mk rfl rfl fun t V hsz hout L hun hdn hG hdep K hK => ?_) ?_
              · have HS : Hid (318 < t.size) := Lib.hid (by rw [show t.size = 324 from hsz]; decide)
                have HX : Hid (DrG w (.slice (some ⟨nq, 0, none⟩) g.nodes.length nc) (.slice ua 32 uc) (.slice (some ⟨rb, 0, none⟩) 32 rc) (.slice na1 g.nodes.length nc1) (.slice (some ⟨ub1, 0, none⟩) 32 uc1) (.slice (some ⟨rb1, 0, none⟩) 32 rc1) 2 x y z p B rb rb1 g (upG g kk true tgt (upd L 9 10) (upd L 9 12)) V) := Lib.hid (by rw [upd_ne (by decide), upd_ne (by decide)]; exact hG)
                obtain ⟨g0, g1, g2, o0, o1, o2, o3, p0, p1, p2⟩ := hG.cells
                obtain ⟨s0, s1, s2, s3, s4⟩ := hG.sizes
                have t310 : t[310]? = some (.slice (some ⟨ub1, 0, none⟩) 32 uc1) := hdep 1 (by kernel_rfl)
                have t312 : t[312]? = some (.int .i64 kk) := hdep 3 (by kernel_rfl)
                clear hout hdep hun hdn hsz
                go_simp
                exact hK.out (.pointer (some ⟨ub1, kk, none⟩)) _ HX.out trivial (put_here HS.out)
              refine RSteps2.cons (RStep2.mk rfl rfl fun t V hsz hout L hun hdn hG hdep K hK => ?_) ?_
              · skip
                have t318 : t[318]? = some (.pointer (some ⟨ub1, kk, none⟩)) := hdep 9 (by kernel_rfl)
                have hG1 : DrG w (.slice (some ⟨nq, 0, none⟩) g.nodes.length nc) (.slice ua 32 uc) (.slice (some ⟨rb, 0, none⟩) 32 rc) (.slice na1 g.nodes.length nc1) (.slice (some ⟨ub1, 0, none⟩) 32 uc1) (.slice (some ⟨rb1, 0, none⟩) 32 rc1) 2 x y z p B rb rb1 g (upG g kk true tgt (L 10) (L 12)) V := hG
                rw [show L 10 = false from hun] at hG1
                have hkl : kk < (upG g kk true tgt false (L 12)).used.length := by have := HOK.out.ul; simp [upG]; omega
                obtain ⟨_, hlt, hc, hf, _⟩ := hG1.out.used.set1 kk hkl
                obtain ⟨qv, hc'⟩ : ∃ qv, V.cell? ⟨ub1, kk, none⟩ = some (.bool qv) := ⟨_, hc⟩
                have HX : Hid (DrG w (.slice (some ⟨nq, 0, none⟩) g.nodes.length nc) (.slice ua 32 uc) (.slice (some ⟨rb, 0, none⟩) 32 rc) (.slice na1 g.nodes.length nc1) (.slice (some ⟨ub1, 0, none⟩) 32 uc1) (.slice (some ⟨rb1, 0, none⟩) 32 rc1) 2 x y z p B rb rb1 g (upG g kk true tgt (upd L 10 10) (upd L 10 12)) _) := Lib.hid (by rw [show upd L 10 10 = true by simp [upd], upd_ne (by decide)]; exact hG1.setU HGM.out hkl true)
                clear hkl hc hG1 hG hout hdep hun hdn hsz
                go_simp
                exact hK.out undef _ HX.out trivial trivial
              refine RSteps2.cons (RStep2.mk rfl rfl fun t V hsz hout L hun hdn hG hdep K hK => ?_) ?_
              · have HS : Hid (319 < t.size) := Lib.hid (by rw [show t.size = 324 from hsz]; decide)
                have HX : Hid (DrG w (.slice (some ⟨nq, 0, none⟩) g.nodes.length nc) (.slice ua 32 uc) (.slice (some ⟨rb, 0, none⟩) 32 rc) (.slice na1 g.nodes.length nc1) (.slice (some ⟨ub1, 0, none⟩) 32 uc1) (.slice (some ⟨rb1, 0, none⟩) 32 rc1) 2 x y z p B rb rb1 g (upG g kk true tgt (upd L 11 10) (upd L 11 12)) V) := Lib.hid (by rw [upd_ne (by decide), upd_ne (by decide)]; exact hG)
                obtain ⟨g0, g1, g2, o0, o1, o2, o3, p0, p1, p2⟩ := hG.cells
                obtain ⟨s0, s1, s2, s3, s4⟩ := hG.sizes
                have t314 : t[314]? = some (.slice (some ⟨rb1, 0, none⟩) 32 rc1) := hdep 5 (by kernel_rfl)
                have t316 : t[316]? = some (.int .i64 kk) := hdep 7 (by kernel_rfl)
                clear hout hdep hun hdn hsz
                go_simp
                exact hK.out (.pointer (some ⟨rb1, kk, none⟩)) _ HX.out trivial (put_here HS.out)
              refine RSteps2.cons (RStep2.mk rfl rfl fun t V hsz hout L hun hdn hG hdep K hK => ?_) ?_
              · skip
                have t319 : t[319]? = some (.pointer (some ⟨rb1, kk, none⟩)) := hdep 11 (by kernel_rfl)
                have t317 : t[317]? = some (.int .i64 tgt) := hdep 8 (by kernel_rfl)
                have hG1 : DrG w (.slice (some ⟨nq, 0, none⟩) g.nodes.length nc) (.slice ua 32 uc) (.slice (some ⟨rb, 0, none⟩) 32 rc) (.slice na1 g.nodes.length nc1) (.slice (some ⟨ub1, 0, none⟩) 32 uc1) (.slice (some ⟨rb1, 0, none⟩) 32 rc1) 2 x y z p B rb rb1 g (upG g kk true tgt (L 10) (L 12)) V := hG
                rw [show L 12 = false from hun] at hG1
                have hkl : kk < (upG g kk true tgt (L 10) false).roots.length := by have := HOK.out.rl; simp [upG]; omega
                obtain ⟨_, hlt, hc, hf, _⟩ := hG1.out.roots.set1 kk hkl
                obtain ⟨qv, hc'⟩ : ∃ qv, V.cell? ⟨rb1, kk, none⟩ = some (.int .i64 qv) := ⟨_, hc⟩
                have HX : Hid (DrG w (.slice (some ⟨nq, 0, none⟩) g.nodes.length nc) (.slice ua 32 uc) (.slice (some ⟨rb, 0, none⟩) 32 rc) (.slice na1 g.nodes.length nc1) (.slice (some ⟨ub1, 0, none⟩) 32 uc1) (.slice (some ⟨rb1, 0, none⟩) 32 rc1) 2 x y z p B rb rb1 g (upG g kk true tgt (upd L 12 10) (upd L 12 12)) _) := Lib.hid (by rw [show upd L 12 12 = true by simp [upd], upd_ne (by decide)]; exact hG1.setR HGM.out hkl tgt)
                clear hkl hc hG1 hG hout hdep hun hdn hsz
                go_simp
                exact hK.out undef _ HX.out trivial trivial
              exact RSteps2.nil (by decide)
            · intro a' V hR
              have hG : DrG w (.slice (some ⟨nq, 0, none⟩) g.nodes.length nc) (.slice ua 32 uc) (.slice (some ⟨rb, 0, none⟩) 32 rc) (.slice na1 g.nodes.length nc1) (.slice (some ⟨ub1, 0, none⟩) 32 uc1) (.slice (some ⟨rb1, 0, none⟩) 32 rc1) 2 x y z p B rb rb1 g (upG g kk true tgt true true) V := hR.g
              obtain ⟨f, rfl, hf⟩ := hR.frameS rfl [309, 310, 311, 312, 313, 314, 315, 316, 317, 318, 319] (by intro k hk; simp at hk; simp [writes]; omega)
              clear hR hf
              simp only [setAll, List.map_cons, List.map_nil, List.set_cons_succ, List.set_cons_zero]
              generalize f 309 = v309
              generalize f 310 = v310
              generalize f 311 = v311
              generalize f 312 = v312
              generalize f 313 = v313
              generalize f 314 = v314
              generalize f 315 = v315
              generalize f 316 = v316
              generalize f 317 = v317
              generalize f 318 = v318
              generalize f 319 = v319
              clear f
              have HG2 := Lib.hid hG
              clear hG
              obtain ⟨g0, g1, g2, o0, o1, o2, o3, p0, p1, p2⟩ := HG2.out.cells
              obtain ⟨s0, s1, s2, s3, s4⟩ := HG2.out.sizes
              obtain ⟨z0, z1, z2, hbb2⟩ := HG2.out.b2
              obtain ⟨y0, y1, hbb3⟩ := HG2.out.b3
              have c0 : V.cell? ⟨w.heap.size + 1 + 1, 0, none⟩ = some z0 := by rw [cell_block hbb2]; rfl
              have c1 : V.cell? ⟨w.heap.size + 1 + 1, 1, none⟩ = some z1 := by rw [cell_block hbb2]; rfl
              have c2 : V.cell? ⟨w.heap.size + 1 + 1, 2, none⟩ = some z2 := by rw [cell_block hbb2]; rfl
              have f0 : V.frozen? ⟨w.heap.size + 1 + 1, 0, none⟩ = false := frozen_block hbb2
              have f1 : V.frozen? ⟨w.heap.size + 1 + 1, 1, none⟩ = false := frozen_block hbb2
              have f2 : V.frozen? ⟨w.heap.size + 1 + 1, 2, none⟩ = false := frozen_block hbb2
              have c3 : V.cell? ⟨w.heap.size + 1 + 1 + 1, 0, none⟩ = some y0 := by rw [cell_block hbb3]; rfl
              have c4 : V.cell? ⟨w.heap.size + 1 + 1 + 1, 1, none⟩ = some y1 := by rw [cell_block hbb3]; rfl
              have f3 : V.frozen? ⟨w.heap.size + 1 + 1 + 1, 0, none⟩ = false := frozen_block hbb3
              have f4 : V.frozen? ⟨w.heap.size + 1 + 1 + 1, 1, none⟩ = false := frozen_block hbb3
              have HB2 := Lib.hid hbb2
              have HB3 := Lib.hid hbb3
              clear hbb2 hbb3
              go_wp2
              exact do_ret (a1 := 0) HG2.out.bel HB2.out HB3.out (HG2.out.out.base (by have := HBW.out; omega)) ((upG_ok HOK.out (fun _ => HTO.out) (by omega)).more (by omega)) rfl rfl rfl
  · have hrb2 : (r2 != 0) = true := by simpa using hr2
    have hrc2 : (r2 == 0) = false := by simpa using hr2
    clear hr2
    have hs6 := ST2.out.s6
    have hs3 := ST2.out.s3
    have hhp := ST2.out.hp
    have hs0 : w.heap.size < w2.heap.size := (by omega)
    have hs01 : w.heap.size + 1 < w2.heap.size := (by omega)
    have hs02 : w.heap.size + 1 + 1 < w2.heap.size := (by omega)
    have g0c := ST2.out.g0
    have g1c := ST2.out.g1
    have g2c := ST2.out.g2
    have o0c := ST2.out.o0
    have o1c := ST2.out.o1
    have o2c := ST2.out.o2
    have o3c := ST2.out.o3
    go_wp2_with fail
    refine (fail_any _ _ _ _ ⟨_, _, _, rfl⟩ ⟨_, _, _, rfl⟩ ⟨_, _, _, rfl⟩ r2).mono ?_
    rintro e wf ⟨rfl, hbf⟩
    have STF := Lib.hid (ST2.out.keep hbf)
    clear hbf hs6 hs3 hs0 hs01 hs02 g0c g1c g2c o0c o1c o2c o3c
    have hs6 := STF.out.s6
    have hs3 := STF.out.s3
    have hhp := STF.out.hp
    have hs0 : w.heap.size < wf.heap.size := (by omega)
    have hs01 : w.heap.size + 1 < wf.heap.size := (by omega)
    have hs02 : w.heap.size + 1 + 1 < wf.heap.size := (by omega)
    obtain ⟨r0c, fr0⟩ := STF.out.r0
    obtain ⟨r1c, fr1⟩ := STF.out.r1
    obtain ⟨r2c, fr2⟩ := STF.out.r2
    obtain ⟨q0c, fq0⟩ := STF.out.q0
    obtain ⟨q1c, fq1⟩ := STF.out.q1
    go_wp2
    exact do_ret (a1 := r2) (a2 := 0) STF.out.bel STF.out.b2 STF.out.b3 (HGM.out.below STF.out.bel) (HOK.out.more (by omega)) rfl rfl rfl
end Go.Proofs.Ytadoehlhfccacaa
