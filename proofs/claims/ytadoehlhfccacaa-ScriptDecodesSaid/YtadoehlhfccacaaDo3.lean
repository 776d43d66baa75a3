/- The reference model's Do: the operations of code 3: it returns a valid graph of one node more at most. Condition: a valid graph of at most 900 nodes in memory, operands from 0 to 255. -/
import Derived.Test.YtadoehlhfccacaaReg6
import Derived.Test.YtadoehlhfccacaaDoN
namespace Go.Proofs.Ytadoehlhfccacaa
open Go.RowKit
set_option linter.unusedVariables false

def DhF (vs : Nat → Value) : Nat → Act → World → Prop
  | 0, a, _ => a.tmps[273]? = some (vs 0)
  | 1, a, _ => a.tmps[274]? = some (vs 1)
  | 2, a, _ => a.tmps[275]? = some (vs 2)
  | 3, a, _ => a.tmps[276]? = some (vs 3)
  | 4, a, _ => a.tmps[277]? = some (vs 4)
  | 5, a, _ => a.tmps[278]? = some (vs 5)
  | 6, a, _ => a.tmps[279]? = some (vs 6)
  | 7, a, _ => a.tmps[280]? = some (vs 7)
  | 8, a, _ => a.tmps[281]? = some (vs 8)
  | 9, a, _ => a.tmps[282]? = some (vs 9)
  | 10, a, _ => a.tmps[283]? = some (vs 10)
  | 11, a, _ => a.tmps[284]? = some (vs 11)
  | 12, a, _ => a.tmps[285]? = some (vs 12)
  | 13, a, _ => a.tmps[286]? = some (vs 13)
  | 14, a, _ => a.tmps[287]? = some (vs 14)
  | 15, a, _ => a.tmps[288]? = some (vs 15)
  | _, _, _ => True
def DhLoc : Nat → List Nat | 0 => [273] | 1 => [274] | 2 => [275] | 3 => [276] | 4 => [277] | 5 => [278] | 6 => [279] | 7 => [280] | 8 => [281] | 9 => [282] | 10 => [283] | 11 => [284] | 12 => [285] | 13 => [286] | 14 => [287] | 15 => [288] | _ => []
theorem DhF.loc (vs : Nat → Value) : ∀ j a d v w, d ∉ DhLoc j → DhF vs j a w → DhF vs j (a.put (some d) v) w := by
  intro j a d v w hd h
  match j with
  | 0 | 1 | 2 | 3 | 4 | 5 | 6 | 7 | 8 | 9 | 10 | 11 | 12 | 13 | 14 | 15 =>
    simp only [DhLoc, List.mem_singleton] at hd
    simp only [DhF] at h ⊢
    rw [put_same hd]
    exact h
  | _ + 16 => trivial
theorem DhF.stab (vs : Nat → Value) : ∀ j a W W', DhF vs j a W → DhF vs j a W' := by
  intro j a W W' h
  match j with
  | 0 | 1 | 2 | 3 | 4 | 5 | 6 | 7 | 8 | 9 | 10 | 11 | 12 | 13 | 14 | 15 => exact h
  | _ + 16 => trivial

set_option maxRecDepth 100000 in
set_option maxHeartbeats 8000000 in
theorem do_c3 (w : World) (B rb : Nat) (hB : B ≤ w.heap.size) (nv uv rv : Value) (g : Gr) (hg : GrM w B rb nv uv rv g) (n : Nat) (hok : GrOk n g) (hn : n ≤ 900) (x y z : Int) (hx : 0 ≤ x ∧ x ≤ 255) (hy : 0 ≤ y ∧ y ≤ 255) (hz : 0 ≤ z ∧ z ≤ 255) :
    Calls Try.prog 22 #[.agg #[nv, uv, rv], .agg #[.int .i64 3, .int .i64 x, .int .i64 y, .int .i64 z]] w (DoPost w B n) := by
  have HOK := Lib.hid hok
  have HBW := Lib.hid hB
  obtain ⟨na, nc, ua, uc, rc, rfl, rfl, rfl⟩ := hg.forms
  rw [hok.ul, hok.rl] at hg ⊢
  have HGM := Lib.hid hg
  have hnl : g.nodes.length ≤ 900 := Nat.le_trans hok.nl hn
  obtain ⟨hx0, hx1⟩ := hx
  obtain ⟨hy0, hy1⟩ := hy
  obtain ⟨hz0, hz1⟩ := hz
  clear hg hok
  go_enter Try.func22, Try.ntmps22
  go_wp2_with fail
  refine (gcopy_any _ B rb _ _ _ g (HGM.out.below (by repeat (first | exact Below.refl _ _ | refine Below.alloc ?_ (by first | exact Nat.le_refl _ | (simp; done) | (simp; omega)) _))) n HOK.out (by omega)).mono ?_
  rintro e w1 ⟨rb1, nv1, uv1, rv1, rfl, hm1, hb1⟩
  have hul := HOK.out.ul
  have hrl := HOK.out.rl
  obtain ⟨na1, nc1, ua1, uc1, rc1, rfl, rfl, rfl⟩ := hm1.forms
  rw [hul, hrl] at hm1
  rw [hul, hrl]
  clear hul hrl
  have st0 : DoSt w (.slice na g.nodes.length nc) (.slice ua 32 uc) (.slice (some ⟨rb, 0, none⟩) 32 rc) (.slice na1 g.nodes.length nc1) (.slice ua1 32 uc1) (.slice (some ⟨rb1, 0, none⟩) 32 rc1) 3 x y z w1.heap.size (w1.alloc (.cells #[.slice na1 g.nodes.length nc1, .slice ua1 32 uc1, .slice (some ⟨rb1, 0, none⟩) 32 rc1] 45)) := by
    have hb0 : Below w.heap.size w w1 := by
      refine Below.trans ?_ (hb1.mono (by simp; omega))
      exact (by repeat (first | exact Below.refl _ _ | refine Below.alloc ?_ (by first | exact Nat.le_refl _ | (simp; done) | (simp; omega)) _))
    have h4 : ∀ {b o}, b < w.heap.size + 1 + 1 + 1 + 1 → ((((w.alloc (.cells #[.slice na g.nodes.length nc, .slice ua 32 uc, .slice (some ⟨rb, 0, none⟩) 32 rc] 45)).alloc (.cells #[.int .i64 3, .int .i64 x, .int .i64 y, .int .i64 z] 35)).alloc (.cells #[.slice none 0 0, .slice none 0 0, .slice none 0 0] 45)).alloc (.cells #[.int .i64 0, .int .u64 0] 53)).heap[b]? = some o → w1.heap[b]? = some o := fun hb e => below_block hb1 (by simpa using hb) e
    refine ⟨hb0.alloc hb0.size _, alloc_block (h4 (by omega) (alloc_block (alloc_block (alloc_block (heap_alloc_new _ _))))), alloc_block (h4 (by omega) (alloc_block (alloc_block (heap_alloc_at _ _ _ (by simp))))), alloc_block (h4 (by omega) (alloc_block (heap_alloc_at _ _ _ (by simp)))), alloc_block (h4 (by omega) (heap_alloc_at _ _ _ (by simp))), ?_, heap_alloc_new _ _⟩
    have := hb1.size
    simp at this
    exact this
  have hm1' : GrM (w1.alloc (.cells #[.slice na1 g.nodes.length nc1, .slice ua1 32 uc1, .slice (some ⟨rb1, 0, none⟩) 32 rc1] 45)) (w.heap.size + 1 + 1 + 1 + 1) rb1 (.slice na1 g.nodes.length nc1) (.slice ua1 32 uc1) (.slice (some ⟨rb1, 0, none⟩) 32 rc1) g := (hm1.base (by simp)).keep fun k hk => Below.heap_alloc _ _ _ hk
  have hs1 : w.heap.size + 1 + 1 + 1 + 1 ≤ w1.heap.size := st0.hp
  have MM := Lib.hid hm1'
  have ST := Lib.hid st0
  clear hm1 hm1' hb1 st0
  go_upto_region 2 with (fail)
  obtain ⟨W, hW⟩ : ∃ W : World, W = (w1.alloc (.cells #[.slice na1 g.nodes.length nc1, .slice ua1 32 uc1, .slice (some ⟨rb1, 0, none⟩) 32 rc1] 45)) := ⟨_, rfl⟩
  rw [← hW] at MM ST ⊢
  generalize w1.heap.size = p at *
  clear hW
  have hs6 := ST.out.s6
  have hs3 := ST.out.s3
  have hhp := ST.out.hp
  have hs0 : w.heap.size < W.heap.size := (by omega)
  have hs01 : w.heap.size + 1 < W.heap.size := (by omega)
  have hs02 : w.heap.size + 1 + 1 < W.heap.size := (by omega)
  have g0c := ST.out.g0
  have g1c := ST.out.g1
  have g2c := ST.out.g2
  have o0c := ST.out.o0
  have o1c := ST.out.o1
  have o2c := ST.out.o2
  have o3c := ST.out.o3
  go_wp2_with fail
  refine (handle_any _ B rb _ _ _ g (HGM.out.below ST.out.bel) HOK.out.ul x true (by omega) (by omega)).mono ?_
  rintro e w2 ⟨r2, rfl, hh2, hb2⟩
  have ST2 := Lib.hid (ST.out.keep hb2)
  have MM2 := Lib.hid (MM.out.below hb2)
  have HH2 := Lib.hid hh2
  clear hb2 hh2 hs6 hs3 hs0 hs01 hs02 g0c g1c g2c o0c o1c o2c o3c
  by_cases hr2 : r2 = 0
  · subst hr2
    have hs6 := ST2.out.s6
    have hs3 := ST2.out.s3
    have hhp := ST2.out.hp
    have hs0 : w.heap.size < w2.heap.size := (by omega)
    have hs01 : w.heap.size + 1 < w2.heap.size := (by omega)
    have hs02 : w.heap.size + 1 + 1 < w2.heap.size := (by omega)
    have g0c := ST2.out.g0
    have g1c := ST2.out.g1
    have g2c := ST2.out.g2
    have o0c := ST2.out.o0
    have o1c := ST2.out.o1
    have o2c := ST2.out.o2
    have o3c := ST2.out.o3
    obtain ⟨h, _⟩ | ⟨hx2, hx3, hus⟩ := HH2.out rfl
    · rename_i h2; cases h2
    obtain ⟨hri1, hri2⟩ := HOK.out.root _ hus
    clear hus
    have HRI : Hid (g.roots.getD (x - 1).toNat 0 = g.roots.getD (x - 1).toNat 0) := Lib.hid rfl
    obtain ⟨ri, hri⟩ := Int.eq_ofNat_of_zero_le hri1
    have HR := Lib.hid hri
    rw [hri] at hri2
    clear hri hri1 HRI
    have hrl : ri < g.nodes.length := by omega
    obtain ⟨nq, xa, xb, rfl, hq1, hq2, hqc0, hqc1, hxa, hxb⟩ := HGM.out.node_at hrl
    have HND := Lib.hid (HOK.out.node g.nodes[ri] (List.getElem_mem hrl))
    obtain ⟨ra, rac, rfl⟩ := own_form hxa
    obtain ⟨da, dac, rfl⟩ := own_form hxb
    generalize hnd : g.nodes[ri] = nd at *
    have HNE := Lib.hid hnd
    clear hnd
    generalize hml : nd.refs.length = ml at *
    generalize hdl : nd.data.length = dl at *
    have HML := Lib.hid hml
    have HDL := Lib.hid hdl
    clear hml hdl
    have HXA := Lib.hid hxa
    have HXB := Lib.hid hxb
    have HQ0 := Lib.hid hqc0
    have HQ1 := Lib.hid hqc1
    clear hxa hxb hqc0 hqc1
    go_wp2_with fail
    refine wp_region_facts2 (by kernel_rfl) (fun _ => DrG w (.slice (some ⟨nq, 0, none⟩) g.nodes.length nc) (.slice ua 32 uc) (.slice (some ⟨rb, 0, none⟩) 32 rc) (.slice na1 g.nodes.length nc1) (.slice ua1 32 uc1) (.slice (some ⟨rb1, 0, none⟩) 32 rc1) 3 x y z p B rb rb1 g g) DnE (DnF (w.heap.size + 1 + 1 + 1 + 1) nq ri w.heap.size x (.slice (some ⟨nq, 0, none⟩) g.nodes.length nc) (.slice na1 g.nodes.length nc1) (.agg #[.slice (some ⟨nq, 0, none⟩) g.nodes.length nc, .slice ua 32 uc, .slice (some ⟨rb, 0, none⟩) 32 rc]) (.slice ra ml rac) (.slice da dl dac)) dnLoc (by kernel_rfl) (by kernel_rfl) (by kernel_rfl) (DnF.loc _ _ _ _ _ _ _ _ _ _) (fun i j a W W' h _ => DnF.stab _ _ _ _ _ _ _ _ _ _ i j a W W' h) ?_ ?_ ?_
    · exact (DrG.of ST2.out (HGM.out.below ST2.out.bel) MM2.out).keep ((Below.refl _ _).drew)
    · skip
      refine RSteps2.cons (RStep2.mk rfl rfl fun t V hsz hout L hun hdn hG hdep K hK => ?_) ?_
      · have HS : Hid (163 < t.size) := Lib.hid (by rw [show t.size = 324 from hsz]; decide)
        obtain ⟨g0, g1, g2, o0, o1, o2, o3, p0, p1, p2⟩ := hG.cells
        obtain ⟨s0, s1, s2, s3, s4⟩ := hG.sizes
        have t2 : t[2]? = some (.pointer (some ⟨w.heap.size, 0, none⟩)) := hout 2 (by kernel_rfl)
        clear hout hdep hun hdn hsz
        go_simp
        exact hK.out _ _ hG ⟨Gn.of_gw (Nat.le_refl _) (Gw.refl _), fun _ => Gw.refl _⟩ (put_here HS.out)
      refine RSteps2.cons (RStep2.mk rfl rfl fun t V hsz hout L hun hdn hG hdep K hK => ?_) ?_
      · have HS : Hid (164 < t.size) := Lib.hid (by rw [show t.size = 324 from hsz]; decide)
        obtain ⟨g0, g1, g2, o0, o1, o2, o3, p0, p1, p2⟩ := hG.cells
        obtain ⟨s0, s1, s2, s3, s4⟩ := hG.sizes
        have t163 : t[163]? = some (.pointer (some ⟨w.heap.size, 0, none⟩)) := hdep 0 (by kernel_rfl)
        clear hout hdep hun hdn hsz
        go_simp
        exact hK.out _ _ hG ⟨Gn.of_gw (Nat.le_refl _) (Gw.refl _), fun _ => Gw.refl _⟩ (put_here HS.out)
      refine RSteps2.cons (RStep2.mk rfl rfl fun t V hsz hout L hun hdn hG hdep K hK => ?_) ?_
      · have HS : Hid (165 < t.size) := Lib.hid (by rw [show t.size = 324 from hsz]; decide)
        obtain ⟨g0, g1, g2, o0, o1, o2, o3, p0, p1, p2⟩ := hG.cells
        obtain ⟨s0, s1, s2, s3, s4⟩ := hG.sizes
        have t2 : t[2]? = some (.pointer (some ⟨w.heap.size, 0, none⟩)) := hout 2 (by kernel_rfl)
        clear hout hdep hun hdn hsz
        go_simp
        exact hK.out _ _ hG ⟨Gn.of_gw (Nat.le_refl _) (Gw.refl _), fun _ => Gw.refl _⟩ (put_here HS.out)
      refine RSteps2.cons (RStep2.mk rfl rfl fun t V hsz hout L hun hdn hG hdep K hK => ?_) ?_
      · have HS : Hid (166 < t.size) := Lib.hid (by rw [show t.size = 324 from hsz]; decide)
        obtain ⟨g0, g1, g2, o0, o1, o2, o3, p0, p1, p2⟩ := hG.cells
        obtain ⟨s0, s1, s2, s3, s4⟩ := hG.sizes
        have t3 : t[3]? = some (.pointer (some ⟨w.heap.size + 1, 0, none⟩)) := hout 3 (by kernel_rfl)
        clear hout hdep hun hdn hsz
        go_simp
        exact hK.out _ _ hG ⟨Gn.of_gw (Nat.le_refl _) (Gw.refl _), fun _ => Gw.refl _⟩ (put_here HS.out)
      refine RSteps2.cons (RStep2.mk rfl rfl fun t V hsz hout L hun hdn hG hdep K hK => ?_) ?_
      · have HS : Hid (167 < t.size) := Lib.hid (by rw [show t.size = 324 from hsz]; decide)
        obtain ⟨g0, g1, g2, o0, o1, o2, o3, p0, p1, p2⟩ := hG.cells
        obtain ⟨s0, s1, s2, s3, s4⟩ := hG.sizes
        have t166 : t[166]? = some (.pointer (some ⟨w.heap.size + 1, 1, none⟩)) := hdep 3 (by kernel_rfl)
        clear hout hdep hun hdn hsz
        go_simp
        exact hK.out _ _ hG ⟨Gn.of_gw (Nat.le_refl _) (Gw.refl _), fun _ => Gw.refl _⟩ (put_here HS.out)
      refine RSteps2.cons (RStep2.mk rfl rfl fun t V hsz hout L hun hdn hG hdep K hK => ?_) ?_
      · have HS : Hid (168 < t.size) := Lib.hid (by rw [show t.size = 324 from hsz]; decide)
        obtain ⟨g0, g1, g2, o0, o1, o2, o3, p0, p1, p2⟩ := hG.cells
        obtain ⟨s0, s1, s2, s3, s4⟩ := hG.sizes
        have t165 : t[165]? = some (.agg #[.slice (some ⟨nq, 0, none⟩) g.nodes.length nc, .slice ua 32 uc, .slice (some ⟨rb, 0, none⟩) 32 rc]) := hdep 2 (by kernel_rfl)
        have t167 : t[167]? = some (.int .i64 x) := hdep 4 (by kernel_rfl)
        clear hout hdep hun hdn hsz g0 g1 g2 o0 o1 o2 o3 p0 p1 p2
        go_simp
        refine (node_any _ B rb _ _ _ g hG.ins HOK.out.rl x ri (.inr ⟨hx2, hx3, HR.out⟩)).mono ?_
        rintro e w3 ⟨rfl, hb3⟩
        go_simp
        exact hK.out _ _ (hG.keep hb3) ⟨Gn.of_gw hb3.size hb3.block, fun _ => hb3.block⟩ (put_here HS.out)
      refine RSteps2.cons (RStep2.mk rfl rfl fun t V hsz hout L hun hdn hG hdep K hK => ?_) ?_
      · have HS : Hid (169 < t.size) := Lib.hid (by rw [show t.size = 324 from hsz]; decide)
        obtain ⟨g0, g1, g2, o0, o1, o2, o3, p0, p1, p2⟩ := hG.cells
        obtain ⟨s0, s1, s2, s3, s4⟩ := hG.sizes
        have t164 : t[164]? = some (.slice (some ⟨nq, 0, none⟩) g.nodes.length nc) := hdep 1 (by kernel_rfl)
        have t168 : t[168]? = some (.int .i64 ri) := hdep 5 (by kernel_rfl)
        have hnq : nq < V.heap.size := by omega
        clear hout hdep hun hdn hsz g0 g1 g2 o0 o1 o2 o3 p0 p1 p2
        go_simp
        exact hK.out _ _ hG ⟨Gn.of_gw (Nat.le_refl _) (Gw.refl _), fun _ => Gw.refl _⟩ (put_here HS.out)
      refine RSteps2.cons (RStep2.mk rfl rfl fun t V hsz hout L hun hdn hG hdep K hK => ?_) ?_
      · have HS : Hid (170 < t.size) := Lib.hid (by rw [show t.size = 324 from hsz]; decide)
        obtain ⟨g0, g1, g2, o0, o1, o2, o3, p0, p1, p2⟩ := hG.cells
        obtain ⟨s0, s1, s2, s3, s4⟩ := hG.sizes
        have t169 : t[169]? = some (.pointer (some ⟨nq, ri * 2, none⟩)) := hdep 6 (by kernel_rfl)
        have x0 : V.cell? ⟨nq, ri * 2, none⟩ = some (.slice ra ml rac) := (hG.bel.cell (p := ⟨nq, ri * 2, none⟩) hq2).trans HQ0.out
        have x1 : V.cell? ⟨nq, ri * 2 + 1, none⟩ = some (.slice da dl dac) := (hG.bel.cell (p := ⟨nq, ri * 2 + 1, none⟩) hq2).trans HQ1.out
        have hnq : nq < V.heap.size := by omega
        clear hout hdep hun hdn hsz g0 g1 g2 o0 o1 o2 o3 p0 p1 p2
        go_simp
        exact hK.out _ _ hG ⟨Gn.of_gw (Nat.le_refl _) (Gw.refl _), fun _ => Gw.refl _⟩ (put_here HS.out)
      refine RSteps2.cons (RStep2.mk rfl rfl fun t V hsz hout L hun hdn hG hdep K hK => ?_) ?_
      · have HS : Hid (13 < t.size) := Lib.hid (by rw [show t.size = 324 from hsz]; decide)
        obtain ⟨g0, g1, g2, o0, o1, o2, o3, p0, p1, p2⟩ := hG.cells
        obtain ⟨s0, s1, s2, s3, s4⟩ := hG.sizes
        have hp := hG.hp
        have hn1 := hG.ins.nodes.ne (b := V.heap.size) (.inr (Nat.le_refl _))
        have hn2 := hG.out.nodes.ne (b := V.heap.size) (.inr (Nat.le_refl _))
        clear hout hdep hun hdn hsz g0 g1 g2 o0 o1 o2 o3 p0 p1 p2
        have N1 := Lib.hid hn1
        have N2 := Lib.hid hn2
        clear hn1 hn2
        go_simp
        exact hK.out _ _ (hG.keep ((Below.refl _ _).alloc (Nat.le_refl _) _)) ⟨Gn.of_gw (by simp) (Gw.alloc _ _), fun _ => Gw.alloc _ _⟩ ⟨_, _, _, put_here HS.out, by omega, N1.out, N2.out, heap_alloc_new _ _⟩
      refine RSteps2.cons (RStep2.mk rfl rfl fun t V hsz hout L hun hdn hG hdep K hK => ?_) ?_
      · skip
        obtain ⟨g0, g1, g2, o0, o1, o2, o3, p0, p1, p2⟩ := hG.cells
        obtain ⟨s0, s1, s2, s3, s4⟩ := hG.sizes
        obtain ⟨b, z0, z1, t13, hbb, hn1, hn2, hk⟩ := hdep 8 (by kernel_rfl)
        have t170 : t[170]? = some (.agg #[(.slice ra ml rac), (.slice da dl dac)]) := hdep 7 (by kernel_rfl)
        have t13' : t[13]? = some (.pointer (some ⟨b, 0, none⟩)) := t13
        have T13 := Lib.hid t13
        have c0 : V.cell? ⟨b, 0, none⟩ = some z0 := by rw [cell_block hk]; rfl
        have c1 : V.cell? ⟨b, 1, none⟩ = some z1 := by rw [cell_block hk]; rfl
        have f0 : V.frozen? ⟨b, 0, none⟩ = false := frozen_block hk
        have f1 : V.frozen? ⟨b, 1, none⟩ = false := frozen_block hk
        have hbl := block_lt hk
        have HB := Lib.hid hk
        have N1 := Lib.hid hn1
        have N2 := Lib.hid hn2
        clear t13 hk hn1 hn2 hout hdep hun hdn hsz g0 g1 g2 o0 o1 o2 o3 p0 p1 p2
        go_simp
        exact hK.out undef _ ((hG.set_node HB.out N1.out N2.out (by omega)).set_node (setCell_block HB.out _) N1.out N2.out (by omega)) ⟨(Gn.set HB.out _).trans (Gn.set (setCell_block HB.out _) _), fun h => absurd rfl h⟩ ⟨b, T13.out, hbb, N1.out, N2.out, set2_block' HB.out _ _⟩
      exact RSteps2.nil (by decide)
    · intro a' V hR
      have hG := hR.g
      obtain ⟨b, t13, hbb, hn1, hn2, hbx⟩ := hR.all (i := 9) (by decide)
      obtain ⟨f, rfl, hf⟩ := hR.frameS rfl [13, 163, 164, 165, 166, 167, 168, 169, 170] (by intro k hk; simp at hk; simp [writes]; omega)
      clear hR
      have hf13 := hf 13 (by simp) (by simp)
      rw [t13] at hf13
      have e13 : f 13 = .pointer (some ⟨b, 0, none⟩) := by injection hf13 with h; exact h.symm
      clear hf hf13 t13
      simp only [setAll, List.map_cons, List.map_nil, List.set_cons_succ, List.set_cons_zero]
      rw [e13]
      clear e13
      generalize f 163 = v163
      generalize f 164 = v164
      generalize f 165 = v165
      generalize f 166 = v166
      generalize f 167 = v167
      generalize f 168 = v168
      generalize f 169 = v169
      generalize f 170 = v170
      clear f
      have HG := Lib.hid hG
      have HBX := Lib.hid hbx
      have N1 := Lib.hid hn1
      have N2 := Lib.hid hn2
      clear hG hbx hn1 hn2
      obtain ⟨g0, g1, g2, o0, o1, o2, o3, p0, p1, p2⟩ := HG.out.cells
      obtain ⟨s0, s1, s2, s3, s4⟩ := HG.out.sizes
      have bx0 : V.cell? ⟨b, 0, none⟩ = some (.slice ra ml rac) := by rw [cell_block HBX.out]; rfl
      have bx1 : V.cell? ⟨b, 1, none⟩ = some (.slice da dl dac) := by rw [cell_block HBX.out]; rfl
      have hbs := block_lt HBX.out
      by_cases hlim : ml ≤ y
      · have hlm : decide ((ml : Int) ≤ y) = true := by simpa using hlim
        go_wp2_with fail
        refine (fail_any _ _ _ _ ⟨_, _, _, rfl⟩ ⟨_, _, _, rfl⟩ ⟨_, _, _, rfl⟩ 17).mono ?_
        rintro e wf ⟨rfl, hbf⟩
        have HF := Lib.hid (HG.out.keep hbf)
        clear hbf g0 g1 g2 o0 o1 o2 o3 p0 p1 p2 bx0 bx1 s0 s1 s2 s3 s4 hbs
        obtain ⟨g0, g1, g2, o0, o1, o2, o3, p0, p1, p2⟩ := HF.out.cells
        obtain ⟨s0, s1, s2, s3, s4⟩ := HF.out.sizes
        obtain ⟨z0, z1, z2, hbb2⟩ := HF.out.b2
        obtain ⟨y0, y1, hbb3⟩ := HF.out.b3
        have c0 : wf.cell? ⟨w.heap.size + 1 + 1, 0, none⟩ = some z0 := by rw [cell_block hbb2]; rfl
        have c1 : wf.cell? ⟨w.heap.size + 1 + 1, 1, none⟩ = some z1 := by rw [cell_block hbb2]; rfl
        have c2 : wf.cell? ⟨w.heap.size + 1 + 1, 2, none⟩ = some z2 := by rw [cell_block hbb2]; rfl
        have f0 : wf.frozen? ⟨w.heap.size + 1 + 1, 0, none⟩ = false := frozen_block hbb2
        have f1 : wf.frozen? ⟨w.heap.size + 1 + 1, 1, none⟩ = false := frozen_block hbb2
        have f2 : wf.frozen? ⟨w.heap.size + 1 + 1, 2, none⟩ = false := frozen_block hbb2
        have c3 : wf.cell? ⟨w.heap.size + 1 + 1 + 1, 0, none⟩ = some y0 := by rw [cell_block hbb3]; rfl
        have c4 : wf.cell? ⟨w.heap.size + 1 + 1 + 1, 1, none⟩ = some y1 := by rw [cell_block hbb3]; rfl
        have f3 : wf.frozen? ⟨w.heap.size + 1 + 1 + 1, 0, none⟩ = false := frozen_block hbb3
        have f4 : wf.frozen? ⟨w.heap.size + 1 + 1 + 1, 1, none⟩ = false := frozen_block hbb3
        have HB2 := Lib.hid hbb2
        have HB3 := Lib.hid hbb3
        clear hbb2 hbb3
        go_wp2
        exact do_ret (a1 := 17) HF.out.bel HB2.out HB3.out HF.out.ins (HOK.out.more (by omega)) rfl rfl rfl
      · have hlm : decide ((ml : Int) ≤ y) = false := by simpa using hlim
        go_wp2_with fail
        refine (handle_any _ B rb _ _ _ g HG.out.ins HOK.out.ul z false (by omega) (by omega)).mono ?_
        rintro e wf ⟨rz3, rfl, hhz, hbf⟩
        have HGF := Lib.hid (HG.out.keep hbf)
        clear hbf HG bx0 bx1 g0 g1 g2 o0 o1 o2 o3 p0 p1 p2 s0 s1 s2 s3 s4 hbs HBX
        have HG := HGF
        clear HGF
        obtain ⟨V, hV⟩ : ∃ V : World, V = wf := ⟨_, rfl⟩
        subst hV
        obtain ⟨g0, g1, g2, o0, o1, o2, o3, p0, p1, p2⟩ := HG.out.cells
        obtain ⟨s0, s1, s2, s3, s4⟩ := HG.out.sizes
        have HHZ := Lib.hid hhz
        clear hhz
        by_cases hr0 : rz3 = 0
        · subst hr0
          have hrz : ∃ rz, ((z = 0 ∧ rz = -1) ∨ (1 ≤ z ∧ z ≤ 32 ∧ g.roots.getD (z - 1).toNat 0 = rz)) ∧ -1 ≤ rz ∧ rz < g.nodes.length := by
            rcases HHZ.out rfl with h | h
            · exact ⟨-1, .inl ⟨h.1, rfl⟩, by omega, by omega⟩
            · have h4 := HOK.out.root _ h.2.2
              exact ⟨_, .inr ⟨h.1, h.2.1, rfl⟩, by omega, by omega⟩
          obtain ⟨rz, hrz1, hrz2⟩ := hrz
          have HRZ := Lib.hid hrz1
          have HRB := Lib.hid hrz2
          clear hrz1 hrz2
          obtain ⟨nq1, ya, yb, rfl, hcq1, hcq2, hcc0, hcc1, hya, hyb⟩ := HG.out.out.node_at hrl
          rw [HNE.out] at hya hyb
          obtain ⟨rya, ryac, rfl⟩ := own_form hya
          obtain ⟨ryb, rybc, rfl⟩ := own_form hyb
          rw [HML.out] at hya hcc0
          rw [HDL.out] at hyb hcc1
          obtain ⟨yk, hyk⟩ := Int.eq_ofNat_of_zero_le hy0
          have hyd : yk < nd.refs.length := by rw [HML.out]; omega
          obtain ⟨rq1, dqc, e, _, _, hdq1, hdq2, hdqc, _⟩ := hya.at1 hyd
          simp only [Value.slice.injEq] at e
          obtain ⟨rfl, e2, rfl⟩ := e
          clear e2
          obtain ⟨dcs, hdb⟩ := hya.blk
          have HDB := Lib.hid hdb
          have HNB : Hid (rq1 ≠ rb1) := Lib.hid (fun e => HG.out.out.node_ne hrl hcc0 (by rw [e]; rfl))
          obtain ⟨dv, hdv⟩ : ∃ dv, V.cell? ⟨rq1, yk, none⟩ = some (.int .i64 dv) := ⟨_, hdqc⟩
          have HDQ := Lib.hid hdv
          have HYK := Lib.hid hyk
          have HYL : Hid ((yk : Int) < ml) := Lib.hid (by omega)
          have HC0 := Lib.hid hcc0
          clear hdqc hdv hyk hyd hdb hya hyb hcc0 hcc1
          go_wp2_with fail
          clear g0 g1 g2 o0 o1 o2 o3 p0 p1 p2 s0 s1 s2 s3 s4
          refine wp_region_facts2 (by kernel_rfl) (fun L => WrG w (.slice (some ⟨nq, 0, none⟩) g.nodes.length nc) (.slice ua 32 uc) (.slice (some ⟨rb, 0, none⟩) 32 rc) (.slice (some ⟨nq1, 0, none⟩) g.nodes.length nc1) (.slice ua1 32 uc1) (.slice (some ⟨rb1, 0, none⟩) 32 rc1) 3 x y z p B rb rb1 n g V (L 16)) (fun _ _ _ => True) (DhF (fun i => match i with | 0 => (.pointer (some ⟨p, 0, none⟩)) | 1 => (.slice (some ⟨nq1, 0, none⟩) g.nodes.length nc1) | 2 => (.agg #[.slice (some ⟨nq, 0, none⟩) g.nodes.length nc, .slice ua 32 uc, .slice (some ⟨rb, 0, none⟩) 32 rc]) | 3 => (.pointer (some ⟨w.heap.size + 1, 1, none⟩)) | 4 => (.int .i64 x) | 5 => (.int .i64 ri) | 6 => (.pointer (some ⟨nq1, ri * 2, none⟩)) | 7 => (.pointer (some ⟨nq1, ri * 2, none⟩)) | 8 => (.slice (some ⟨rq1, 0, none⟩) ml ryac) | 9 => (.pointer (some ⟨w.heap.size + 1, 2, none⟩)) | 10 => (.int .i64 y) | 11 => (.agg #[.slice (some ⟨nq, 0, none⟩) g.nodes.length nc, .slice ua 32 uc, .slice (some ⟨rb, 0, none⟩) 32 rc]) | 12 => (.pointer (some ⟨w.heap.size + 1, 3, none⟩)) | 13 => (.int .i64 z) | 14 => (.int .i64 rz) | 15 => (.pointer (some ⟨rq1, yk, none⟩)) | _ => undef)) DhLoc (by kernel_rfl) (by kernel_rfl) (by kernel_rfl) (DhF.loc _) (fun i j a W W' _ _ _ h => DhF.stab _ j a W W' h) ?_ ?_ ?_
          · exact ⟨g, HG.out.keep ((Below.refl _ _).drew), HOK.out, fun _ => ⟨rfl, fun _ _ => rfl, Nat.le_refl _⟩⟩
          · skip
            refine RSteps2.cons (RStep2.mk rfl rfl fun t U hsz hout L hun hdn hG hdep K hK => ?_) ?_
            · have HS : Hid (273 < t.size) := Lib.hid (by rw [show t.size = 324 from hsz]; decide)
              have hL : L 16 = false := hdn 16 (by kernel_rfl)
              have hG0 : WrG w (.slice (some ⟨nq, 0, none⟩) g.nodes.length nc) (.slice ua 32 uc) (.slice (some ⟨rb, 0, none⟩) 32 rc) (.slice (some ⟨nq1, 0, none⟩) g.nodes.length nc1) (.slice ua1 32 uc1) (.slice (some ⟨rb1, 0, none⟩) 32 rc1) 3 x y z p B rb rb1 n g V false U := by have h : WrG w (.slice (some ⟨nq, 0, none⟩) g.nodes.length nc) (.slice ua 32 uc) (.slice (some ⟨rb, 0, none⟩) 32 rc) (.slice (some ⟨nq1, 0, none⟩) g.nodes.length nc1) (.slice ua1 32 uc1) (.slice (some ⟨rb1, 0, none⟩) 32 rc1) 3 x y z p B rb rb1 n g V (L 16) U := hG; rw [hL] at h; exact h
              obtain ⟨hGG, hgw, hgs⟩ := hG0.st
              have HG0 := Lib.hid hG0
              have HGW := Lib.hid hgw
              obtain ⟨g0, g1, g2, o0, o1, o2, o3, p0, p1, p2⟩ := hGG.cells
              obtain ⟨s0, s1, s2, s3, s4⟩ := hGG.sizes
              have HGG := Lib.hid hGG
              clear hG hG0 hGG hgw
              have eu : upd L 0 16 = false := (upd_ne (by decide)).trans hL
              have HXX : Hid (∀ W' : World, WrG w (.slice (some ⟨nq, 0, none⟩) g.nodes.length nc) (.slice ua 32 uc) (.slice (some ⟨rb, 0, none⟩) 32 rc) (.slice (some ⟨nq1, 0, none⟩) g.nodes.length nc1) (.slice ua1 32 uc1) (.slice (some ⟨rb1, 0, none⟩) 32 rc1) 3 x y z p B rb rb1 n g V false W' → WrG w (.slice (some ⟨nq, 0, none⟩) g.nodes.length nc) (.slice ua 32 uc) (.slice (some ⟨rb, 0, none⟩) 32 rc) (.slice (some ⟨nq1, 0, none⟩) g.nodes.length nc1) (.slice ua1 32 uc1) (.slice (some ⟨rb1, 0, none⟩) 32 rc1) 3 x y z p B rb rb1 n g V (upd L 0 16) W') := Lib.hid (fun W' h => by rw [eu]; exact h)
              clear eu
              have t6 : t[6]? = some (.pointer (some ⟨p, 0, none⟩)) := hout 6 (by kernel_rfl)
              clear hout hdep hun hdn hsz hL
              go_simp
              exact hK.out (.pointer (some ⟨p, 0, none⟩)) _ (HXX.out _ HG0.out) trivial (put_here HS.out)
            refine RSteps2.cons (RStep2.mk rfl rfl fun t U hsz hout L hun hdn hG hdep K hK => ?_) ?_
            · have HS : Hid (274 < t.size) := Lib.hid (by rw [show t.size = 324 from hsz]; decide)
              have hL : L 16 = false := hdn 16 (by kernel_rfl)
              have hG0 : WrG w (.slice (some ⟨nq, 0, none⟩) g.nodes.length nc) (.slice ua 32 uc) (.slice (some ⟨rb, 0, none⟩) 32 rc) (.slice (some ⟨nq1, 0, none⟩) g.nodes.length nc1) (.slice ua1 32 uc1) (.slice (some ⟨rb1, 0, none⟩) 32 rc1) 3 x y z p B rb rb1 n g V false U := by have h : WrG w (.slice (some ⟨nq, 0, none⟩) g.nodes.length nc) (.slice ua 32 uc) (.slice (some ⟨rb, 0, none⟩) 32 rc) (.slice (some ⟨nq1, 0, none⟩) g.nodes.length nc1) (.slice ua1 32 uc1) (.slice (some ⟨rb1, 0, none⟩) 32 rc1) 3 x y z p B rb rb1 n g V (L 16) U := hG; rw [hL] at h; exact h
              obtain ⟨hGG, hgw, hgs⟩ := hG0.st
              have HG0 := Lib.hid hG0
              have HGW := Lib.hid hgw
              obtain ⟨g0, g1, g2, o0, o1, o2, o3, p0, p1, p2⟩ := hGG.cells
              obtain ⟨s0, s1, s2, s3, s4⟩ := hGG.sizes
              have HGG := Lib.hid hGG
              clear hG hG0 hGG hgw
              have eu : upd L 1 16 = false := (upd_ne (by decide)).trans hL
              have HXX : Hid (∀ W' : World, WrG w (.slice (some ⟨nq, 0, none⟩) g.nodes.length nc) (.slice ua 32 uc) (.slice (some ⟨rb, 0, none⟩) 32 rc) (.slice (some ⟨nq1, 0, none⟩) g.nodes.length nc1) (.slice ua1 32 uc1) (.slice (some ⟨rb1, 0, none⟩) 32 rc1) 3 x y z p B rb rb1 n g V false W' → WrG w (.slice (some ⟨nq, 0, none⟩) g.nodes.length nc) (.slice ua 32 uc) (.slice (some ⟨rb, 0, none⟩) 32 rc) (.slice (some ⟨nq1, 0, none⟩) g.nodes.length nc1) (.slice ua1 32 uc1) (.slice (some ⟨rb1, 0, none⟩) 32 rc1) 3 x y z p B rb rb1 n g V (upd L 1 16) W') := Lib.hid (fun W' h => by rw [eu]; exact h)
              clear eu
              have t273 : t[273]? = some (.pointer (some ⟨p, 0, none⟩)) := hdep 0 (by kernel_rfl)
              clear hout hdep hun hdn hsz hL
              go_simp
              exact hK.out (.slice (some ⟨nq1, 0, none⟩) g.nodes.length nc1) _ (HXX.out _ HG0.out) trivial (put_here HS.out)
            refine RSteps2.cons (RStep2.mk rfl rfl fun t U hsz hout L hun hdn hG hdep K hK => ?_) ?_
            · have HS : Hid (275 < t.size) := Lib.hid (by rw [show t.size = 324 from hsz]; decide)
              have hL : L 16 = false := hdn 16 (by kernel_rfl)
              have hG0 : WrG w (.slice (some ⟨nq, 0, none⟩) g.nodes.length nc) (.slice ua 32 uc) (.slice (some ⟨rb, 0, none⟩) 32 rc) (.slice (some ⟨nq1, 0, none⟩) g.nodes.length nc1) (.slice ua1 32 uc1) (.slice (some ⟨rb1, 0, none⟩) 32 rc1) 3 x y z p B rb rb1 n g V false U := by have h : WrG w (.slice (some ⟨nq, 0, none⟩) g.nodes.length nc) (.slice ua 32 uc) (.slice (some ⟨rb, 0, none⟩) 32 rc) (.slice (some ⟨nq1, 0, none⟩) g.nodes.length nc1) (.slice ua1 32 uc1) (.slice (some ⟨rb1, 0, none⟩) 32 rc1) 3 x y z p B rb rb1 n g V (L 16) U := hG; rw [hL] at h; exact h
              obtain ⟨hGG, hgw, hgs⟩ := hG0.st
              have HG0 := Lib.hid hG0
              have HGW := Lib.hid hgw
              obtain ⟨g0, g1, g2, o0, o1, o2, o3, p0, p1, p2⟩ := hGG.cells
              obtain ⟨s0, s1, s2, s3, s4⟩ := hGG.sizes
              have HGG := Lib.hid hGG
              clear hG hG0 hGG hgw
              have eu : upd L 2 16 = false := (upd_ne (by decide)).trans hL
              have HXX : Hid (∀ W' : World, WrG w (.slice (some ⟨nq, 0, none⟩) g.nodes.length nc) (.slice ua 32 uc) (.slice (some ⟨rb, 0, none⟩) 32 rc) (.slice (some ⟨nq1, 0, none⟩) g.nodes.length nc1) (.slice ua1 32 uc1) (.slice (some ⟨rb1, 0, none⟩) 32 rc1) 3 x y z p B rb rb1 n g V false W' → WrG w (.slice (some ⟨nq, 0, none⟩) g.nodes.length nc) (.slice ua 32 uc) (.slice (some ⟨rb, 0, none⟩) 32 rc) (.slice (some ⟨nq1, 0, none⟩) g.nodes.length nc1) (.slice ua1 32 uc1) (.slice (some ⟨rb1, 0, none⟩) 32 rc1) 3 x y z p B rb rb1 n g V (upd L 2 16) W') := Lib.hid (fun W' h => by rw [eu]; exact h)
              clear eu
              have t2 : t[2]? = some (.pointer (some ⟨w.heap.size, 0, none⟩)) := hout 2 (by kernel_rfl)
              clear hout hdep hun hdn hsz hL
              go_simp
              exact hK.out (.agg #[.slice (some ⟨nq, 0, none⟩) g.nodes.length nc, .slice ua 32 uc, .slice (some ⟨rb, 0, none⟩) 32 rc]) _ (HXX.out _ HG0.out) trivial (put_here HS.out)
            refine RSteps2.cons (RStep2.mk rfl rfl fun t U hsz hout L hun hdn hG hdep K hK => ?_) ?_
            · have HS : Hid (276 < t.size) := Lib.hid (by rw [show t.size = 324 from hsz]; decide)
              have hL : L 16 = false := hdn 16 (by kernel_rfl)
              have hG0 : WrG w (.slice (some ⟨nq, 0, none⟩) g.nodes.length nc) (.slice ua 32 uc) (.slice (some ⟨rb, 0, none⟩) 32 rc) (.slice (some ⟨nq1, 0, none⟩) g.nodes.length nc1) (.slice ua1 32 uc1) (.slice (some ⟨rb1, 0, none⟩) 32 rc1) 3 x y z p B rb rb1 n g V false U := by have h : WrG w (.slice (some ⟨nq, 0, none⟩) g.nodes.length nc) (.slice ua 32 uc) (.slice (some ⟨rb, 0, none⟩) 32 rc) (.slice (some ⟨nq1, 0, none⟩) g.nodes.length nc1) (.slice ua1 32 uc1) (.slice (some ⟨rb1, 0, none⟩) 32 rc1) 3 x y z p B rb rb1 n g V (L 16) U := hG; rw [hL] at h; exact h
              obtain ⟨hGG, hgw, hgs⟩ := hG0.st
              have HG0 := Lib.hid hG0
              have HGW := Lib.hid hgw
              obtain ⟨g0, g1, g2, o0, o1, o2, o3, p0, p1, p2⟩ := hGG.cells
              obtain ⟨s0, s1, s2, s3, s4⟩ := hGG.sizes
              have HGG := Lib.hid hGG
              clear hG hG0 hGG hgw
              have eu : upd L 3 16 = false := (upd_ne (by decide)).trans hL
              have HXX : Hid (∀ W' : World, WrG w (.slice (some ⟨nq, 0, none⟩) g.nodes.length nc) (.slice ua 32 uc) (.slice (some ⟨rb, 0, none⟩) 32 rc) (.slice (some ⟨nq1, 0, none⟩) g.nodes.length nc1) (.slice ua1 32 uc1) (.slice (some ⟨rb1, 0, none⟩) 32 rc1) 3 x y z p B rb rb1 n g V false W' → WrG w (.slice (some ⟨nq, 0, none⟩) g.nodes.length nc) (.slice ua 32 uc) (.slice (some ⟨rb, 0, none⟩) 32 rc) (.slice (some ⟨nq1, 0, none⟩) g.nodes.length nc1) (.slice ua1 32 uc1) (.slice (some ⟨rb1, 0, none⟩) 32 rc1) 3 x y z p B rb rb1 n g V (upd L 3 16) W') := Lib.hid (fun W' h => by rw [eu]; exact h)
              clear eu
              have t3 : t[3]? = some (.pointer (some ⟨w.heap.size + 1, 0, none⟩)) := hout 3 (by kernel_rfl)
              clear hout hdep hun hdn hsz hL
              go_simp
              exact hK.out (.pointer (some ⟨w.heap.size + 1, 1, none⟩)) _ (HXX.out _ HG0.out) trivial (put_here HS.out)
            refine RSteps2.cons (RStep2.mk rfl rfl fun t U hsz hout L hun hdn hG hdep K hK => ?_) ?_
            · have HS : Hid (277 < t.size) := Lib.hid (by rw [show t.size = 324 from hsz]; decide)
              have hL : L 16 = false := hdn 16 (by kernel_rfl)
              have hG0 : WrG w (.slice (some ⟨nq, 0, none⟩) g.nodes.length nc) (.slice ua 32 uc) (.slice (some ⟨rb, 0, none⟩) 32 rc) (.slice (some ⟨nq1, 0, none⟩) g.nodes.length nc1) (.slice ua1 32 uc1) (.slice (some ⟨rb1, 0, none⟩) 32 rc1) 3 x y z p B rb rb1 n g V false U := by have h : WrG w (.slice (some ⟨nq, 0, none⟩) g.nodes.length nc) (.slice ua 32 uc) (.slice (some ⟨rb, 0, none⟩) 32 rc) (.slice (some ⟨nq1, 0, none⟩) g.nodes.length nc1) (.slice ua1 32 uc1) (.slice (some ⟨rb1, 0, none⟩) 32 rc1) 3 x y z p B rb rb1 n g V (L 16) U := hG; rw [hL] at h; exact h
              obtain ⟨hGG, hgw, hgs⟩ := hG0.st
              have HG0 := Lib.hid hG0
              have HGW := Lib.hid hgw
              obtain ⟨g0, g1, g2, o0, o1, o2, o3, p0, p1, p2⟩ := hGG.cells
              obtain ⟨s0, s1, s2, s3, s4⟩ := hGG.sizes
              have HGG := Lib.hid hGG
              clear hG hG0 hGG hgw
              have eu : upd L 4 16 = false := (upd_ne (by decide)).trans hL
              have HXX : Hid (∀ W' : World, WrG w (.slice (some ⟨nq, 0, none⟩) g.nodes.length nc) (.slice ua 32 uc) (.slice (some ⟨rb, 0, none⟩) 32 rc) (.slice (some ⟨nq1, 0, none⟩) g.nodes.length nc1) (.slice ua1 32 uc1) (.slice (some ⟨rb1, 0, none⟩) 32 rc1) 3 x y z p B rb rb1 n g V false W' → WrG w (.slice (some ⟨nq, 0, none⟩) g.nodes.length nc) (.slice ua 32 uc) (.slice (some ⟨rb, 0, none⟩) 32 rc) (.slice (some ⟨nq1, 0, none⟩) g.nodes.length nc1) (.slice ua1 32 uc1) (.slice (some ⟨rb1, 0, none⟩) 32 rc1) 3 x y z p B rb rb1 n g V (upd L 4 16) W') := Lib.hid (fun W' h => by rw [eu]; exact h)
              clear eu
              have t276 : t[276]? = some (.pointer (some ⟨w.heap.size + 1, 1, none⟩)) := hdep 3 (by kernel_rfl)
              clear hout hdep hun hdn hsz hL
              go_simp
              exact hK.out (.int .i64 x) _ (HXX.out _ HG0.out) trivial (put_here HS.out)
            refine RSteps2.cons (RStep2.mk rfl rfl fun t U hsz hout L hun hdn hG hdep K hK => ?_) ?_
            · have HS : Hid (278 < t.size) := Lib.hid (by rw [show t.size = 324 from hsz]; decide)
              have hL : L 16 = false := hdn 16 (by kernel_rfl)
              have hG0 : WrG w (.slice (some ⟨nq, 0, none⟩) g.nodes.length nc) (.slice ua 32 uc) (.slice (some ⟨rb, 0, none⟩) 32 rc) (.slice (some ⟨nq1, 0, none⟩) g.nodes.length nc1) (.slice ua1 32 uc1) (.slice (some ⟨rb1, 0, none⟩) 32 rc1) 3 x y z p B rb rb1 n g V false U := by have h : WrG w (.slice (some ⟨nq, 0, none⟩) g.nodes.length nc) (.slice ua 32 uc) (.slice (some ⟨rb, 0, none⟩) 32 rc) (.slice (some ⟨nq1, 0, none⟩) g.nodes.length nc1) (.slice ua1 32 uc1) (.slice (some ⟨rb1, 0, none⟩) 32 rc1) 3 x y z p B rb rb1 n g V (L 16) U := hG; rw [hL] at h; exact h
              obtain ⟨hGG, hgw, hgs⟩ := hG0.st
              have HG0 := Lib.hid hG0
              have HGW := Lib.hid hgw
              obtain ⟨g0, g1, g2, o0, o1, o2, o3, p0, p1, p2⟩ := hGG.cells
              obtain ⟨s0, s1, s2, s3, s4⟩ := hGG.sizes
              have HGG := Lib.hid hGG
              clear hG hG0 hGG hgw
              have eu : upd L 5 16 = false := (upd_ne (by decide)).trans hL
              have HXX : Hid (∀ W' : World, WrG w (.slice (some ⟨nq, 0, none⟩) g.nodes.length nc) (.slice ua 32 uc) (.slice (some ⟨rb, 0, none⟩) 32 rc) (.slice (some ⟨nq1, 0, none⟩) g.nodes.length nc1) (.slice ua1 32 uc1) (.slice (some ⟨rb1, 0, none⟩) 32 rc1) 3 x y z p B rb rb1 n g V false W' → WrG w (.slice (some ⟨nq, 0, none⟩) g.nodes.length nc) (.slice ua 32 uc) (.slice (some ⟨rb, 0, none⟩) 32 rc) (.slice (some ⟨nq1, 0, none⟩) g.nodes.length nc1) (.slice ua1 32 uc1) (.slice (some ⟨rb1, 0, none⟩) 32 rc1) 3 x y z p B rb rb1 n g V (upd L 5 16) W') := Lib.hid (fun W' h => by rw [eu]; exact h)
              clear eu
              have t275 : t[275]? = some (.agg #[.slice (some ⟨nq, 0, none⟩) g.nodes.length nc, .slice ua 32 uc, .slice (some ⟨rb, 0, none⟩) 32 rc]) := hdep 2 (by kernel_rfl)
              have t277 : t[277]? = some (.int .i64 x) := hdep 4 (by kernel_rfl)
              clear hout hdep hun hdn hsz hL g0 g1 g2 o0 o1 o2 o3 p0 p1 p2
              go_simp
              refine (node_any _ B rb _ _ _ g HGG.out.ins HOK.out.rl x ri (.inr ⟨hx2, hx3, HR.out⟩)).mono ?_
              rintro e w3 ⟨rfl, hb3⟩
              go_simp
              exact hK.out (.int .i64 ri) _ (HXX.out _ (HG0.out.keep hb3)) trivial (put_here HS.out)
            refine RSteps2.cons (RStep2.mk rfl rfl fun t U hsz hout L hun hdn hG hdep K hK => ?_) ?_
            · have HS : Hid (279 < t.size) := Lib.hid (by rw [show t.size = 324 from hsz]; decide)
              have hL : L 16 = false := hdn 16 (by kernel_rfl)
              have hG0 : WrG w (.slice (some ⟨nq, 0, none⟩) g.nodes.length nc) (.slice ua 32 uc) (.slice (some ⟨rb, 0, none⟩) 32 rc) (.slice (some ⟨nq1, 0, none⟩) g.nodes.length nc1) (.slice ua1 32 uc1) (.slice (some ⟨rb1, 0, none⟩) 32 rc1) 3 x y z p B rb rb1 n g V false U := by have h : WrG w (.slice (some ⟨nq, 0, none⟩) g.nodes.length nc) (.slice ua 32 uc) (.slice (some ⟨rb, 0, none⟩) 32 rc) (.slice (some ⟨nq1, 0, none⟩) g.nodes.length nc1) (.slice ua1 32 uc1) (.slice (some ⟨rb1, 0, none⟩) 32 rc1) 3 x y z p B rb rb1 n g V (L 16) U := hG; rw [hL] at h; exact h
              obtain ⟨hGG, hgw, hgs⟩ := hG0.st
              have HG0 := Lib.hid hG0
              have HGW := Lib.hid hgw
              obtain ⟨g0, g1, g2, o0, o1, o2, o3, p0, p1, p2⟩ := hGG.cells
              obtain ⟨s0, s1, s2, s3, s4⟩ := hGG.sizes
              have HGG := Lib.hid hGG
              clear hG hG0 hGG hgw
              have eu : upd L 6 16 = false := (upd_ne (by decide)).trans hL
              have HXX : Hid (∀ W' : World, WrG w (.slice (some ⟨nq, 0, none⟩) g.nodes.length nc) (.slice ua 32 uc) (.slice (some ⟨rb, 0, none⟩) 32 rc) (.slice (some ⟨nq1, 0, none⟩) g.nodes.length nc1) (.slice ua1 32 uc1) (.slice (some ⟨rb1, 0, none⟩) 32 rc1) 3 x y z p B rb rb1 n g V false W' → WrG w (.slice (some ⟨nq, 0, none⟩) g.nodes.length nc) (.slice ua 32 uc) (.slice (some ⟨rb, 0, none⟩) 32 rc) (.slice (some ⟨nq1, 0, none⟩) g.nodes.length nc1) (.slice ua1 32 uc1) (.slice (some ⟨rb1, 0, none⟩) 32 rc1) 3 x y z p B rb rb1 n g V (upd L 6 16) W') := Lib.hid (fun W' h => by rw [eu]; exact h)
              clear eu
              have t274 : t[274]? = some (.slice (some ⟨nq1, 0, none⟩) g.nodes.length nc1) := hdep 1 (by kernel_rfl)
              have t278 : t[278]? = some (.int .i64 ri) := hdep 5 (by kernel_rfl)
              have hnqs : nq1 < U.heap.size := by omega
              clear hout hdep hun hdn hsz hL
              go_simp
              exact hK.out (.pointer (some ⟨nq1, ri * 2, none⟩)) _ (HXX.out _ HG0.out) trivial (put_here HS.out)
            refine RSteps2.cons (RStep2.mk rfl rfl fun t U hsz hout L hun hdn hG hdep K hK => ?_) ?_
            · have HS : Hid (280 < t.size) := Lib.hid (by rw [show t.size = 324 from hsz]; decide)
              have hL : L 16 = false := hdn 16 (by kernel_rfl)
              have hG0 : WrG w (.slice (some ⟨nq, 0, none⟩) g.nodes.length nc) (.slice ua 32 uc) (.slice (some ⟨rb, 0, none⟩) 32 rc) (.slice (some ⟨nq1, 0, none⟩) g.nodes.length nc1) (.slice ua1 32 uc1) (.slice (some ⟨rb1, 0, none⟩) 32 rc1) 3 x y z p B rb rb1 n g V false U := by have h : WrG w (.slice (some ⟨nq, 0, none⟩) g.nodes.length nc) (.slice ua 32 uc) (.slice (some ⟨rb, 0, none⟩) 32 rc) (.slice (some ⟨nq1, 0, none⟩) g.nodes.length nc1) (.slice ua1 32 uc1) (.slice (some ⟨rb1, 0, none⟩) 32 rc1) 3 x y z p B rb rb1 n g V (L 16) U := hG; rw [hL] at h; exact h
              obtain ⟨hGG, hgw, hgs⟩ := hG0.st
              have HG0 := Lib.hid hG0
              have HGW := Lib.hid hgw
              obtain ⟨g0, g1, g2, o0, o1, o2, o3, p0, p1, p2⟩ := hGG.cells
              obtain ⟨s0, s1, s2, s3, s4⟩ := hGG.sizes
              have HGG := Lib.hid hGG
              clear hG hG0 hGG hgw
              have eu : upd L 7 16 = false := (upd_ne (by decide)).trans hL
              have HXX : Hid (∀ W' : World, WrG w (.slice (some ⟨nq, 0, none⟩) g.nodes.length nc) (.slice ua 32 uc) (.slice (some ⟨rb, 0, none⟩) 32 rc) (.slice (some ⟨nq1, 0, none⟩) g.nodes.length nc1) (.slice ua1 32 uc1) (.slice (some ⟨rb1, 0, none⟩) 32 rc1) 3 x y z p B rb rb1 n g V false W' → WrG w (.slice (some ⟨nq, 0, none⟩) g.nodes.length nc) (.slice ua 32 uc) (.slice (some ⟨rb, 0, none⟩) 32 rc) (.slice (some ⟨nq1, 0, none⟩) g.nodes.length nc1) (.slice ua1 32 uc1) (.slice (some ⟨rb1, 0, none⟩) 32 rc1) 3 x y z p B rb rb1 n g V (upd L 7 16) W') := Lib.hid (fun W' h => by rw [eu]; exact h)
              clear eu
              have t279 : t[279]? = some (.pointer (some ⟨nq1, ri * 2, none⟩)) := hdep 6 (by kernel_rfl)
              clear hout hdep hun hdn hsz hL
              go_simp
              exact hK.out (.pointer (some ⟨nq1, ri * 2, none⟩)) _ (HXX.out _ HG0.out) trivial (put_here HS.out)
            refine RSteps2.cons (RStep2.mk rfl rfl fun t U hsz hout L hun hdn hG hdep K hK => ?_) ?_
            · have HS : Hid (281 < t.size) := Lib.hid (by rw [show t.size = 324 from hsz]; decide)
              have hL : L 16 = false := hdn 16 (by kernel_rfl)
              have hG0 : WrG w (.slice (some ⟨nq, 0, none⟩) g.nodes.length nc) (.slice ua 32 uc) (.slice (some ⟨rb, 0, none⟩) 32 rc) (.slice (some ⟨nq1, 0, none⟩) g.nodes.length nc1) (.slice ua1 32 uc1) (.slice (some ⟨rb1, 0, none⟩) 32 rc1) 3 x y z p B rb rb1 n g V false U := by have h : WrG w (.slice (some ⟨nq, 0, none⟩) g.nodes.length nc) (.slice ua 32 uc) (.slice (some ⟨rb, 0, none⟩) 32 rc) (.slice (some ⟨nq1, 0, none⟩) g.nodes.length nc1) (.slice ua1 32 uc1) (.slice (some ⟨rb1, 0, none⟩) 32 rc1) 3 x y z p B rb rb1 n g V (L 16) U := hG; rw [hL] at h; exact h
              obtain ⟨hGG, hgw, hgs⟩ := hG0.st
              have HG0 := Lib.hid hG0
              have HGW := Lib.hid hgw
              obtain ⟨g0, g1, g2, o0, o1, o2, o3, p0, p1, p2⟩ := hGG.cells
              obtain ⟨s0, s1, s2, s3, s4⟩ := hGG.sizes
              have HGG := Lib.hid hGG
              clear hG hG0 hGG hgw
              have eu : upd L 8 16 = false := (upd_ne (by decide)).trans hL
              have HXX : Hid (∀ W' : World, WrG w (.slice (some ⟨nq, 0, none⟩) g.nodes.length nc) (.slice ua 32 uc) (.slice (some ⟨rb, 0, none⟩) 32 rc) (.slice (some ⟨nq1, 0, none⟩) g.nodes.length nc1) (.slice ua1 32 uc1) (.slice (some ⟨rb1, 0, none⟩) 32 rc1) 3 x y z p B rb rb1 n g V false W' → WrG w (.slice (some ⟨nq, 0, none⟩) g.nodes.length nc) (.slice ua 32 uc) (.slice (some ⟨rb, 0, none⟩) 32 rc) (.slice (some ⟨nq1, 0, none⟩) g.nodes.length nc1) (.slice ua1 32 uc1) (.slice (some ⟨rb1, 0, none⟩) 32 rc1) 3 x y z p B rb rb1 n g V (upd L 8 16) W') := Lib.hid (fun W' h => by rw [eu]; exact h)
              clear eu
              have t280 : t[280]? = some (.pointer (some ⟨nq1, ri * 2, none⟩)) := hdep 7 (by kernel_rfl)
              have cy : U.cell? ⟨nq1, ri * 2, none⟩ = some (.slice (some ⟨rq1, 0, none⟩) ml ryac) := (World.cell?_of_block (HGW.out nq1 hcq2)).trans HC0.out
              have hnqs : nq1 < U.heap.size := by omega
              clear hout hdep hun hdn hsz hL
              go_simp
              exact hK.out (.slice (some ⟨rq1, 0, none⟩) ml ryac) _ (HXX.out _ HG0.out) trivial (put_here HS.out)
            refine RSteps2.cons (RStep2.mk rfl rfl fun t U hsz hout L hun hdn hG hdep K hK => ?_) ?_
            · have HS : Hid (282 < t.size) := Lib.hid (by rw [show t.size = 324 from hsz]; decide)
              have hL : L 16 = false := hdn 16 (by kernel_rfl)
              have hG0 : WrG w (.slice (some ⟨nq, 0, none⟩) g.nodes.length nc) (.slice ua 32 uc) (.slice (some ⟨rb, 0, none⟩) 32 rc) (.slice (some ⟨nq1, 0, none⟩) g.nodes.length nc1) (.slice ua1 32 uc1) (.slice (some ⟨rb1, 0, none⟩) 32 rc1) 3 x y z p B rb rb1 n g V false U := by have h : WrG w (.slice (some ⟨nq, 0, none⟩) g.nodes.length nc) (.slice ua 32 uc) (.slice (some ⟨rb, 0, none⟩) 32 rc) (.slice (some ⟨nq1, 0, none⟩) g.nodes.length nc1) (.slice ua1 32 uc1) (.slice (some ⟨rb1, 0, none⟩) 32 rc1) 3 x y z p B rb rb1 n g V (L 16) U := hG; rw [hL] at h; exact h
              obtain ⟨hGG, hgw, hgs⟩ := hG0.st
              have HG0 := Lib.hid hG0
              have HGW := Lib.hid hgw
              obtain ⟨g0, g1, g2, o0, o1, o2, o3, p0, p1, p2⟩ := hGG.cells
              obtain ⟨s0, s1, s2, s3, s4⟩ := hGG.sizes
              have HGG := Lib.hid hGG
              clear hG hG0 hGG hgw
              have eu : upd L 9 16 = false := (upd_ne (by decide)).trans hL
              have HXX : Hid (∀ W' : World, WrG w (.slice (some ⟨nq, 0, none⟩) g.nodes.length nc) (.slice ua 32 uc) (.slice (some ⟨rb, 0, none⟩) 32 rc) (.slice (some ⟨nq1, 0, none⟩) g.nodes.length nc1) (.slice ua1 32 uc1) (.slice (some ⟨rb1, 0, none⟩) 32 rc1) 3 x y z p B rb rb1 n g V false W' → WrG w (.slice (some ⟨nq, 0, none⟩) g.nodes.length nc) (.slice ua 32 uc) (.slice (some ⟨rb, 0, none⟩) 32 rc) (.slice (some ⟨nq1, 0, none⟩) g.nodes.length nc1) (.slice ua1 32 uc1) (.slice (some ⟨rb1, 0, none⟩) 32 rc1) 3 x y z p B rb rb1 n g V (upd L 9 16) W') := Lib.hid (fun W' h => by rw [eu]; exact h)
              clear eu
              have t3 : t[3]? = some (.pointer (some ⟨w.heap.size + 1, 0, none⟩)) := hout 3 (by kernel_rfl)
              clear hout hdep hun hdn hsz hL
              go_simp
              exact hK.out (.pointer (some ⟨w.heap.size + 1, 2, none⟩)) _ (HXX.out _ HG0.out) trivial (put_here HS.out)
            refine RSteps2.cons (RStep2.mk rfl rfl fun t U hsz hout L hun hdn hG hdep K hK => ?_) ?_
            · have HS : Hid (283 < t.size) := Lib.hid (by rw [show t.size = 324 from hsz]; decide)
              have hL : L 16 = false := hdn 16 (by kernel_rfl)
              have hG0 : WrG w (.slice (some ⟨nq, 0, none⟩) g.nodes.length nc) (.slice ua 32 uc) (.slice (some ⟨rb, 0, none⟩) 32 rc) (.slice (some ⟨nq1, 0, none⟩) g.nodes.length nc1) (.slice ua1 32 uc1) (.slice (some ⟨rb1, 0, none⟩) 32 rc1) 3 x y z p B rb rb1 n g V false U := by have h : WrG w (.slice (some ⟨nq, 0, none⟩) g.nodes.length nc) (.slice ua 32 uc) (.slice (some ⟨rb, 0, none⟩) 32 rc) (.slice (some ⟨nq1, 0, none⟩) g.nodes.length nc1) (.slice ua1 32 uc1) (.slice (some ⟨rb1, 0, none⟩) 32 rc1) 3 x y z p B rb rb1 n g V (L 16) U := hG; rw [hL] at h; exact h
              obtain ⟨hGG, hgw, hgs⟩ := hG0.st
              have HG0 := Lib.hid hG0
              have HGW := Lib.hid hgw
              obtain ⟨g0, g1, g2, o0, o1, o2, o3, p0, p1, p2⟩ := hGG.cells
              obtain ⟨s0, s1, s2, s3, s4⟩ := hGG.sizes
              have HGG := Lib.hid hGG
              clear hG hG0 hGG hgw
              have eu : upd L 10 16 = false := (upd_ne (by decide)).trans hL
              have HXX : Hid (∀ W' : World, WrG w (.slice (some ⟨nq, 0, none⟩) g.nodes.length nc) (.slice ua 32 uc) (.slice (some ⟨rb, 0, none⟩) 32 rc) (.slice (some ⟨nq1, 0, none⟩) g.nodes.length nc1) (.slice ua1 32 uc1) (.slice (some ⟨rb1, 0, none⟩) 32 rc1) 3 x y z p B rb rb1 n g V false W' → WrG w (.slice (some ⟨nq, 0, none⟩) g.nodes.length nc) (.slice ua 32 uc) (.slice (some ⟨rb, 0, none⟩) 32 rc) (.slice (some ⟨nq1, 0, none⟩) g.nodes.length nc1) (.slice ua1 32 uc1) (.slice (some ⟨rb1, 0, none⟩) 32 rc1) 3 x y z p B rb rb1 n g V (upd L 10 16) W') := Lib.hid (fun W' h => by rw [eu]; exact h)
              clear eu
              have t282 : t[282]? = some (.pointer (some ⟨w.heap.size + 1, 2, none⟩)) := hdep 9 (by kernel_rfl)
              clear hout hdep hun hdn hsz hL
              go_simp
              exact hK.out (.int .i64 y) _ (HXX.out _ HG0.out) trivial (put_here HS.out)
            refine RSteps2.cons (RStep2.mk rfl rfl fun t U hsz hout L hun hdn hG hdep K hK => ?_) ?_
            · have HS : Hid (284 < t.size) := Lib.hid (by rw [show t.size = 324 from hsz]; decide)
              have hL : L 16 = false := hdn 16 (by kernel_rfl)
              have hG0 : WrG w (.slice (some ⟨nq, 0, none⟩) g.nodes.length nc) (.slice ua 32 uc) (.slice (some ⟨rb, 0, none⟩) 32 rc) (.slice (some ⟨nq1, 0, none⟩) g.nodes.length nc1) (.slice ua1 32 uc1) (.slice (some ⟨rb1, 0, none⟩) 32 rc1) 3 x y z p B rb rb1 n g V false U := by have h : WrG w (.slice (some ⟨nq, 0, none⟩) g.nodes.length nc) (.slice ua 32 uc) (.slice (some ⟨rb, 0, none⟩) 32 rc) (.slice (some ⟨nq1, 0, none⟩) g.nodes.length nc1) (.slice ua1 32 uc1) (.slice (some ⟨rb1, 0, none⟩) 32 rc1) 3 x y z p B rb rb1 n g V (L 16) U := hG; rw [hL] at h; exact h
              obtain ⟨hGG, hgw, hgs⟩ := hG0.st
              have HG0 := Lib.hid hG0
              have HGW := Lib.hid hgw
              obtain ⟨g0, g1, g2, o0, o1, o2, o3, p0, p1, p2⟩ := hGG.cells
              obtain ⟨s0, s1, s2, s3, s4⟩ := hGG.sizes
              have HGG := Lib.hid hGG
              clear hG hG0 hGG hgw
              have eu : upd L 11 16 = false := (upd_ne (by decide)).trans hL
              have HXX : Hid (∀ W' : World, WrG w (.slice (some ⟨nq, 0, none⟩) g.nodes.length nc) (.slice ua 32 uc) (.slice (some ⟨rb, 0, none⟩) 32 rc) (.slice (some ⟨nq1, 0, none⟩) g.nodes.length nc1) (.slice ua1 32 uc1) (.slice (some ⟨rb1, 0, none⟩) 32 rc1) 3 x y z p B rb rb1 n g V false W' → WrG w (.slice (some ⟨nq, 0, none⟩) g.nodes.length nc) (.slice ua 32 uc) (.slice (some ⟨rb, 0, none⟩) 32 rc) (.slice (some ⟨nq1, 0, none⟩) g.nodes.length nc1) (.slice ua1 32 uc1) (.slice (some ⟨rb1, 0, none⟩) 32 rc1) 3 x y z p B rb rb1 n g V (upd L 11 16) W') := Lib.hid (fun W' h => by rw [eu]; exact h)
              clear eu
              have t2 : t[2]? = some (.pointer (some ⟨w.heap.size, 0, none⟩)) := hout 2 (by kernel_rfl)
              clear hout hdep hun hdn hsz hL
              go_simp
              exact hK.out (.agg #[.slice (some ⟨nq, 0, none⟩) g.nodes.length nc, .slice ua 32 uc, .slice (some ⟨rb, 0, none⟩) 32 rc]) _ (HXX.out _ HG0.out) trivial (put_here HS.out)
            refine RSteps2.cons (RStep2.mk rfl rfl fun t U hsz hout L hun hdn hG hdep K hK => ?_) ?_
            · have HS : Hid (285 < t.size) := Lib.hid (by rw [show t.size = 324 from hsz]; decide)
              have hL : L 16 = false := hdn 16 (by kernel_rfl)
              have hG0 : WrG w (.slice (some ⟨nq, 0, none⟩) g.nodes.length nc) (.slice ua 32 uc) (.slice (some ⟨rb, 0, none⟩) 32 rc) (.slice (some ⟨nq1, 0, none⟩) g.nodes.length nc1) (.slice ua1 32 uc1) (.slice (some ⟨rb1, 0, none⟩) 32 rc1) 3 x y z p B rb rb1 n g V false U := by have h : WrG w (.slice (some ⟨nq, 0, none⟩) g.nodes.length nc) (.slice ua 32 uc) (.slice (some ⟨rb, 0, none⟩) 32 rc) (.slice (some ⟨nq1, 0, none⟩) g.nodes.length nc1) (.slice ua1 32 uc1) (.slice (some ⟨rb1, 0, none⟩) 32 rc1) 3 x y z p B rb rb1 n g V (L 16) U := hG; rw [hL] at h; exact h
              obtain ⟨hGG, hgw, hgs⟩ := hG0.st
              have HG0 := Lib.hid hG0
              have HGW := Lib.hid hgw
              obtain ⟨g0, g1, g2, o0, o1, o2, o3, p0, p1, p2⟩ := hGG.cells
              obtain ⟨s0, s1, s2, s3, s4⟩ := hGG.sizes
              have HGG := Lib.hid hGG
              clear hG hG0 hGG hgw
              have eu : upd L 12 16 = false := (upd_ne (by decide)).trans hL
              have HXX : Hid (∀ W' : World, WrG w (.slice (some ⟨nq, 0, none⟩) g.nodes.length nc) (.slice ua 32 uc) (.slice (some ⟨rb, 0, none⟩) 32 rc) (.slice (some ⟨nq1, 0, none⟩) g.nodes.length nc1) (.slice ua1 32 uc1) (.slice (some ⟨rb1, 0, none⟩) 32 rc1) 3 x y z p B rb rb1 n g V false W' → WrG w (.slice (some ⟨nq, 0, none⟩) g.nodes.length nc) (.slice ua 32 uc) (.slice (some ⟨rb, 0, none⟩) 32 rc) (.slice (some ⟨nq1, 0, none⟩) g.nodes.length nc1) (.slice ua1 32 uc1) (.slice (some ⟨rb1, 0, none⟩) 32 rc1) 3 x y z p B rb rb1 n g V (upd L 12 16) W') := Lib.hid (fun W' h => by rw [eu]; exact h)
              clear eu
              have t3 : t[3]? = some (.pointer (some ⟨w.heap.size + 1, 0, none⟩)) := hout 3 (by kernel_rfl)
              clear hout hdep hun hdn hsz hL
              go_simp
              exact hK.out (.pointer (some ⟨w.heap.size + 1, 3, none⟩)) _ (HXX.out _ HG0.out) trivial (put_here HS.out)
            refine RSteps2.cons (RStep2.mk rfl rfl fun t U hsz hout L hun hdn hG hdep K hK => ?_) ?_
            · have HS : Hid (286 < t.size) := Lib.hid (by rw [show t.size = 324 from hsz]; decide)
              have hL : L 16 = false := hdn 16 (by kernel_rfl)
              have hG0 : WrG w (.slice (some ⟨nq, 0, none⟩) g.nodes.length nc) (.slice ua 32 uc) (.slice (some ⟨rb, 0, none⟩) 32 rc) (.slice (some ⟨nq1, 0, none⟩) g.nodes.length nc1) (.slice ua1 32 uc1) (.slice (some ⟨rb1, 0, none⟩) 32 rc1) 3 x y z p B rb rb1 n g V false U := by have h : WrG w (.slice (some ⟨nq, 0, none⟩) g.nodes.length nc) (.slice ua 32 uc) (.slice (some ⟨rb, 0, none⟩) 32 rc) (.slice (some ⟨nq1, 0, none⟩) g.nodes.length nc1) (.slice ua1 32 uc1) (.slice (some ⟨rb1, 0, none⟩) 32 rc1) 3 x y z p B rb rb1 n g V (L 16) U := hG; rw [hL] at h; exact h
              obtain ⟨hGG, hgw, hgs⟩ := hG0.st
              have HG0 := Lib.hid hG0
              have HGW := Lib.hid hgw
              obtain ⟨g0, g1, g2, o0, o1, o2, o3, p0, p1, p2⟩ := hGG.cells
              obtain ⟨s0, s1, s2, s3, s4⟩ := hGG.sizes
              have HGG := Lib.hid hGG
              clear hG hG0 hGG hgw
              have eu : upd L 13 16 = false := (upd_ne (by decide)).trans hL
              have HXX : Hid (∀ W' : World, WrG w (.slice (some ⟨nq, 0, none⟩) g.nodes.length nc) (.slice ua 32 uc) (.slice (some ⟨rb, 0, none⟩) 32 rc) (.slice (some ⟨nq1, 0, none⟩) g.nodes.length nc1) (.slice ua1 32 uc1) (.slice (some ⟨rb1, 0, none⟩) 32 rc1) 3 x y z p B rb rb1 n g V false W' → WrG w (.slice (some ⟨nq, 0, none⟩) g.nodes.length nc) (.slice ua 32 uc) (.slice (some ⟨rb, 0, none⟩) 32 rc) (.slice (some ⟨nq1, 0, none⟩) g.nodes.length nc1) (.slice ua1 32 uc1) (.slice (some ⟨rb1, 0, none⟩) 32 rc1) 3 x y z p B rb rb1 n g V (upd L 13 16) W') := Lib.hid (fun W' h => by rw [eu]; exact h)
              clear eu
              have t285 : t[285]? = some (.pointer (some ⟨w.heap.size + 1, 3, none⟩)) := hdep 12 (by kernel_rfl)
              clear hout hdep hun hdn hsz hL
              go_simp
              exact hK.out (.int .i64 z) _ (HXX.out _ HG0.out) trivial (put_here HS.out)
            refine RSteps2.cons (RStep2.mk rfl rfl fun t U hsz hout L hun hdn hG hdep K hK => ?_) ?_
            · have HS : Hid (287 < t.size) := Lib.hid (by rw [show t.size = 324 from hsz]; decide)
              have hL : L 16 = false := hdn 16 (by kernel_rfl)
              have hG0 : WrG w (.slice (some ⟨nq, 0, none⟩) g.nodes.length nc) (.slice ua 32 uc) (.slice (some ⟨rb, 0, none⟩) 32 rc) (.slice (some ⟨nq1, 0, none⟩) g.nodes.length nc1) (.slice ua1 32 uc1) (.slice (some ⟨rb1, 0, none⟩) 32 rc1) 3 x y z p B rb rb1 n g V false U := by have h : WrG w (.slice (some ⟨nq, 0, none⟩) g.nodes.length nc) (.slice ua 32 uc) (.slice (some ⟨rb, 0, none⟩) 32 rc) (.slice (some ⟨nq1, 0, none⟩) g.nodes.length nc1) (.slice ua1 32 uc1) (.slice (some ⟨rb1, 0, none⟩) 32 rc1) 3 x y z p B rb rb1 n g V (L 16) U := hG; rw [hL] at h; exact h
              obtain ⟨hGG, hgw, hgs⟩ := hG0.st
              have HG0 := Lib.hid hG0
              have HGW := Lib.hid hgw
              obtain ⟨g0, g1, g2, o0, o1, o2, o3, p0, p1, p2⟩ := hGG.cells
              obtain ⟨s0, s1, s2, s3, s4⟩ := hGG.sizes
              have HGG := Lib.hid hGG
              clear hG hG0 hGG hgw
              have eu : upd L 14 16 = false := (upd_ne (by decide)).trans hL
              have HXX : Hid (∀ W' : World, WrG w (.slice (some ⟨nq, 0, none⟩) g.nodes.length nc) (.slice ua 32 uc) (.slice (some ⟨rb, 0, none⟩) 32 rc) (.slice (some ⟨nq1, 0, none⟩) g.nodes.length nc1) (.slice ua1 32 uc1) (.slice (some ⟨rb1, 0, none⟩) 32 rc1) 3 x y z p B rb rb1 n g V false W' → WrG w (.slice (some ⟨nq, 0, none⟩) g.nodes.length nc) (.slice ua 32 uc) (.slice (some ⟨rb, 0, none⟩) 32 rc) (.slice (some ⟨nq1, 0, none⟩) g.nodes.length nc1) (.slice ua1 32 uc1) (.slice (some ⟨rb1, 0, none⟩) 32 rc1) 3 x y z p B rb rb1 n g V (upd L 14 16) W') := Lib.hid (fun W' h => by rw [eu]; exact h)
              clear eu
              have t284 : t[284]? = some (.agg #[.slice (some ⟨nq, 0, none⟩) g.nodes.length nc, .slice ua 32 uc, .slice (some ⟨rb, 0, none⟩) 32 rc]) := hdep 11 (by kernel_rfl)
              have t286 : t[286]? = some (.int .i64 z) := hdep 13 (by kernel_rfl)
              clear hout hdep hun hdn hsz hL g0 g1 g2 o0 o1 o2 o3 p0 p1 p2
              go_simp
              refine (node_any _ B rb _ _ _ g HGG.out.ins HOK.out.rl z rz HRZ.out).mono ?_
              rintro e w3 ⟨rfl, hb3⟩
              go_simp
              exact hK.out (.int .i64 rz) _ (HXX.out _ (HG0.out.keep hb3)) trivial (put_here HS.out)
            refine RSteps2.cons (RStep2.mk rfl rfl fun t U hsz hout L hun hdn hG hdep K hK => ?_) ?_
            · have HS : Hid (288 < t.size) := Lib.hid (by rw [show t.size = 324 from hsz]; decide)
              have hL : L 16 = false := hdn 16 (by kernel_rfl)
              have hG0 : WrG w (.slice (some ⟨nq, 0, none⟩) g.nodes.length nc) (.slice ua 32 uc) (.slice (some ⟨rb, 0, none⟩) 32 rc) (.slice (some ⟨nq1, 0, none⟩) g.nodes.length nc1) (.slice ua1 32 uc1) (.slice (some ⟨rb1, 0, none⟩) 32 rc1) 3 x y z p B rb rb1 n g V false U := by have h : WrG w (.slice (some ⟨nq, 0, none⟩) g.nodes.length nc) (.slice ua 32 uc) (.slice (some ⟨rb, 0, none⟩) 32 rc) (.slice (some ⟨nq1, 0, none⟩) g.nodes.length nc1) (.slice ua1 32 uc1) (.slice (some ⟨rb1, 0, none⟩) 32 rc1) 3 x y z p B rb rb1 n g V (L 16) U := hG; rw [hL] at h; exact h
              obtain ⟨hGG, hgw, hgs⟩ := hG0.st
              have HG0 := Lib.hid hG0
              have HGW := Lib.hid hgw
              obtain ⟨g0, g1, g2, o0, o1, o2, o3, p0, p1, p2⟩ := hGG.cells
              obtain ⟨s0, s1, s2, s3, s4⟩ := hGG.sizes
              have HGG := Lib.hid hGG
              clear hG hG0 hGG hgw
              have eu : upd L 15 16 = false := (upd_ne (by decide)).trans hL
              have HXX : Hid (∀ W' : World, WrG w (.slice (some ⟨nq, 0, none⟩) g.nodes.length nc) (.slice ua 32 uc) (.slice (some ⟨rb, 0, none⟩) 32 rc) (.slice (some ⟨nq1, 0, none⟩) g.nodes.length nc1) (.slice ua1 32 uc1) (.slice (some ⟨rb1, 0, none⟩) 32 rc1) 3 x y z p B rb rb1 n g V false W' → WrG w (.slice (some ⟨nq, 0, none⟩) g.nodes.length nc) (.slice ua 32 uc) (.slice (some ⟨rb, 0, none⟩) 32 rc) (.slice (some ⟨nq1, 0, none⟩) g.nodes.length nc1) (.slice ua1 32 uc1) (.slice (some ⟨rb1, 0, none⟩) 32 rc1) 3 x y z p B rb rb1 n g V (upd L 15 16) W') := Lib.hid (fun W' h => by rw [eu]; exact h)
              clear eu
              have t281 : t[281]? = some (.slice (some ⟨rq1, 0, none⟩) ml ryac) := hdep 8 (by kernel_rfl)
              have t283 : t[283]? = some (.int .i64 y) := hdep 10 (by kernel_rfl)
              have hyk := HYK.out
              have hyk1 := HYL.out
              clear hout hdep hun hdn hsz hL
              go_simp
              exact hK.out (.pointer (some ⟨rq1, yk, none⟩)) _ (HXX.out _ HG0.out) trivial (put_here HS.out)
            refine RSteps2.cons (RStep2.mk rfl rfl fun t U hsz hout L hun hdn hG hdep K hK => ?_) ?_
            · skip
              have hL : L 16 = false := hun
              have hG0 : WrG w (.slice (some ⟨nq, 0, none⟩) g.nodes.length nc) (.slice ua 32 uc) (.slice (some ⟨rb, 0, none⟩) 32 rc) (.slice (some ⟨nq1, 0, none⟩) g.nodes.length nc1) (.slice ua1 32 uc1) (.slice (some ⟨rb1, 0, none⟩) 32 rc1) 3 x y z p B rb rb1 n g V false U := by have h : WrG w (.slice (some ⟨nq, 0, none⟩) g.nodes.length nc) (.slice ua 32 uc) (.slice (some ⟨rb, 0, none⟩) 32 rc) (.slice (some ⟨nq1, 0, none⟩) g.nodes.length nc1) (.slice ua1 32 uc1) (.slice (some ⟨rb1, 0, none⟩) 32 rc1) 3 x y z p B rb rb1 n g V (L 16) U := hG; rw [hL] at h; exact h
              obtain ⟨hGG, hgw, hgs⟩ := hG0.st
              have HG0 := Lib.hid hG0
              have HGW := Lib.hid hgw
              obtain ⟨g0, g1, g2, o0, o1, o2, o3, p0, p1, p2⟩ := hGG.cells
              obtain ⟨s0, s1, s2, s3, s4⟩ := hGG.sizes
              have HGG := Lib.hid hGG
              clear hG hG0 hGG hgw
              have t288 : t[288]? = some (.pointer (some ⟨rq1, yk, none⟩)) := hdep 15 (by kernel_rfl)
              have t287 : t[287]? = some (.int .i64 rz) := hdep 14 (by kernel_rfl)
              have hbU : U.heap[rq1]? = some (.cells dcs 3 (0, 0)) := by rw [HGW.out rq1 hdq2]; exact HDB.out
              have cy : U.cell? ⟨rq1, yk, none⟩ = some (.int .i64 dv) := (World.cell?_of_block (HGW.out rq1 hdq2)).trans HDQ.out
              have fy : U.frozen? ⟨rq1, yk, none⟩ = false := frozen_block hbU
              have hdqs : rq1 < U.heap.size := by omega
              have HBU := Lib.hid hbU
              have HX : Hid ((fun L => WrG w (.slice (some ⟨nq, 0, none⟩) g.nodes.length nc) (.slice ua 32 uc) (.slice (some ⟨rb, 0, none⟩) 32 rc) (.slice (some ⟨nq1, 0, none⟩) g.nodes.length nc1) (.slice ua1 32 uc1) (.slice (some ⟨rb1, 0, none⟩) 32 rc1) 3 x y z p B rb rb1 n g V (L 16)) (upd L 16) (U.setCell ⟨rq1, yk, none⟩ (.int .i64 rz))) := Lib.hid (by have e : upd L 16 16 = true := (by simp [upd]); show WrG w (.slice (some ⟨nq, 0, none⟩) g.nodes.length nc) (.slice ua 32 uc) (.slice (some ⟨rb, 0, none⟩) 32 rc) (.slice (some ⟨nq1, 0, none⟩) g.nodes.length nc1) (.slice ua1 32 uc1) (.slice (some ⟨rb1, 0, none⟩) 32 rc1) 3 x y z p B rb rb1 n g V (upd L 16 16) _; rw [e]; exact HG0.out.refs HGM.out HBU.out (by omega) HNB.out rz HRB.out)
              clear hbU hout hdep hun hdn hsz hL g0 g1 g2 o0 o1 o2 o3 p0 p1 p2
              go_simp
              exact hK.out undef _ HX.out trivial trivial
            exact RSteps2.nil (by decide)
          · intro a' U hR
            have hG : WrG w (.slice (some ⟨nq, 0, none⟩) g.nodes.length nc) (.slice ua 32 uc) (.slice (some ⟨rb, 0, none⟩) 32 rc) (.slice (some ⟨nq1, 0, none⟩) g.nodes.length nc1) (.slice ua1 32 uc1) (.slice (some ⟨rb1, 0, none⟩) 32 rc1) 3 x y z p B rb rb1 n g V true U := by have h := hR.g; exact h
            obtain ⟨f, rfl, hf⟩ := hR.frameS rfl [273, 274, 275, 276, 277, 278, 279, 280, 281, 282, 283, 284, 285, 286, 287, 288] (by intro k hk; simp at hk; simp [writes]; omega)
            clear hR hf
            simp only [setAll, List.map_cons, List.map_nil, List.set_cons_succ, List.set_cons_zero]
            generalize f 273 = v273
            generalize f 274 = v274
            generalize f 275 = v275
            generalize f 276 = v276
            generalize f 277 = v277
            generalize f 278 = v278
            generalize f 279 = v279
            generalize f 280 = v280
            generalize f 281 = v281
            generalize f 282 = v282
            generalize f 283 = v283
            generalize f 284 = v284
            generalize f 285 = v285
            generalize f 286 = v286
            generalize f 287 = v287
            generalize f 288 = v288
            clear f
            obtain ⟨g', hg', hok', _⟩ := hG
            have HG2 := Lib.hid hg'
            have HOK2 := Lib.hid hok'
            clear hg' hok'
            obtain ⟨g0, g1, g2, o0, o1, o2, o3, p0, p1, p2⟩ := HG2.out.cells
            obtain ⟨s0, s1, s2, s3, s4⟩ := HG2.out.sizes
            obtain ⟨z0, z1, z2, hbb2⟩ := HG2.out.b2
            obtain ⟨y0, y1, hbb3⟩ := HG2.out.b3
            have c0 : U.cell? ⟨w.heap.size + 1 + 1, 0, none⟩ = some z0 := by rw [cell_block hbb2]; rfl
            have c1 : U.cell? ⟨w.heap.size + 1 + 1, 1, none⟩ = some z1 := by rw [cell_block hbb2]; rfl
            have c2 : U.cell? ⟨w.heap.size + 1 + 1, 2, none⟩ = some z2 := by rw [cell_block hbb2]; rfl
            have f0 : U.frozen? ⟨w.heap.size + 1 + 1, 0, none⟩ = false := frozen_block hbb2
            have f1 : U.frozen? ⟨w.heap.size + 1 + 1, 1, none⟩ = false := frozen_block hbb2
            have f2 : U.frozen? ⟨w.heap.size + 1 + 1, 2, none⟩ = false := frozen_block hbb2
            have c3 : U.cell? ⟨w.heap.size + 1 + 1 + 1, 0, none⟩ = some y0 := by rw [cell_block hbb3]; rfl
            have c4 : U.cell? ⟨w.heap.size + 1 + 1 + 1, 1, none⟩ = some y1 := by rw [cell_block hbb3]; rfl
            have f3 : U.frozen? ⟨w.heap.size + 1 + 1 + 1, 0, none⟩ = false := frozen_block hbb3
            have f4 : U.frozen? ⟨w.heap.size + 1 + 1 + 1, 1, none⟩ = false := frozen_block hbb3
            have HB2 := Lib.hid hbb2
            have HB3 := Lib.hid hbb3
            clear hbb2 hbb3
            go_wp2
            exact do_ret (a1 := 0) HG2.out.bel HB2.out HB3.out (HG2.out.out.base (by have := HBW.out; omega)) (HOK2.out.more (by omega)) rfl rfl rfl
        · have hrb : (rz3 != 0) = true := by simpa using hr0
          have hrc : (rz3 == 0) = false := by simpa using hr0
          clear hr0
          go_wp2_with fail
          refine (fail_any _ _ _ _ ⟨_, _, _, rfl⟩ ⟨_, _, _, rfl⟩ ⟨_, _, _, rfl⟩ rz3).mono ?_
          rintro e wf ⟨rfl, hbf⟩
          have HF := Lib.hid (HG.out.keep hbf)
          clear hbf g0 g1 g2 o0 o1 o2 o3 p0 p1 p2 s0 s1 s2 s3 s4
          obtain ⟨g0, g1, g2, o0, o1, o2, o3, p0, p1, p2⟩ := HF.out.cells
          obtain ⟨s0, s1, s2, s3, s4⟩ := HF.out.sizes
          obtain ⟨z0, z1, z2, hbb2⟩ := HF.out.b2
          obtain ⟨y0, y1, hbb3⟩ := HF.out.b3
          have c0 : wf.cell? ⟨w.heap.size + 1 + 1, 0, none⟩ = some z0 := by rw [cell_block hbb2]; rfl
          have c1 : wf.cell? ⟨w.heap.size + 1 + 1, 1, none⟩ = some z1 := by rw [cell_block hbb2]; rfl
          have c2 : wf.cell? ⟨w.heap.size + 1 + 1, 2, none⟩ = some z2 := by rw [cell_block hbb2]; rfl
          have f0 : wf.frozen? ⟨w.heap.size + 1 + 1, 0, none⟩ = false := frozen_block hbb2
          have f1 : wf.frozen? ⟨w.heap.size + 1 + 1, 1, none⟩ = false := frozen_block hbb2
          have f2 : wf.frozen? ⟨w.heap.size + 1 + 1, 2, none⟩ = false := frozen_block hbb2
          have c3 : wf.cell? ⟨w.heap.size + 1 + 1 + 1, 0, none⟩ = some y0 := by rw [cell_block hbb3]; rfl
          have c4 : wf.cell? ⟨w.heap.size + 1 + 1 + 1, 1, none⟩ = some y1 := by rw [cell_block hbb3]; rfl
          have f3 : wf.frozen? ⟨w.heap.size + 1 + 1 + 1, 0, none⟩ = false := frozen_block hbb3
          have f4 : wf.frozen? ⟨w.heap.size + 1 + 1 + 1, 1, none⟩ = false := frozen_block hbb3
          have HB2 := Lib.hid hbb2
          have HB3 := Lib.hid hbb3
          clear hbb2 hbb3
          go_wp2
          exact do_ret (a1 := rz3) HF.out.bel HB2.out HB3.out HF.out.ins (HOK.out.more (by omega)) rfl rfl rfl
  · have hrb2 : (r2 != 0) = true := by simpa using hr2
    have hrc2 : (r2 == 0) = false := by simpa using hr2
    clear hr2
    have hs6 := ST2.out.s6
    have hs3 := ST2.out.s3
    have hhp := ST2.out.hp
    have hs0 : w.heap.size < w2.heap.size := (by omega)
    have hs01 : w.heap.size + 1 < w2.heap.size := (by omega)
    have hs02 : w.heap.size + 1 + 1 < w2.heap.size := (by omega)
    have g0c := ST2.out.g0
    have g1c := ST2.out.g1
    have g2c := ST2.out.g2
    have o0c := ST2.out.o0
    have o1c := ST2.out.o1
    have o2c := ST2.out.o2
    have o3c := ST2.out.o3
    go_wp2_with fail
    refine (fail_any _ _ _ _ ⟨_, _, _, rfl⟩ ⟨_, _, _, rfl⟩ ⟨_, _, _, rfl⟩ r2).mono ?_
    rintro e wf ⟨rfl, hbf⟩
    have STF := Lib.hid (ST2.out.keep hbf)
    clear hbf hs6 hs3 hs0 hs01 hs02 g0c g1c g2c o0c o1c o2c o3c
    have hs6 := STF.out.s6
    have hs3 := STF.out.s3
    have hhp := STF.out.hp
    have hs0 : w.heap.size < wf.heap.size := (by omega)
    have hs01 : w.heap.size + 1 < wf.heap.size := (by omega)
    have hs02 : w.heap.size + 1 + 1 < wf.heap.size := (by omega)
    obtain ⟨r0c, fr0⟩ := STF.out.r0
    obtain ⟨r1c, fr1⟩ := STF.out.r1
    obtain ⟨r2c, fr2⟩ := STF.out.r2
    obtain ⟨q0c, fq0⟩ := STF.out.q0
    obtain ⟨q1c, fq1⟩ := STF.out.q1
    go_wp2
    exact do_ret (a1 := r2) (a2 := 0) STF.out.bel STF.out.b2 STF.out.b3 (HGM.out.below STF.out.bel) (HOK.out.more (by omega)) rfl rfl rfl
end Go.Proofs.Ytadoehlhfccacaa
