/- The reference model's Do: the operations of code 4: it returns a valid graph of one node more at most. Condition: a valid graph of at most 900 nodes in memory, operands from 0 to 255. -/
import Derived.Test.YtadoehlhfccacaaReg5
import Derived.Test.YtadoehlhfccacaaDoN
namespace Go.Proofs.Ytadoehlhfccacaa
open Go.RowKit
set_option linter.unusedVariables false

def DtF (b2 p : Nat) (agin agout : Value) (o0 o1 o2 : Value) (xx yy zz : Int) (pb : Nat) (vxb : Value) (dq yk : Nat) : Nat → Act → World → Prop
  | 0, a, _ => a.tmps[233]? = some agout
  | 1, a, _ => a.tmps[234]? = some (.pointer (some ⟨pb, 1, none⟩))
  | 2, a, _ => a.tmps[235]? = some vxb
  | 3, a, _ => a.tmps[236]? = some (.pointer (some ⟨b2 - 1, 2, none⟩))
  | 4, a, _ => a.tmps[237]? = some (.int .i64 yy)
  | 5, a, _ => a.tmps[238]? = some (.pointer (some ⟨dq, yk, none⟩))
  | 6, a, _ => ∃ q : Int, a.tmps[239]? = some (.int .u64 q)
  | 7, a, _ => ∃ q : Int, a.tmps[240]? = some (.agg #[.int .i64 0, .int .u64 q])
  | 8, _, W => W.heap[b2]? = some (.cells #[o0, o1, o2] 45 (0, 0))
  | 9, _, W => ∃ u : Int, W.heap[b2 + 1]? = some (.cells #[.int .i64 0, .int .u64 u] 53 (0, 0))
  | _, _, _ => True
def DtLoc : Nat → List Nat | 0 => [233] | 1 => [234] | 2 => [235] | 3 => [236] | 4 => [237] | 5 => [238] | 6 => [239] | 7 => [240] | _ => []
theorem DtF.loc (b2 p : Nat) (agin agout : Value) (o0 o1 o2 : Value) (xx yy zz : Int) (pb : Nat) (vxb : Value) (dq yk : Nat) : ∀ j a d v w, d ∉ DtLoc j → DtF b2 p agin agout o0 o1 o2 xx yy zz pb vxb dq yk j a w → DtF b2 p agin agout o0 o1 o2 xx yy zz pb vxb dq yk j (a.put (some d) v) w := by
  intro j a d v w hd h
  match j with
  | 0 | 1 | 2 | 3 | 4 | 5 | 6 | 7 =>
    simp only [DtLoc, List.mem_singleton] at hd
    simp only [DtF] at h ⊢
    rw [put_same hd]
    exact h
  | 8 | 9 => exact h
  | _ + 10 => trivial
theorem DtF.stab (b2 p : Nat) (agin agout : Value) (o0 o1 o2 : Value) (xx yy zz : Int) (pb : Nat) (vxb : Value) (dq yk : Nat) : ∀ i j a W W', i ≠ j → DrE b2 8 9 i W W' → DtF b2 p agin agout o0 o1 o2 xx yy zz pb vxb dq yk j a W → DtF b2 p agin agout o0 o1 o2 xx yy zz pb vxb dq yk j a W' := by
  intro i j a W W' hij he h
  match j with
  | 0 | 1 | 2 | 3 | 4 | 5 | 6 | 7 => exact h
  | 8 => exact he.blk h (fun e => absurd e hij) (fun _ => by omega)
  | 9 => obtain ⟨u, h⟩ := h; exact ⟨u, he.blk h (fun _ => by omega) (fun e => absurd e hij)⟩
  | _ + 10 => trivial
set_option maxRecDepth 100000 in
set_option maxHeartbeats 8000000 in
theorem do_c4 (w : World) (B rb : Nat) (hB : B ≤ w.heap.size) (nv uv rv : Value) (g : Gr) (hg : GrM w B rb nv uv rv g) (n : Nat) (hok : GrOk n g) (hn : n ≤ 900) (x y z : Int) (hx : 0 ≤ x ∧ x ≤ 255) (hy : 0 ≤ y ∧ y ≤ 255) (hz : 0 ≤ z ∧ z ≤ 255) :
    Calls Try.prog 22 #[.agg #[nv, uv, rv], .agg #[.int .i64 4, .int .i64 x, .int .i64 y, .int .i64 z]] w (DoPost w B n) := by
  have HOK := Lib.hid hok
  have HBW := Lib.hid hB
  obtain ⟨na, nc, ua, uc, rc, rfl, rfl, rfl⟩ := hg.forms
  rw [hok.ul, hok.rl] at hg ⊢
  have HGM := Lib.hid hg
  have hnl : g.nodes.length ≤ 900 := Nat.le_trans hok.nl hn
  obtain ⟨hx0, hx1⟩ := hx
  obtain ⟨hy0, hy1⟩ := hy
  obtain ⟨hz0, hz1⟩ := hz
  clear hg hok
  go_enter Try.func22, Try.ntmps22
  go_wp2_with fail
  refine (gcopy_any _ B rb _ _ _ g (HGM.out.below (by repeat (first | exact Below.refl _ _ | refine Below.alloc ?_ (by first | exact Nat.le_refl _ | (simp; done) | (simp; omega)) _))) n HOK.out (by omega)).mono ?_
  rintro e w1 ⟨rb1, nv1, uv1, rv1, rfl, hm1, hb1⟩
  have hul := HOK.out.ul
  have hrl := HOK.out.rl
  obtain ⟨na1, nc1, ua1, uc1, rc1, rfl, rfl, rfl⟩ := hm1.forms
  rw [hul, hrl] at hm1
  rw [hul, hrl]
  clear hul hrl
  have st0 : DoSt w (.slice na g.nodes.length nc) (.slice ua 32 uc) (.slice (some ⟨rb, 0, none⟩) 32 rc) (.slice na1 g.nodes.length nc1) (.slice ua1 32 uc1) (.slice (some ⟨rb1, 0, none⟩) 32 rc1) 4 x y z w1.heap.size (w1.alloc (.cells #[.slice na1 g.nodes.length nc1, .slice ua1 32 uc1, .slice (some ⟨rb1, 0, none⟩) 32 rc1] 45)) := by
    have hb0 : Below w.heap.size w w1 := by
      refine Below.trans ?_ (hb1.mono (by simp; omega))
      exact (by repeat (first | exact Below.refl _ _ | refine Below.alloc ?_ (by first | exact Nat.le_refl _ | (simp; done) | (simp; omega)) _))
    have h4 : ∀ {b o}, b < w.heap.size + 1 + 1 + 1 + 1 → ((((w.alloc (.cells #[.slice na g.nodes.length nc, .slice ua 32 uc, .slice (some ⟨rb, 0, none⟩) 32 rc] 45)).alloc (.cells #[.int .i64 4, .int .i64 x, .int .i64 y, .int .i64 z] 35)).alloc (.cells #[.slice none 0 0, .slice none 0 0, .slice none 0 0] 45)).alloc (.cells #[.int .i64 0, .int .u64 0] 53)).heap[b]? = some o → w1.heap[b]? = some o := fun hb e => below_block hb1 (by simpa using hb) e
    refine ⟨hb0.alloc hb0.size _, alloc_block (h4 (by omega) (alloc_block (alloc_block (alloc_block (heap_alloc_new _ _))))), alloc_block (h4 (by omega) (alloc_block (alloc_block (heap_alloc_at _ _ _ (by simp))))), alloc_block (h4 (by omega) (alloc_block (heap_alloc_at _ _ _ (by simp)))), alloc_block (h4 (by omega) (heap_alloc_at _ _ _ (by simp))), ?_, heap_alloc_new _ _⟩
    have := hb1.size
    simp at this
    exact this
  have hm1' : GrM (w1.alloc (.cells #[.slice na1 g.nodes.length nc1, .slice ua1 32 uc1, .slice (some ⟨rb1, 0, none⟩) 32 rc1] 45)) (w.heap.size + 1 + 1 + 1 + 1) rb1 (.slice na1 g.nodes.length nc1) (.slice ua1 32 uc1) (.slice (some ⟨rb1, 0, none⟩) 32 rc1) g := (hm1.base (by simp)).keep fun k hk => Below.heap_alloc _ _ _ hk
  have hs1 : w.heap.size + 1 + 1 + 1 + 1 ≤ w1.heap.size := st0.hp
  have MM := Lib.hid hm1'
  have ST := Lib.hid st0
  clear hm1 hm1' hb1 st0
  go_upto_region 2 with (fail)
  obtain ⟨W, hW⟩ : ∃ W : World, W = (w1.alloc (.cells #[.slice na1 g.nodes.length nc1, .slice ua1 32 uc1, .slice (some ⟨rb1, 0, none⟩) 32 rc1] 45)) := ⟨_, rfl⟩
  rw [← hW] at MM ST ⊢
  generalize w1.heap.size = p at *
  clear hW
  have hs6 := ST.out.s6
  have hs3 := ST.out.s3
  have hhp := ST.out.hp
  have hs0 : w.heap.size < W.heap.size := (by omega)
  have hs01 : w.heap.size + 1 < W.heap.size := (by omega)
  have hs02 : w.heap.size + 1 + 1 < W.heap.size := (by omega)
  have g0c := ST.out.g0
  have g1c := ST.out.g1
  have g2c := ST.out.g2
  have o0c := ST.out.o0
  have o1c := ST.out.o1
  have o2c := ST.out.o2
  have o3c := ST.out.o3
  go_wp2_with fail
  refine (handle_any _ B rb _ _ _ g (HGM.out.below ST.out.bel) HOK.out.ul x true (by omega) (by omega)).mono ?_
  rintro e w2 ⟨r2, rfl, hh2, hb2⟩
  have ST2 := Lib.hid (ST.out.keep hb2)
  have MM2 := Lib.hid (MM.out.below hb2)
  have HH2 := Lib.hid hh2
  clear hb2 hh2 hs6 hs3 hs0 hs01 hs02 g0c g1c g2c o0c o1c o2c o3c
  by_cases hr2 : r2 = 0
  · subst hr2
    have hs6 := ST2.out.s6
    have hs3 := ST2.out.s3
    have hhp := ST2.out.hp
    have hs0 : w.heap.size < w2.heap.size := (by omega)
    have hs01 : w.heap.size + 1 < w2.heap.size := (by omega)
    have hs02 : w.heap.size + 1 + 1 < w2.heap.size := (by omega)
    have g0c := ST2.out.g0
    have g1c := ST2.out.g1
    have g2c := ST2.out.g2
    have o0c := ST2.out.o0
    have o1c := ST2.out.o1
    have o2c := ST2.out.o2
    have o3c := ST2.out.o3
    obtain ⟨h, _⟩ | ⟨hx2, hx3, hus⟩ := HH2.out rfl
    · rename_i h2; cases h2
    obtain ⟨hri1, hri2⟩ := HOK.out.root _ hus
    clear hus
    have HRI : Hid (g.roots.getD (x - 1).toNat 0 = g.roots.getD (x - 1).toNat 0) := Lib.hid rfl
    obtain ⟨ri, hri⟩ := Int.eq_ofNat_of_zero_le hri1
    have HR := Lib.hid hri
    rw [hri] at hri2
    clear hri hri1 HRI
    have hrl : ri < g.nodes.length := by omega
    obtain ⟨nq, xa, xb, rfl, hq1, hq2, hqc0, hqc1, hxa, hxb⟩ := HGM.out.node_at hrl
    have HND := Lib.hid (HOK.out.node g.nodes[ri] (List.getElem_mem hrl))
    obtain ⟨ra, rac, rfl⟩ := own_form hxa
    obtain ⟨da, dac, rfl⟩ := own_form hxb
    generalize hnd : g.nodes[ri] = nd at *
    have HNE := Lib.hid hnd
    clear hnd
    generalize hml : nd.refs.length = ml at *
    generalize hdl : nd.data.length = dl at *
    have HML := Lib.hid hml
    have HDL := Lib.hid hdl
    clear hml hdl
    have HXA := Lib.hid hxa
    have HXB := Lib.hid hxb
    have HQ0 := Lib.hid hqc0
    have HQ1 := Lib.hid hqc1
    clear hxa hxb hqc0 hqc1
    go_wp2_with fail
    refine wp_region_facts2 (by kernel_rfl) (fun _ => DrG w (.slice (some ⟨nq, 0, none⟩) g.nodes.length nc) (.slice ua 32 uc) (.slice (some ⟨rb, 0, none⟩) 32 rc) (.slice na1 g.nodes.length nc1) (.slice ua1 32 uc1) (.slice (some ⟨rb1, 0, none⟩) 32 rc1) 4 x y z p B rb rb1 g g) DnE (DnF (w.heap.size + 1 + 1 + 1 + 1) nq ri w.heap.size x (.slice (some ⟨nq, 0, none⟩) g.nodes.length nc) (.slice na1 g.nodes.length nc1) (.agg #[.slice (some ⟨nq, 0, none⟩) g.nodes.length nc, .slice ua 32 uc, .slice (some ⟨rb, 0, none⟩) 32 rc]) (.slice ra ml rac) (.slice da dl dac)) dnLoc (by kernel_rfl) (by kernel_rfl) (by kernel_rfl) (DnF.loc _ _ _ _ _ _ _ _ _ _) (fun i j a W W' h _ => DnF.stab _ _ _ _ _ _ _ _ _ _ i j a W W' h) ?_ ?_ ?_
    · exact (DrG.of ST2.out (HGM.out.below ST2.out.bel) MM2.out).keep ((Below.refl _ _).drew)
    · skip
      refine RSteps2.cons (RStep2.mk rfl rfl fun t V hsz hout L hun hdn hG hdep K hK => ?_) ?_
      · have HS : Hid (163 < t.size) := Lib.hid (by rw [show t.size = 324 from hsz]; decide)
        obtain ⟨g0, g1, g2, o0, o1, o2, o3, p0, p1, p2⟩ := hG.cells
        obtain ⟨s0, s1, s2, s3, s4⟩ := hG.sizes
        have t2 : t[2]? = some (.pointer (some ⟨w.heap.size, 0, none⟩)) := hout 2 (by kernel_rfl)
        clear hout hdep hun hdn hsz
        go_simp
        exact hK.out _ _ hG ⟨Gn.of_gw (Nat.le_refl _) (Gw.refl _), fun _ => Gw.refl _⟩ (put_here HS.out)
      refine RSteps2.cons (RStep2.mk rfl rfl fun t V hsz hout L hun hdn hG hdep K hK => ?_) ?_
      · have HS : Hid (164 < t.size) := Lib.hid (by rw [show t.size = 324 from hsz]; decide)
        obtain ⟨g0, g1, g2, o0, o1, o2, o3, p0, p1, p2⟩ := hG.cells
        obtain ⟨s0, s1, s2, s3, s4⟩ := hG.sizes
        have t163 : t[163]? = some (.pointer (some ⟨w.heap.size, 0, none⟩)) := hdep 0 (by kernel_rfl)
        clear hout hdep hun hdn hsz
        go_simp
        exact hK.out _ _ hG ⟨Gn.of_gw (Nat.le_refl _) (Gw.refl _), fun _ => Gw.refl _⟩ (put_here HS.out)
      refine RSteps2.cons (RStep2.mk rfl rfl fun t V hsz hout L hun hdn hG hdep K hK => ?_) ?_
      · have HS : Hid (165 < t.size) := Lib.hid (by rw [show t.size = 324 from hsz]; decide)
        obtain ⟨g0, g1, g2, o0, o1, o2, o3, p0, p1, p2⟩ := hG.cells
        obtain ⟨s0, s1, s2, s3, s4⟩ := hG.sizes
        have t2 : t[2]? = some (.pointer (some ⟨w.heap.size, 0, none⟩)) := hout 2 (by kernel_rfl)
        clear hout hdep hun hdn hsz
        go_simp
        exact hK.out _ _ hG ⟨Gn.of_gw (Nat.le_refl _) (Gw.refl _), fun _ => Gw.refl _⟩ (put_here HS.out)
      refine RSteps2.cons (RStep2.mk rfl rfl fun t V hsz hout L hun hdn hG hdep K hK => ?_) ?_
      · have HS : Hid (166 < t.size) := Lib.hid (by rw [show t.size = 324 from hsz]; decide)
        obtain ⟨g0, g1, g2, o0, o1, o2, o3, p0, p1, p2⟩ := hG.cells
        obtain ⟨s0, s1, s2, s3, s4⟩ := hG.sizes
        have t3 : t[3]? = some (.pointer (some ⟨w.heap.size + 1, 0, none⟩)) := hout 3 (by kernel_rfl)
        clear hout hdep hun hdn hsz
        go_simp
        exact hK.out _ _ hG ⟨Gn.of_gw (Nat.le_refl _) (Gw.refl _), fun _ => Gw.refl _⟩ (put_here HS.out)
      refine RSteps2.cons (RStep2.mk rfl rfl fun t V hsz hout L hun hdn hG hdep K hK => ?_) ?_
      · have HS : Hid (167 < t.size) := Lib.hid (by rw [show t.size = 324 from hsz]; decide)
        obtain ⟨g0, g1, g2, o0, o1, o2, o3, p0, p1, p2⟩ := hG.cells
        obtain ⟨s0, s1, s2, s3, s4⟩ := hG.sizes
        have t166 : t[166]? = some (.pointer (some ⟨w.heap.size + 1, 1, none⟩)) := hdep 3 (by kernel_rfl)
        clear hout hdep hun hdn hsz
        go_simp
        exact hK.out _ _ hG ⟨Gn.of_gw (Nat.le_refl _) (Gw.refl _), fun _ => Gw.refl _⟩ (put_here HS.out)
      refine RSteps2.cons (RStep2.mk rfl rfl fun t V hsz hout L hun hdn hG hdep K hK => ?_) ?_
      · have HS : Hid (168 < t.size) := Lib.hid (by rw [show t.size = 324 from hsz]; decide)
        obtain ⟨g0, g1, g2, o0, o1, o2, o3, p0, p1, p2⟩ := hG.cells
        obtain ⟨s0, s1, s2, s3, s4⟩ := hG.sizes
        have t165 : t[165]? = some (.agg #[.slice (some ⟨nq, 0, none⟩) g.nodes.length nc, .slice ua 32 uc, .slice (some ⟨rb, 0, none⟩) 32 rc]) := hdep 2 (by kernel_rfl)
        have t167 : t[167]? = some (.int .i64 x) := hdep 4 (by kernel_rfl)
        clear hout hdep hun hdn hsz g0 g1 g2 o0 o1 o2 o3 p0 p1 p2
        go_simp
        refine (node_any _ B rb _ _ _ g hG.ins HOK.out.rl x ri (.inr ⟨hx2, hx3, HR.out⟩)).mono ?_
        rintro e w3 ⟨rfl, hb3⟩
        go_simp
        exact hK.out _ _ (hG.keep hb3) ⟨Gn.of_gw hb3.size hb3.block, fun _ => hb3.block⟩ (put_here HS.out)
      refine RSteps2.cons (RStep2.mk rfl rfl fun t V hsz hout L hun hdn hG hdep K hK => ?_) ?_
      · have HS : Hid (169 < t.size) := Lib.hid (by rw [show t.size = 324 from hsz]; decide)
        obtain ⟨g0, g1, g2, o0, o1, o2, o3, p0, p1, p2⟩ := hG.cells
        obtain ⟨s0, s1, s2, s3, s4⟩ := hG.sizes
        have t164 : t[164]? = some (.slice (some ⟨nq, 0, none⟩) g.nodes.length nc) := hdep 1 (by kernel_rfl)
        have t168 : t[168]? = some (.int .i64 ri) := hdep 5 (by kernel_rfl)
        have hnq : nq < V.heap.size := by omega
        clear hout hdep hun hdn hsz g0 g1 g2 o0 o1 o2 o3 p0 p1 p2
        go_simp
        exact hK.out _ _ hG ⟨Gn.of_gw (Nat.le_refl _) (Gw.refl _), fun _ => Gw.refl _⟩ (put_here HS.out)
      refine RSteps2.cons (RStep2.mk rfl rfl fun t V hsz hout L hun hdn hG hdep K hK => ?_) ?_
      · have HS : Hid (170 < t.size) := Lib.hid (by rw [show t.size = 324 from hsz]; decide)
        obtain ⟨g0, g1, g2, o0, o1, o2, o3, p0, p1, p2⟩ := hG.cells
        obtain ⟨s0, s1, s2, s3, s4⟩ := hG.sizes
        have t169 : t[169]? = some (.pointer (some ⟨nq, ri * 2, none⟩)) := hdep 6 (by kernel_rfl)
        have x0 : V.cell? ⟨nq, ri * 2, none⟩ = some (.slice ra ml rac) := (hG.bel.cell (p := ⟨nq, ri * 2, none⟩) hq2).trans HQ0.out
        have x1 : V.cell? ⟨nq, ri * 2 + 1, none⟩ = some (.slice da dl dac) := (hG.bel.cell (p := ⟨nq, ri * 2 + 1, none⟩) hq2).trans HQ1.out
        have hnq : nq < V.heap.size := by omega
        clear hout hdep hun hdn hsz g0 g1 g2 o0 o1 o2 o3 p0 p1 p2
        go_simp
        exact hK.out _ _ hG ⟨Gn.of_gw (Nat.le_refl _) (Gw.refl _), fun _ => Gw.refl _⟩ (put_here HS.out)
      refine RSteps2.cons (RStep2.mk rfl rfl fun t V hsz hout L hun hdn hG hdep K hK => ?_) ?_
      · have HS : Hid (13 < t.size) := Lib.hid (by rw [show t.size = 324 from hsz]; decide)
        obtain ⟨g0, g1, g2, o0, o1, o2, o3, p0, p1, p2⟩ := hG.cells
        obtain ⟨s0, s1, s2, s3, s4⟩ := hG.sizes
        have hp := hG.hp
        have hn1 := hG.ins.nodes.ne (b := V.heap.size) (.inr (Nat.le_refl _))
        have hn2 := hG.out.nodes.ne (b := V.heap.size) (.inr (Nat.le_refl _))
        clear hout hdep hun hdn hsz g0 g1 g2 o0 o1 o2 o3 p0 p1 p2
        have N1 := Lib.hid hn1
        have N2 := Lib.hid hn2
        clear hn1 hn2
        go_simp
        exact hK.out _ _ (hG.keep ((Below.refl _ _).alloc (Nat.le_refl _) _)) ⟨Gn.of_gw (by simp) (Gw.alloc _ _), fun _ => Gw.alloc _ _⟩ ⟨_, _, _, put_here HS.out, by omega, N1.out, N2.out, heap_alloc_new _ _⟩
      refine RSteps2.cons (RStep2.mk rfl rfl fun t V hsz hout L hun hdn hG hdep K hK => ?_) ?_
      · skip
        obtain ⟨g0, g1, g2, o0, o1, o2, o3, p0, p1, p2⟩ := hG.cells
        obtain ⟨s0, s1, s2, s3, s4⟩ := hG.sizes
        obtain ⟨b, z0, z1, t13, hbb, hn1, hn2, hk⟩ := hdep 8 (by kernel_rfl)
        have t170 : t[170]? = some (.agg #[(.slice ra ml rac), (.slice da dl dac)]) := hdep 7 (by kernel_rfl)
        have t13' : t[13]? = some (.pointer (some ⟨b, 0, none⟩)) := t13
        have T13 := Lib.hid t13
        have c0 : V.cell? ⟨b, 0, none⟩ = some z0 := by rw [cell_block hk]; rfl
        have c1 : V.cell? ⟨b, 1, none⟩ = some z1 := by rw [cell_block hk]; rfl
        have f0 : V.frozen? ⟨b, 0, none⟩ = false := frozen_block hk
        have f1 : V.frozen? ⟨b, 1, none⟩ = false := frozen_block hk
        have hbl := block_lt hk
        have HB := Lib.hid hk
        have N1 := Lib.hid hn1
        have N2 := Lib.hid hn2
        clear t13 hk hn1 hn2 hout hdep hun hdn hsz g0 g1 g2 o0 o1 o2 o3 p0 p1 p2
        go_simp
        exact hK.out undef _ ((hG.set_node HB.out N1.out N2.out (by omega)).set_node (setCell_block HB.out _) N1.out N2.out (by omega)) ⟨(Gn.set HB.out _).trans (Gn.set (setCell_block HB.out _) _), fun h => absurd rfl h⟩ ⟨b, T13.out, hbb, N1.out, N2.out, set2_block' HB.out _ _⟩
      exact RSteps2.nil (by decide)
    · intro a' V hR
      have hG := hR.g
      obtain ⟨b, t13, hbb, hn1, hn2, hbx⟩ := hR.all (i := 9) (by decide)
      obtain ⟨f, rfl, hf⟩ := hR.frameS rfl [13, 163, 164, 165, 166, 167, 168, 169, 170] (by intro k hk; simp at hk; simp [writes]; omega)
      clear hR
      have hf13 := hf 13 (by simp) (by simp)
      rw [t13] at hf13
      have e13 : f 13 = .pointer (some ⟨b, 0, none⟩) := by injection hf13 with h; exact h.symm
      clear hf hf13 t13
      simp only [setAll, List.map_cons, List.map_nil, List.set_cons_succ, List.set_cons_zero]
      rw [e13]
      clear e13
      generalize f 163 = v163
      generalize f 164 = v164
      generalize f 165 = v165
      generalize f 166 = v166
      generalize f 167 = v167
      generalize f 168 = v168
      generalize f 169 = v169
      generalize f 170 = v170
      clear f
      have HG := Lib.hid hG
      have HBX := Lib.hid hbx
      have N1 := Lib.hid hn1
      have N2 := Lib.hid hn2
      clear hG hbx hn1 hn2
      obtain ⟨g0, g1, g2, o0, o1, o2, o3, p0, p1, p2⟩ := HG.out.cells
      obtain ⟨s0, s1, s2, s3, s4⟩ := HG.out.sizes
      have bx0 : V.cell? ⟨b, 0, none⟩ = some (.slice ra ml rac) := by rw [cell_block HBX.out]; rfl
      have bx1 : V.cell? ⟨b, 1, none⟩ = some (.slice da dl dac) := by rw [cell_block HBX.out]; rfl
      have hbs := block_lt HBX.out
      by_cases hlim : dl ≤ y
      · have hlm : decide ((dl : Int) ≤ y) = true := by simpa using hlim
        go_wp2_with fail
        refine (fail_any _ _ _ _ ⟨_, _, _, rfl⟩ ⟨_, _, _, rfl⟩ ⟨_, _, _, rfl⟩ 17).mono ?_
        rintro e wf ⟨rfl, hbf⟩
        have HF := Lib.hid (HG.out.keep hbf)
        clear hbf g0 g1 g2 o0 o1 o2 o3 p0 p1 p2 bx0 bx1 s0 s1 s2 s3 s4 hbs
        obtain ⟨g0, g1, g2, o0, o1, o2, o3, p0, p1, p2⟩ := HF.out.cells
        obtain ⟨s0, s1, s2, s3, s4⟩ := HF.out.sizes
        obtain ⟨z0, z1, z2, hbb2⟩ := HF.out.b2
        obtain ⟨y0, y1, hbb3⟩ := HF.out.b3
        have c0 : wf.cell? ⟨w.heap.size + 1 + 1, 0, none⟩ = some z0 := by rw [cell_block hbb2]; rfl
        have c1 : wf.cell? ⟨w.heap.size + 1 + 1, 1, none⟩ = some z1 := by rw [cell_block hbb2]; rfl
        have c2 : wf.cell? ⟨w.heap.size + 1 + 1, 2, none⟩ = some z2 := by rw [cell_block hbb2]; rfl
        have f0 : wf.frozen? ⟨w.heap.size + 1 + 1, 0, none⟩ = false := frozen_block hbb2
        have f1 : wf.frozen? ⟨w.heap.size + 1 + 1, 1, none⟩ = false := frozen_block hbb2
        have f2 : wf.frozen? ⟨w.heap.size + 1 + 1, 2, none⟩ = false := frozen_block hbb2
        have c3 : wf.cell? ⟨w.heap.size + 1 + 1 + 1, 0, none⟩ = some y0 := by rw [cell_block hbb3]; rfl
        have c4 : wf.cell? ⟨w.heap.size + 1 + 1 + 1, 1, none⟩ = some y1 := by rw [cell_block hbb3]; rfl
        have f3 : wf.frozen? ⟨w.heap.size + 1 + 1 + 1, 0, none⟩ = false := frozen_block hbb3
        have f4 : wf.frozen? ⟨w.heap.size + 1 + 1 + 1, 1, none⟩ = false := frozen_block hbb3
        have HB2 := Lib.hid hbb2
        have HB3 := Lib.hid hbb3
        clear hbb2 hbb3
        go_wp2
        exact do_ret (a1 := 17) HF.out.bel HB2.out HB3.out HF.out.ins (HOK.out.more (by omega)) rfl rfl rfl
      · have hlm : decide ((dl : Int) ≤ y) = false := by simpa using hlim
        obtain ⟨yk, hyk⟩ := Int.eq_ofNat_of_zero_le hy0
        have hyd : yk < nd.data.length := by rw [HDL.out]; omega
        obtain ⟨dq, dqc, e, _, _, hdq1, hdq2, hdqc, _⟩ := HXB.out.at1 hyd
        simp only [Value.slice.injEq] at e
        obtain ⟨rfl, e2, rfl⟩ := e
        clear e2
        obtain ⟨dv, hdv⟩ : ∃ dv, w.cell? ⟨dq, yk, none⟩ = some (.int .u64 dv) := ⟨_, hdqc⟩
        have HDQ := Lib.hid hdv
        have HYK := Lib.hid hyk
        have HYL : Hid ((yk : Int) < dl) := Lib.hid (by omega)
        clear hdqc hdv hyk hyd
        go_wp2_with fail
        clear g0 g1 g2 o0 o1 o2 o3 p0 p1 p2 bx0 bx1
        refine wp_region_facts2 (by kernel_rfl) (fun _ => DrN w (.slice (some ⟨nq, 0, none⟩) g.nodes.length nc) (.slice ua 32 uc) (.slice (some ⟨rb, 0, none⟩) 32 rc) (.slice na1 g.nodes.length nc1) (.slice ua1 32 uc1) (.slice (some ⟨rb1, 0, none⟩) 32 rc1) 4 x y z p B rb rb1 g g b (.slice ra ml rac) (.slice (some ⟨dq, 0, none⟩) dl dac)) (DrE (w.heap.size + 1 + 1) 8 9) (DtF (w.heap.size + 1 + 1) p (.agg #[.slice (some ⟨nq, 0, none⟩) g.nodes.length nc, .slice ua 32 uc, .slice (some ⟨rb, 0, none⟩) 32 rc]) (.agg #[.slice na1 g.nodes.length nc1, .slice ua1 32 uc1, .slice (some ⟨rb1, 0, none⟩) 32 rc1]) (.slice na1 g.nodes.length nc1) (.slice ua1 32 uc1) (.slice (some ⟨rb1, 0, none⟩) 32 rc1) x y z b (.slice (some ⟨dq, 0, none⟩) dl dac) dq yk) DtLoc (by kernel_rfl) (by kernel_rfl) (by kernel_rfl) (DtF.loc (w.heap.size + 1 + 1) p (.agg #[.slice (some ⟨nq, 0, none⟩) g.nodes.length nc, .slice ua 32 uc, .slice (some ⟨rb, 0, none⟩) 32 rc]) (.agg #[.slice na1 g.nodes.length nc1, .slice ua1 32 uc1, .slice (some ⟨rb1, 0, none⟩) 32 rc1]) (.slice na1 g.nodes.length nc1) (.slice ua1 32 uc1) (.slice (some ⟨rb1, 0, none⟩) 32 rc1) x y z b (.slice (some ⟨dq, 0, none⟩) dl dac) dq yk) (fun i j a W W' h _ => DtF.stab (w.heap.size + 1 + 1) p (.agg #[.slice (some ⟨nq, 0, none⟩) g.nodes.length nc, .slice ua 32 uc, .slice (some ⟨rb, 0, none⟩) 32 rc]) (.agg #[.slice na1 g.nodes.length nc1, .slice ua1 32 uc1, .slice (some ⟨rb1, 0, none⟩) 32 rc1]) (.slice na1 g.nodes.length nc1) (.slice ua1 32 uc1) (.slice (some ⟨rb1, 0, none⟩) 32 rc1) x y z b (.slice (some ⟨dq, 0, none⟩) dl dac) dq yk i j a W W' h) ?_ ?_ ?_
        · exact DrN.keep ⟨HG.out, HBX.out⟩ ((Below.refl _ _).drew)
        · skip
          refine RSteps2.cons (RStep2.mk rfl rfl fun t V hsz hout L hun hdn hG hdep K hK => ?_) ?_
          · have HS : Hid (233 < t.size) := Lib.hid (by rw [show t.size = 324 from hsz]; decide)
            obtain ⟨g0, g1, g2, o0, o1, o2, o3, p0, p1, p2⟩ := hG.cells
            obtain ⟨s0, s1, s2, s3, s4⟩ := hG.sizes
            have nb0 := hG.n0
            have nb1 := hG.n1
            have nbl := block_lt hG.nb
            have t6 : t[6]? = some (.pointer (some ⟨p, 0, none⟩)) := hout 6 (by kernel_rfl)
            clear hout hdep hun hdn hsz
            go_simp
            exact hK.out _ _ hG DrE.refl (put_here HS.out)
          refine RSteps2.cons (RStep2.mk rfl rfl fun t V hsz hout L hun hdn hG hdep K hK => ?_) ?_
          · have HS : Hid (234 < t.size) := Lib.hid (by rw [show t.size = 324 from hsz]; decide)
            obtain ⟨g0, g1, g2, o0, o1, o2, o3, p0, p1, p2⟩ := hG.cells
            obtain ⟨s0, s1, s2, s3, s4⟩ := hG.sizes
            have nb0 := hG.n0
            have nb1 := hG.n1
            have nbl := block_lt hG.nb
            have t13 : t[13]? = some (.pointer (some ⟨b, 0, none⟩)) := hout 13 (by kernel_rfl)
            clear hout hdep hun hdn hsz
            go_simp
            exact hK.out _ _ hG DrE.refl (put_here HS.out)
          refine RSteps2.cons (RStep2.mk rfl rfl fun t V hsz hout L hun hdn hG hdep K hK => ?_) ?_
          · have HS : Hid (235 < t.size) := Lib.hid (by rw [show t.size = 324 from hsz]; decide)
            obtain ⟨g0, g1, g2, o0, o1, o2, o3, p0, p1, p2⟩ := hG.cells
            obtain ⟨s0, s1, s2, s3, s4⟩ := hG.sizes
            have nb0 := hG.n0
            have nb1 := hG.n1
            have nbl := block_lt hG.nb
            have t234 : t[234]? = some (.pointer (some ⟨b, 1, none⟩)) := hdep 1 (by kernel_rfl)
            clear hout hdep hun hdn hsz
            go_simp
            exact hK.out _ _ hG DrE.refl (put_here HS.out)
          refine RSteps2.cons (RStep2.mk rfl rfl fun t V hsz hout L hun hdn hG hdep K hK => ?_) ?_
          · have HS : Hid (236 < t.size) := Lib.hid (by rw [show t.size = 324 from hsz]; decide)
            obtain ⟨g0, g1, g2, o0, o1, o2, o3, p0, p1, p2⟩ := hG.cells
            obtain ⟨s0, s1, s2, s3, s4⟩ := hG.sizes
            have nb0 := hG.n0
            have nb1 := hG.n1
            have nbl := block_lt hG.nb
            have t3 : t[3]? = some (.pointer (some ⟨w.heap.size + 1, 0, none⟩)) := hout 3 (by kernel_rfl)
            clear hout hdep hun hdn hsz
            go_simp
            exact hK.out _ _ hG DrE.refl (put_here HS.out)
          refine RSteps2.cons (RStep2.mk rfl rfl fun t V hsz hout L hun hdn hG hdep K hK => ?_) ?_
          · have HS : Hid (237 < t.size) := Lib.hid (by rw [show t.size = 324 from hsz]; decide)
            obtain ⟨g0, g1, g2, o0, o1, o2, o3, p0, p1, p2⟩ := hG.cells
            obtain ⟨s0, s1, s2, s3, s4⟩ := hG.sizes
            have nb0 := hG.n0
            have nb1 := hG.n1
            have nbl := block_lt hG.nb
            have t236 : t[236]? = some (.pointer (some ⟨w.heap.size + 1, 2, none⟩)) := hdep 3 (by kernel_rfl)
            clear hout hdep hun hdn hsz
            go_simp
            exact hK.out _ _ hG DrE.refl (put_here HS.out)
          refine RSteps2.cons (RStep2.mk rfl rfl fun t V hsz hout L hun hdn hG hdep K hK => ?_) ?_
          · have HS : Hid (238 < t.size) := Lib.hid (by rw [show t.size = 324 from hsz]; decide)
            obtain ⟨g0, g1, g2, o0, o1, o2, o3, p0, p1, p2⟩ := hG.cells
            obtain ⟨s0, s1, s2, s3, s4⟩ := hG.sizes
            have nb0 := hG.n0
            have nb1 := hG.n1
            have nbl := block_lt hG.nb
            have t235 : t[235]? = some (.slice (some ⟨dq, 0, none⟩) dl dac) := hdep 2 (by kernel_rfl)
            have t237 : t[237]? = some (.int .i64 y) := hdep 4 (by kernel_rfl)
            have hyk := HYK.out
            have hyk1 := HYL.out
            clear hout hdep hun hdn hsz
            go_simp
            exact hK.out _ _ hG DrE.refl (put_here HS.out)
          refine RSteps2.cons (RStep2.mk rfl rfl fun t V hsz hout L hun hdn hG hdep K hK => ?_) ?_
          · have HS : Hid (239 < t.size) := Lib.hid (by rw [show t.size = 324 from hsz]; decide)
            obtain ⟨g0, g1, g2, o0, o1, o2, o3, p0, p1, p2⟩ := hG.cells
            obtain ⟨s0, s1, s2, s3, s4⟩ := hG.sizes
            have nb0 := hG.n0
            have nb1 := hG.n1
            have nbl := block_lt hG.nb
            have t238 : t[238]? = some (.pointer (some ⟨dq, yk, none⟩)) := hdep 5 (by kernel_rfl)
            have cq : V.cell? ⟨dq, yk, none⟩ = some (.int .u64 dv) := (hG.bel.cell (p := ⟨dq, yk, none⟩) hdq2).trans HDQ.out
            have hdqs : dq < V.heap.size := by omega
            clear hout hdep hun hdn hsz
            go_simp
            exact hK.out _ _ hG DrE.refl ⟨_, put_here HS.out⟩
          refine RSteps2.cons (RStep2.mk rfl rfl fun t V hsz hout L hun hdn hG hdep K hK => ?_) ?_
          · have HS : Hid (240 < t.size) := Lib.hid (by rw [show t.size = 324 from hsz]; decide)
            obtain ⟨g0, g1, g2, o0, o1, o2, o3, p0, p1, p2⟩ := hG.cells
            obtain ⟨s0, s1, s2, s3, s4⟩ := hG.sizes
            have nb0 := hG.n0
            have nb1 := hG.n1
            have nbl := block_lt hG.nb
            obtain ⟨q, tq⟩ := hdep 6 (by kernel_rfl)
            have t239 : t[239]? = some (.int .u64 q) := tq
            clear tq
            clear hout hdep hun hdn hsz
            go_simp
            exact hK.out _ _ hG DrE.refl ⟨_, put_here HS.out⟩
          refine RSteps2.cons (RStep2.mk rfl rfl fun t V hsz hout L hun hdn hG hdep K hK => ?_) ?_
          · skip
            obtain ⟨g0, g1, g2, o0, o1, o2, o3, p0, p1, p2⟩ := hG.cells
            obtain ⟨s0, s1, s2, s3, s4⟩ := hG.sizes
            have nb0 := hG.n0
            have nb1 := hG.n1
            have nbl := block_lt hG.nb
            have t4 : t[4]? = some (.pointer (some ⟨w.heap.size + 1 + 1, 0, none⟩)) := hout 4 (by kernel_rfl)
            have t233 : t[233]? = some (.agg #[.slice na1 g.nodes.length nc1, .slice ua1 32 uc1, .slice (some ⟨rb1, 0, none⟩) 32 rc1]) := hdep 0 (by kernel_rfl)
            obtain ⟨z0, z1, z2, hb2⟩ := hG.b2
            have c0 : V.cell? ⟨w.heap.size + 1 + 1, 0, none⟩ = some z0 := by rw [cell_block hb2]; rfl
            have c1 : V.cell? ⟨w.heap.size + 1 + 1, 1, none⟩ = some z1 := by rw [cell_block hb2]; rfl
            have c2 : V.cell? ⟨w.heap.size + 1 + 1, 2, none⟩ = some z2 := by rw [cell_block hb2]; rfl
            have f0 : V.frozen? ⟨w.heap.size + 1 + 1, 0, none⟩ = false := frozen_block hb2
            have f1 : V.frozen? ⟨w.heap.size + 1 + 1, 1, none⟩ = false := frozen_block hb2
            have f2 : V.frozen? ⟨w.heap.size + 1 + 1, 2, none⟩ = false := frozen_block hb2
            have HB := Lib.hid hb2
            clear hb2 hout hdep hun hdn hsz g0 g1 g2 o0 o1 o2 o3 p0 p1 p2
            go_simp
            exact hK.out undef _ ((hG.set2).set2).set2 (DrE.set4 (by simp) (fun k hk => by rw [setCell_other _ hk, setCell_other _ hk, setCell_other _ hk])) (set3_block HB.out _ _ _)
          refine RSteps2.cons (RStep2.mk rfl rfl fun t V hsz hout L hun hdn hG hdep K hK => ?_) ?_
          · skip
            obtain ⟨g0, g1, g2, o0, o1, o2, o3, p0, p1, p2⟩ := hG.cells
            obtain ⟨s0, s1, s2, s3, s4⟩ := hG.sizes
            have nb0 := hG.n0
            have nb1 := hG.n1
            have nbl := block_lt hG.nb
            have t5 : t[5]? = some (.pointer (some ⟨w.heap.size + 1 + 1 + 1, 0, none⟩)) := hout 5 (by kernel_rfl)
            obtain ⟨u, ta⟩ := hdep 7 (by kernel_rfl)
            have t240 : t[240]? = some (.agg #[.int .i64 0, .int .u64 u]) := ta
            obtain ⟨z0, z1, hb2⟩ := hG.b3
            have c0 : V.cell? ⟨w.heap.size + 1 + 1 + 1, 0, none⟩ = some z0 := by rw [cell_block hb2]; rfl
            have c1 : V.cell? ⟨w.heap.size + 1 + 1 + 1, 1, none⟩ = some z1 := by rw [cell_block hb2]; rfl
            have f0 : V.frozen? ⟨w.heap.size + 1 + 1 + 1, 0, none⟩ = false := frozen_block hb2
            have f1 : V.frozen? ⟨w.heap.size + 1 + 1 + 1, 1, none⟩ = false := frozen_block hb2
            have HB := Lib.hid hb2
            clear ta hb2 hout hdep hun hdn hsz g0 g1 g2 o0 o1 o2 o3 p0 p1 p2
            go_simp
            exact hK.out undef _ ((hG.set3).set3) (DrE.set5 (by simp) (fun k hk => by rw [setCell_other _ hk, setCell_other _ hk])) ⟨u, set2_block' HB.out _ _⟩
          exact RSteps2.nil (by decide)
        · intro a' V hR
          have hG := hR.g
          have hb2 := hR.all (i := 8) (by decide)
          obtain ⟨u, hb3⟩ := hR.all (i := 9) (by decide)
          obtain ⟨us, hus, rfl⟩ := hR.frame rfl 233 8 (by intro k hk; simp [writes]; omega) (by simp)
          clear hR
          obtain ⟨v0, us0, rfl, hus0⟩ := list_next hus
          obtain ⟨v1, us1, rfl, hus1⟩ := list_next hus0
          obtain ⟨v2, us2, rfl, hus2⟩ := list_next hus1
          obtain ⟨v3, us3, rfl, hus3⟩ := list_next hus2
          obtain ⟨v4, us4, rfl, hus4⟩ := list_next hus3
          obtain ⟨v5, us5, rfl, hus5⟩ := list_next hus4
          obtain ⟨v6, us6, rfl, hus6⟩ := list_next hus5
          obtain ⟨v7, us7, rfl, hus7⟩ := list_next hus6
          obtain rfl := list_none hus7
          simp only [List.take_succ_cons, List.take_zero, List.drop_succ_cons, List.drop_zero, List.cons_append, List.nil_append]
          have HG := Lib.hid hG
          have HB2 := Lib.hid hb2
          have HB3 := Lib.hid hb3
          clear hG hb2 hb3
          go_wp2_with fail
          exact do_fin HG.out.bel HB2.out HB3.out (HG.out.out.base (by have := HBW.out; omega)) (HOK.out.more (by omega)) rfl rfl rfl
  · have hrb2 : (r2 != 0) = true := by simpa using hr2
    have hrc2 : (r2 == 0) = false := by simpa using hr2
    clear hr2
    have hs6 := ST2.out.s6
    have hs3 := ST2.out.s3
    have hhp := ST2.out.hp
    have hs0 : w.heap.size < w2.heap.size := (by omega)
    have hs01 : w.heap.size + 1 < w2.heap.size := (by omega)
    have hs02 : w.heap.size + 1 + 1 < w2.heap.size := (by omega)
    have g0c := ST2.out.g0
    have g1c := ST2.out.g1
    have g2c := ST2.out.g2
    have o0c := ST2.out.o0
    have o1c := ST2.out.o1
    have o2c := ST2.out.o2
    have o3c := ST2.out.o3
    go_wp2_with fail
    refine (fail_any _ _ _ _ ⟨_, _, _, rfl⟩ ⟨_, _, _, rfl⟩ ⟨_, _, _, rfl⟩ r2).mono ?_
    rintro e wf ⟨rfl, hbf⟩
    have STF := Lib.hid (ST2.out.keep hbf)
    clear hbf hs6 hs3 hs0 hs01 hs02 g0c g1c g2c o0c o1c o2c o3c
    have hs6 := STF.out.s6
    have hs3 := STF.out.s3
    have hhp := STF.out.hp
    have hs0 : w.heap.size < wf.heap.size := (by omega)
    have hs01 : w.heap.size + 1 < wf.heap.size := (by omega)
    have hs02 : w.heap.size + 1 + 1 < wf.heap.size := (by omega)
    obtain ⟨r0c, fr0⟩ := STF.out.r0
    obtain ⟨r1c, fr1⟩ := STF.out.r1
    obtain ⟨r2c, fr2⟩ := STF.out.r2
    obtain ⟨q0c, fq0⟩ := STF.out.q0
    obtain ⟨q1c, fq1⟩ := STF.out.q1
    go_wp2
    exact do_ret (a1 := r2) (a2 := 0) STF.out.bel STF.out.b2 STF.out.b3 (HGM.out.below STF.out.bel) (HOK.out.more (by omega)) rfl rfl rfl
end Go.Proofs.Ytadoehlhfccacaa
