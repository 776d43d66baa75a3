/- The reference model's Do: the operations of code 6: it returns a valid graph of one node more at most. Condition: a valid graph of at most 900 nodes in memory, operands from 0 to 255. -/
import Derived.Test.YtadoehlhfccacaaDoR
namespace Go.Proofs.Ytadoehlhfccacaa
open Go.RowKit
set_option linter.unusedVariables false

def DwF (b2 p : Nat) (agin agout : Value) (o0 o1 o2 : Value) (xx yy zz : Int) : Nat → Act → World → Prop
  | 0, a, _ => a.tmps[132]? = some agin
  | 1, a, _ => a.tmps[133]? = some (.pointer (some ⟨b2 - 1, 1, none⟩))
  | 2, a, _ => a.tmps[134]? = some (.int .i64 xx)
  | 3, a, _ => ∃ q : Int, a.tmps[135]? = some (.int .i64 q)
  | 4, a, _ => a.tmps[136]? = some agin
  | 5, a, _ => a.tmps[137]? = some (.pointer (some ⟨b2 - 1, 2, none⟩))
  | 6, a, _ => a.tmps[138]? = some (.int .i64 yy)
  | 7, a, _ => ∃ q : Int, a.tmps[139]? = some (.int .i64 q)
  | 8, a, _ => ∃ q : Bool, a.tmps[140]? = some (.bool q)
  | _, _, _ => True
def DwLoc : Nat → List Nat | 0 => [132] | 1 => [133] | 2 => [134] | 3 => [135] | 4 => [136] | 5 => [137] | 6 => [138] | 7 => [139] | 8 => [140] | _ => []
theorem DwF.loc (b2 p : Nat) (agin agout : Value) (o0 o1 o2 : Value) (xx yy zz : Int) : ∀ j a d v w, d ∉ DwLoc j → DwF b2 p agin agout o0 o1 o2 xx yy zz j a w → DwF b2 p agin agout o0 o1 o2 xx yy zz j (a.put (some d) v) w := by
  intro j a d v w hd h
  match j with
  | 0 | 1 | 2 | 3 | 4 | 5 | 6 | 7 | 8 =>
    simp only [DwLoc, List.mem_singleton] at hd
    simp only [DwF] at h ⊢
    rw [put_same hd]
    exact h
  | _ + 9 => trivial
theorem DwF.stab (b2 p : Nat) (agin agout : Value) (o0 o1 o2 : Value) (xx yy zz : Int) : ∀ i j a W W', i ≠ j → DrE b2 1000 1001 i W W' → DwF b2 p agin agout o0 o1 o2 xx yy zz j a W → DwF b2 p agin agout o0 o1 o2 xx yy zz j a W' := by
  intro i j a W W' hij he h
  match j with
  | 0 | 1 | 2 | 3 | 4 | 5 | 6 | 7 | 8 => exact h
  | _ + 9 => trivial

set_option maxRecDepth 100000 in
set_option maxHeartbeats 8000000 in
theorem do_c6 (w : World) (B rb : Nat) (hB : B ≤ w.heap.size) (nv uv rv : Value) (g : Gr) (hg : GrM w B rb nv uv rv g) (n : Nat) (hok : GrOk n g) (hn : n ≤ 900) (x y z : Int) (hx : 0 ≤ x ∧ x ≤ 255) (hy : 0 ≤ y ∧ y ≤ 255) (hz : 0 ≤ z ∧ z ≤ 255) :
    Calls Try.prog 22 #[.agg #[nv, uv, rv], .agg #[.int .i64 6, .int .i64 x, .int .i64 y, .int .i64 z]] w (DoPost w B n) := by
  have HOK := Lib.hid hok
  have HBW := Lib.hid hB
  obtain ⟨na, nc, ua, uc, rc, rfl, rfl, rfl⟩ := hg.forms
  rw [hok.ul, hok.rl] at hg ⊢
  have HGM := Lib.hid hg
  have hnl : g.nodes.length ≤ 900 := Nat.le_trans hok.nl hn
  obtain ⟨hx0, hx1⟩ := hx
  obtain ⟨hy0, hy1⟩ := hy
  obtain ⟨hz0, hz1⟩ := hz
  clear hg hok
  go_enter Try.func22, Try.ntmps22
  go_wp2_with fail
  refine (gcopy_any _ B rb _ _ _ g (HGM.out.below (by repeat (first | exact Below.refl _ _ | refine Below.alloc ?_ (by first | exact Nat.le_refl _ | (simp; done) | (simp; omega)) _))) n HOK.out (by omega)).mono ?_
  rintro e w1 ⟨rb1, nv1, uv1, rv1, rfl, hm1, hb1⟩
  have hul := HOK.out.ul
  have hrl := HOK.out.rl
  obtain ⟨na1, nc1, ua1, uc1, rc1, rfl, rfl, rfl⟩ := hm1.forms
  rw [hul, hrl] at hm1
  rw [hul, hrl]
  clear hul hrl
  have st0 : DoSt w (.slice na g.nodes.length nc) (.slice ua 32 uc) (.slice (some ⟨rb, 0, none⟩) 32 rc) (.slice na1 g.nodes.length nc1) (.slice ua1 32 uc1) (.slice (some ⟨rb1, 0, none⟩) 32 rc1) 6 x y z w1.heap.size (w1.alloc (.cells #[.slice na1 g.nodes.length nc1, .slice ua1 32 uc1, .slice (some ⟨rb1, 0, none⟩) 32 rc1] 45)) := by
    have hb0 : Below w.heap.size w w1 := by
      refine Below.trans ?_ (hb1.mono (by simp; omega))
      exact (by repeat (first | exact Below.refl _ _ | refine Below.alloc ?_ (by first | exact Nat.le_refl _ | (simp; done) | (simp; omega)) _))
    have h4 : ∀ {b o}, b < w.heap.size + 1 + 1 + 1 + 1 → ((((w.alloc (.cells #[.slice na g.nodes.length nc, .slice ua 32 uc, .slice (some ⟨rb, 0, none⟩) 32 rc] 45)).alloc (.cells #[.int .i64 6, .int .i64 x, .int .i64 y, .int .i64 z] 35)).alloc (.cells #[.slice none 0 0, .slice none 0 0, .slice none 0 0] 45)).alloc (.cells #[.int .i64 0, .int .u64 0] 53)).heap[b]? = some o → w1.heap[b]? = some o := fun hb e => below_block hb1 (by simpa using hb) e
    refine ⟨hb0.alloc hb0.size _, alloc_block (h4 (by omega) (alloc_block (alloc_block (alloc_block (heap_alloc_new _ _))))), alloc_block (h4 (by omega) (alloc_block (alloc_block (heap_alloc_at _ _ _ (by simp))))), alloc_block (h4 (by omega) (alloc_block (heap_alloc_at _ _ _ (by simp)))), alloc_block (h4 (by omega) (heap_alloc_at _ _ _ (by simp))), ?_, heap_alloc_new _ _⟩
    have := hb1.size
    simp at this
    exact this
  have hm1' : GrM (w1.alloc (.cells #[.slice na1 g.nodes.length nc1, .slice ua1 32 uc1, .slice (some ⟨rb1, 0, none⟩) 32 rc1] 45)) (w.heap.size + 1 + 1 + 1 + 1) rb1 (.slice na1 g.nodes.length nc1) (.slice ua1 32 uc1) (.slice (some ⟨rb1, 0, none⟩) 32 rc1) g := (hm1.base (by simp)).keep fun k hk => Below.heap_alloc _ _ _ hk
  have hs1 : w.heap.size + 1 + 1 + 1 + 1 ≤ w1.heap.size := st0.hp
  have MM := Lib.hid hm1'
  have ST := Lib.hid st0
  clear hm1 hm1' hb1 st0
  go_upto_region 2 with (fail)
  obtain ⟨W, hW⟩ : ∃ W : World, W = (w1.alloc (.cells #[.slice na1 g.nodes.length nc1, .slice ua1 32 uc1, .slice (some ⟨rb1, 0, none⟩) 32 rc1] 45)) := ⟨_, rfl⟩
  rw [← hW] at MM ST ⊢
  generalize w1.heap.size = p at *
  clear hW
  have hs6 := ST.out.s6
  have hs3 := ST.out.s3
  have hhp := ST.out.hp
  have hs0 : w.heap.size < W.heap.size := (by omega)
  have hs01 : w.heap.size + 1 < W.heap.size := (by omega)
  have hs02 : w.heap.size + 1 + 1 < W.heap.size := (by omega)
  have g0c := ST.out.g0
  have g1c := ST.out.g1
  have g2c := ST.out.g2
  have o0c := ST.out.o0
  have o1c := ST.out.o1
  have o2c := ST.out.o2
  have o3c := ST.out.o3
  go_wp2_with fail
  refine (handle_any _ B rb _ _ _ g (HGM.out.below ST.out.bel) HOK.out.ul x false (by omega) (by omega)).mono ?_
  rintro e w2 ⟨r2, rfl, hh2, hb2⟩
  have ST2 := Lib.hid (ST.out.keep hb2)
  have MM2 := Lib.hid (MM.out.below hb2)
  have HH2 := Lib.hid hh2
  clear hb2 hh2 hs6 hs3 hs0 hs01 hs02 g0c g1c g2c o0c o1c o2c o3c
  by_cases hr2 : r2 = 0
  · subst hr2
    have hs6 := ST2.out.s6
    have hs3 := ST2.out.s3
    have hhp := ST2.out.hp
    have hs0 : w.heap.size < w2.heap.size := (by omega)
    have hs01 : w.heap.size + 1 < w2.heap.size := (by omega)
    have hs02 : w.heap.size + 1 + 1 < w2.heap.size := (by omega)
    have g0c := ST2.out.g0
    have g1c := ST2.out.g1
    have g2c := ST2.out.g2
    have o0c := ST2.out.o0
    have o1c := ST2.out.o1
    have o2c := ST2.out.o2
    have o3c := ST2.out.o3
    go_wp2_with fail
    refine (handle_any _ B rb _ _ _ g (HGM.out.below ST2.out.bel) HOK.out.ul y false (by omega) (by omega)).mono ?_
    rintro e w3 ⟨r3, rfl, hh3, hb3⟩
    have ST3 := Lib.hid (ST2.out.keep hb3)
    have MM3 := Lib.hid (MM2.out.below hb3)
    have HH3 := Lib.hid hh3
    clear hb3 hh3 hs6 hs3 hs0 hs01 hs02 g0c g1c g2c o0c o1c o2c o3c
    by_cases hr3 : r3 = 0
    · subst hr3
      have hs6 := ST3.out.s6
      have hs3 := ST3.out.s3
      have hhp := ST3.out.hp
      have hs0 : w.heap.size < w3.heap.size := (by omega)
      have hs01 : w.heap.size + 1 < w3.heap.size := (by omega)
      have hs02 : w.heap.size + 1 + 1 < w3.heap.size := (by omega)
      have g0c := ST3.out.g0
      have g1c := ST3.out.g1
      have g2c := ST3.out.g2
      have o0c := ST3.out.o0
      have o1c := ST3.out.o1
      have o2c := ST3.out.o2
      have o3c := ST3.out.o3
      have hq1 : ∃ q1, (x = 0 ∧ q1 = -1) ∨ (1 ≤ x ∧ x ≤ 32 ∧ g.roots.getD (x - 1).toNat 0 = q1) := by
        rcases HH2.out rfl with h | h
        · exact ⟨-1, .inl ⟨h.1, rfl⟩⟩
        · exact ⟨_, .inr ⟨h.1, h.2.1, rfl⟩⟩
      obtain ⟨q1, hq1⟩ := hq1
      have HQ1 := Lib.hid hq1
      have hq2 : ∃ q2, (y = 0 ∧ q2 = -1) ∨ (1 ≤ y ∧ y ≤ 32 ∧ g.roots.getD (y - 1).toNat 0 = q2) := by
        rcases HH3.out rfl with h | h
        · exact ⟨-1, .inl ⟨h.1, rfl⟩⟩
        · exact ⟨_, .inr ⟨h.1, h.2.1, rfl⟩⟩
      obtain ⟨q2, hq2⟩ := hq2
      have HQ2 := Lib.hid hq2
      clear hq1 hq2
      go_wp2_with fail
      refine wp_region_facts2 (by kernel_rfl) (fun _ => DrG w (.slice na g.nodes.length nc) (.slice ua 32 uc) (.slice (some ⟨rb, 0, none⟩) 32 rc) (.slice na1 g.nodes.length nc1) (.slice ua1 32 uc1) (.slice (some ⟨rb1, 0, none⟩) 32 rc1) 6 x y z p B rb rb1 g g) (DrE (w.heap.size + 1 + 1) 1000 1001) (DwF (w.heap.size + 1 + 1) p (.agg #[.slice na g.nodes.length nc, .slice ua 32 uc, .slice (some ⟨rb, 0, none⟩) 32 rc]) (.agg #[.slice na1 g.nodes.length nc1, .slice ua1 32 uc1, .slice (some ⟨rb1, 0, none⟩) 32 rc1]) (.slice na1 g.nodes.length nc1) (.slice ua1 32 uc1) (.slice (some ⟨rb1, 0, none⟩) 32 rc1) x y z) DwLoc (by kernel_rfl) (by kernel_rfl) (by kernel_rfl) (DwF.loc (w.heap.size + 1 + 1) p (.agg #[.slice na g.nodes.length nc, .slice ua 32 uc, .slice (some ⟨rb, 0, none⟩) 32 rc]) (.agg #[.slice na1 g.nodes.length nc1, .slice ua1 32 uc1, .slice (some ⟨rb1, 0, none⟩) 32 rc1]) (.slice na1 g.nodes.length nc1) (.slice ua1 32 uc1) (.slice (some ⟨rb1, 0, none⟩) 32 rc1) x y z) (fun i j a W W' h _ => DwF.stab (w.heap.size + 1 + 1) p (.agg #[.slice na g.nodes.length nc, .slice ua 32 uc, .slice (some ⟨rb, 0, none⟩) 32 rc]) (.agg #[.slice na1 g.nodes.length nc1, .slice ua1 32 uc1, .slice (some ⟨rb1, 0, none⟩) 32 rc1]) (.slice na1 g.nodes.length nc1) (.slice ua1 32 uc1) (.slice (some ⟨rb1, 0, none⟩) 32 rc1) x y z i j a W W' h) ?_ ?_ ?_
      · exact (DrG.of ST3.out (HGM.out.below ST3.out.bel) MM3.out).keep ((Below.refl _ _).drew)
      · skip
        refine RSteps2.cons (RStep2.mk rfl rfl fun t V hsz hout L hun hdn hG hdep K hK => ?_) ?_
        · have HS : Hid (132 < t.size) := Lib.hid (by rw [show t.size = 324 from hsz]; decide)
          obtain ⟨g0, g1, g2, o0, o1, o2, o3, p0, p1, p2⟩ := hG.cells
          obtain ⟨s0, s1, s2, s3, s4⟩ := hG.sizes
          have t2 : t[2]? = some (.pointer (some ⟨w.heap.size, 0, none⟩)) := hout 2 (by kernel_rfl)
          clear hout hdep hun hdn hsz
          go_simp
          exact hK.out _ _ hG DrE.refl (put_here HS.out)
        refine RSteps2.cons (RStep2.mk rfl rfl fun t V hsz hout L hun hdn hG hdep K hK => ?_) ?_
        · have HS : Hid (133 < t.size) := Lib.hid (by rw [show t.size = 324 from hsz]; decide)
          obtain ⟨g0, g1, g2, o0, o1, o2, o3, p0, p1, p2⟩ := hG.cells
          obtain ⟨s0, s1, s2, s3, s4⟩ := hG.sizes
          have t3 : t[3]? = some (.pointer (some ⟨w.heap.size + 1, 0, none⟩)) := hout 3 (by kernel_rfl)
          clear hout hdep hun hdn hsz
          go_simp
          exact hK.out _ _ hG DrE.refl (put_here HS.out)
        refine RSteps2.cons (RStep2.mk rfl rfl fun t V hsz hout L hun hdn hG hdep K hK => ?_) ?_
        · have HS : Hid (134 < t.size) := Lib.hid (by rw [show t.size = 324 from hsz]; decide)
          obtain ⟨g0, g1, g2, o0, o1, o2, o3, p0, p1, p2⟩ := hG.cells
          obtain ⟨s0, s1, s2, s3, s4⟩ := hG.sizes
          have t133 : t[133]? = some (.pointer (some ⟨w.heap.size + 1, 1, none⟩)) := hdep 1 (by kernel_rfl)
          clear hout hdep hun hdn hsz
          go_simp
          exact hK.out _ _ hG DrE.refl (put_here HS.out)
        refine RSteps2.cons (RStep2.mk rfl rfl fun t V hsz hout L hun hdn hG hdep K hK => ?_) ?_
        · have HS : Hid (135 < t.size) := Lib.hid (by rw [show t.size = 324 from hsz]; decide)
          obtain ⟨g0, g1, g2, o0, o1, o2, o3, p0, p1, p2⟩ := hG.cells
          obtain ⟨s0, s1, s2, s3, s4⟩ := hG.sizes
          have t132 : t[132]? = some (.agg #[.slice na g.nodes.length nc, .slice ua 32 uc, .slice (some ⟨rb, 0, none⟩) 32 rc]) := hdep 0 (by kernel_rfl)
          have t134 : t[134]? = some (.int .i64 x) := hdep 2 (by kernel_rfl)
          clear hout hdep hun hdn hsz g0 g1 g2 o0 o1 o2 o3 p0 p1 p2
          go_simp
          refine (node_any _ B rb _ _ _ g hG.ins HOK.out.rl x q1 HQ1.out).mono ?_
          rintro e w2 ⟨rfl, hb2⟩
          go_simp
          exact hK.out _ _ (hG.keep hb2) (DrE.gw hb2.size hb2.block) ⟨q1, put_here HS.out⟩
        refine RSteps2.cons (RStep2.mk rfl rfl fun t V hsz hout L hun hdn hG hdep K hK => ?_) ?_
        · have HS : Hid (136 < t.size) := Lib.hid (by rw [show t.size = 324 from hsz]; decide)
          obtain ⟨g0, g1, g2, o0, o1, o2, o3, p0, p1, p2⟩ := hG.cells
          obtain ⟨s0, s1, s2, s3, s4⟩ := hG.sizes
          have t2 : t[2]? = some (.pointer (some ⟨w.heap.size, 0, none⟩)) := hout 2 (by kernel_rfl)
          clear hout hdep hun hdn hsz
          go_simp
          exact hK.out _ _ hG DrE.refl (put_here HS.out)
        refine RSteps2.cons (RStep2.mk rfl rfl fun t V hsz hout L hun hdn hG hdep K hK => ?_) ?_
        · have HS : Hid (137 < t.size) := Lib.hid (by rw [show t.size = 324 from hsz]; decide)
          obtain ⟨g0, g1, g2, o0, o1, o2, o3, p0, p1, p2⟩ := hG.cells
          obtain ⟨s0, s1, s2, s3, s4⟩ := hG.sizes
          have t3 : t[3]? = some (.pointer (some ⟨w.heap.size + 1, 0, none⟩)) := hout 3 (by kernel_rfl)
          clear hout hdep hun hdn hsz
          go_simp
          exact hK.out _ _ hG DrE.refl (put_here HS.out)
        refine RSteps2.cons (RStep2.mk rfl rfl fun t V hsz hout L hun hdn hG hdep K hK => ?_) ?_
        · have HS : Hid (138 < t.size) := Lib.hid (by rw [show t.size = 324 from hsz]; decide)
          obtain ⟨g0, g1, g2, o0, o1, o2, o3, p0, p1, p2⟩ := hG.cells
          obtain ⟨s0, s1, s2, s3, s4⟩ := hG.sizes
          have t137 : t[137]? = some (.pointer (some ⟨w.heap.size + 1, 2, none⟩)) := hdep 5 (by kernel_rfl)
          clear hout hdep hun hdn hsz
          go_simp
          exact hK.out _ _ hG DrE.refl (put_here HS.out)
        refine RSteps2.cons (RStep2.mk rfl rfl fun t V hsz hout L hun hdn hG hdep K hK => ?_) ?_
        · have HS : Hid (139 < t.size) := Lib.hid (by rw [show t.size = 324 from hsz]; decide)
          obtain ⟨g0, g1, g2, o0, o1, o2, o3, p0, p1, p2⟩ := hG.cells
          obtain ⟨s0, s1, s2, s3, s4⟩ := hG.sizes
          have t136 : t[136]? = some (.agg #[.slice na g.nodes.length nc, .slice ua 32 uc, .slice (some ⟨rb, 0, none⟩) 32 rc]) := hdep 4 (by kernel_rfl)
          have t138 : t[138]? = some (.int .i64 y) := hdep 6 (by kernel_rfl)
          clear hout hdep hun hdn hsz g0 g1 g2 o0 o1 o2 o3 p0 p1 p2
          go_simp
          refine (node_any _ B rb _ _ _ g hG.ins HOK.out.rl y q2 HQ2.out).mono ?_
          rintro e w2 ⟨rfl, hb2⟩
          go_simp
          exact hK.out _ _ (hG.keep hb2) (DrE.gw hb2.size hb2.block) ⟨q2, put_here HS.out⟩
        refine RSteps2.cons (RStep2.mk rfl rfl fun t V hsz hout L hun hdn hG hdep K hK => ?_) ?_
        · have HS : Hid (140 < t.size) := Lib.hid (by rw [show t.size = 324 from hsz]; decide)
          obtain ⟨g0, g1, g2, o0, o1, o2, o3, p0, p1, p2⟩ := hG.cells
          obtain ⟨s0, s1, s2, s3, s4⟩ := hG.sizes
          obtain ⟨q, tq⟩ := hdep 3 (by kernel_rfl)
          obtain ⟨q', tq'⟩ := hdep 7 (by kernel_rfl)
          have t135 : t[135]? = some (.int .i64 q) := tq
          have t139 : t[139]? = some (.int .i64 q') := tq'
          clear tq tq'
          clear hout hdep hun hdn hsz
          go_simp
          exact hK.out _ _ hG DrE.refl ⟨_, put_here HS.out⟩
        exact RSteps2.nil (by decide)
      · intro a' V hR
        have hG := hR.g
        obtain ⟨q, h140⟩ := hR.all (i := 8) (by decide)
        obtain ⟨us, hus, rfl⟩ := hR.frame rfl 132 9 (by intro k hk; simp [writes]; omega) (by simp)
        clear hR
        obtain ⟨v0, us0, rfl, hus0⟩ := list_next hus
        obtain ⟨v1, us1, rfl, hus1⟩ := list_next hus0
        obtain ⟨v2, us2, rfl, hus2⟩ := list_next hus1
        obtain ⟨v3, us3, rfl, hus3⟩ := list_next hus2
        obtain ⟨v4, us4, rfl, hus4⟩ := list_next hus3
        obtain ⟨v5, us5, rfl, hus5⟩ := list_next hus4
        obtain ⟨v6, us6, rfl, hus6⟩ := list_next hus5
        obtain ⟨v7, us7, rfl, hus7⟩ := list_next hus6
        obtain ⟨v8, us8, rfl, hus8⟩ := list_next hus7
        obtain rfl := list_none hus8
        simp only [List.take_succ_cons, List.take_zero, List.drop_succ_cons, List.drop_zero, List.cons_append, List.nil_append] at h140 ⊢
        have HG := Lib.hid hG
        clear hG
        obtain rfl : v8 = .bool q := by simpa using h140
        clear h140
        obtain ⟨g0, g1, g2, o0, o1, o2, o3, p0, p1, p2⟩ := HG.out.cells
        obtain ⟨s0, s1, s2, s3, s4⟩ := HG.out.sizes
        obtain ⟨z0, z1, z2, hbb2⟩ := HG.out.b2
        obtain ⟨y0, y1, hbb3⟩ := HG.out.b3
        have c0 : V.cell? ⟨w.heap.size + 1 + 1, 0, none⟩ = some z0 := by rw [cell_block hbb2]; rfl
        have c1 : V.cell? ⟨w.heap.size + 1 + 1, 1, none⟩ = some z1 := by rw [cell_block hbb2]; rfl
        have c2 : V.cell? ⟨w.heap.size + 1 + 1, 2, none⟩ = some z2 := by rw [cell_block hbb2]; rfl
        have f0 : V.frozen? ⟨w.heap.size + 1 + 1, 0, none⟩ = false := frozen_block hbb2
        have f1 : V.frozen? ⟨w.heap.size + 1 + 1, 1, none⟩ = false := frozen_block hbb2
        have f2 : V.frozen? ⟨w.heap.size + 1 + 1, 2, none⟩ = false := frozen_block hbb2
        have c3 : V.cell? ⟨w.heap.size + 1 + 1 + 1, 0, none⟩ = some y0 := by rw [cell_block hbb3]; rfl
        have c4 : V.cell? ⟨w.heap.size + 1 + 1 + 1, 1, none⟩ = some y1 := by rw [cell_block hbb3]; rfl
        have f3 : V.frozen? ⟨w.heap.size + 1 + 1 + 1, 0, none⟩ = false := frozen_block hbb3
        have f4 : V.frozen? ⟨w.heap.size + 1 + 1 + 1, 1, none⟩ = false := frozen_block hbb3
        have HB2 := Lib.hid hbb2
        have HB3 := Lib.hid hbb3
        clear hbb2 hbb3
        cases q
        all_goals
          go_wp2
        all_goals exact do_ret (a1 := 0) HG.out.bel HB2.out HB3.out (HG.out.out.base (by have := HBW.out; omega)) (HOK.out.more (by omega)) rfl rfl rfl
    · have hrb3 : (r3 != 0) = true := by simpa using hr3
      have hrc3 : (r3 == 0) = false := by simpa using hr3
      clear hr3
      have hs6 := ST3.out.s6
      have hs3 := ST3.out.s3
      have hhp := ST3.out.hp
      have hs0 : w.heap.size < w3.heap.size := (by omega)
      have hs01 : w.heap.size + 1 < w3.heap.size := (by omega)
      have hs02 : w.heap.size + 1 + 1 < w3.heap.size := (by omega)
      have g0c := ST3.out.g0
      have g1c := ST3.out.g1
      have g2c := ST3.out.g2
      have o0c := ST3.out.o0
      have o1c := ST3.out.o1
      have o2c := ST3.out.o2
      have o3c := ST3.out.o3
      go_wp2_with fail
      refine (fail_any _ _ _ _ ⟨_, _, _, rfl⟩ ⟨_, _, _, rfl⟩ ⟨_, _, _, rfl⟩ r3).mono ?_
      rintro e wf ⟨rfl, hbf⟩
      have STF := Lib.hid (ST3.out.keep hbf)
      clear hbf hs6 hs3 hs0 hs01 hs02 g0c g1c g2c o0c o1c o2c o3c
      have hs6 := STF.out.s6
      have hs3 := STF.out.s3
      have hhp := STF.out.hp
      have hs0 : w.heap.size < wf.heap.size := (by omega)
      have hs01 : w.heap.size + 1 < wf.heap.size := (by omega)
      have hs02 : w.heap.size + 1 + 1 < wf.heap.size := (by omega)
      obtain ⟨r0c, fr0⟩ := STF.out.r0
      obtain ⟨r1c, fr1⟩ := STF.out.r1
      obtain ⟨r2c, fr2⟩ := STF.out.r2
      obtain ⟨q0c, fq0⟩ := STF.out.q0
      obtain ⟨q1c, fq1⟩ := STF.out.q1
      go_wp2
      exact do_ret (a1 := r3) (a2 := 0) STF.out.bel STF.out.b2 STF.out.b3 (HGM.out.below STF.out.bel) (HOK.out.more (by omega)) rfl rfl rfl
  · have hrb2 : (r2 != 0) = true := by simpa using hr2
    have hrc2 : (r2 == 0) = false := by simpa using hr2
    clear hr2
    have hs6 := ST2.out.s6
    have hs3 := ST2.out.s3
    have hhp := ST2.out.hp
    have hs0 : w.heap.size < w2.heap.size := (by omega)
    have hs01 : w.heap.size + 1 < w2.heap.size := (by omega)
    have hs02 : w.heap.size + 1 + 1 < w2.heap.size := (by omega)
    have g0c := ST2.out.g0
    have g1c := ST2.out.g1
    have g2c := ST2.out.g2
    have o0c := ST2.out.o0
    have o1c := ST2.out.o1
    have o2c := ST2.out.o2
    have o3c := ST2.out.o3
    go_wp2_with fail
    refine (fail_any _ _ _ _ ⟨_, _, _, rfl⟩ ⟨_, _, _, rfl⟩ ⟨_, _, _, rfl⟩ r2).mono ?_
    rintro e wf ⟨rfl, hbf⟩
    have STF := Lib.hid (ST2.out.keep hbf)
    clear hbf hs6 hs3 hs0 hs01 hs02 g0c g1c g2c o0c o1c o2c o3c
    have hs6 := STF.out.s6
    have hs3 := STF.out.s3
    have hhp := STF.out.hp
    have hs0 : w.heap.size < wf.heap.size := (by omega)
    have hs01 : w.heap.size + 1 < wf.heap.size := (by omega)
    have hs02 : w.heap.size + 1 + 1 < wf.heap.size := (by omega)
    obtain ⟨r0c, fr0⟩ := STF.out.r0
    obtain ⟨r1c, fr1⟩ := STF.out.r1
    obtain ⟨r2c, fr2⟩ := STF.out.r2
    obtain ⟨q0c, fq0⟩ := STF.out.q0
    obtain ⟨q1c, fq1⟩ := STF.out.q1
    go_wp2
    exact do_ret (a1 := r2) (a2 := 0) STF.out.bel STF.out.b2 STF.out.b3 (HGM.out.below STF.out.bel) (HOK.out.more (by omega)) rfl rfl rfl
end Go.Proofs.Ytadoehlhfccacaa
