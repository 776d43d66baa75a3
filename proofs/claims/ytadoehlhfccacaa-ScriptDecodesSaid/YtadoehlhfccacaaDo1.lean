/- The reference model's Do: the operations of code 1: it returns a valid graph of one node more at most. Condition: a valid graph of at most 900 nodes in memory, operands from 0 to 255. -/
import Derived.Test.YtadoehlhfccacaaReg7
namespace Go.Proofs.Ytadoehlhfccacaa
open Go.RowKit
set_option linter.unusedVariables false

def DaF (vs : Nat → Value) : Nat → Act → World → Prop
  | 0, a, _ => a.tmps[79]? = some (vs 0)
  | 1, a, _ => a.tmps[80]? = some (vs 1)
  | 2, a, _ => a.tmps[81]? = some (vs 2)
  | 3, a, _ => a.tmps[82]? = some (vs 3)
  | 4, a, _ => a.tmps[83]? = some (vs 4)
  | 5, a, _ => a.tmps[84]? = some (vs 5)
  | 6, a, _ => a.tmps[85]? = some (vs 6)
  | 7, a, _ => a.tmps[86]? = some (vs 7)
  | 8, a, _ => a.tmps[87]? = some (vs 8)
  | 9, a, _ => a.tmps[88]? = some (vs 9)
  | 10, a, _ => a.tmps[89]? = some (vs 10)
  | 11, a, _ => a.tmps[90]? = some (vs 11)
  | 12, a, _ => a.tmps[91]? = some (vs 12)
  | 14, a, _ => a.tmps[92]? = some (vs 14)
  | _, _, _ => True
def DaLoc : Nat → List Nat | 0 => [79] | 1 => [80] | 2 => [81] | 3 => [82] | 4 => [83] | 5 => [84] | 6 => [85] | 7 => [86] | 8 => [87] | 9 => [88] | 10 => [89] | 11 => [90] | 12 => [91] | 14 => [92] | _ => []
theorem DaF.loc (vs : Nat → Value) : ∀ j a d v w, d ∉ DaLoc j → DaF vs j a w → DaF vs j (a.put (some d) v) w := by
  intro j a d v w hd h
  match j with
  | 0 | 1 | 2 | 3 | 4 | 5 | 6 | 7 | 8 | 9 | 10 | 11 | 12 | 14 =>
    simp only [DaLoc, List.mem_singleton] at hd
    simp only [DaF] at h ⊢
    rw [put_same hd]
    exact h
  | 13 | 15 => exact h
  | _ + 16 => trivial
theorem DaF.stab (vs : Nat → Value) : ∀ j a W W', DaF vs j a W → DaF vs j a W' := by
  intro j a W W' h
  match j with
  | 0 | 1 | 2 | 3 | 4 | 5 | 6 | 7 | 8 | 9 | 10 | 11 | 12 | 14 => exact h
  | 13 | 15 => exact h
  | _ + 16 => trivial

set_option maxRecDepth 100000 in
set_option maxHeartbeats 8000000 in
theorem do_c1 (w : World) (B rb : Nat) (hB : B ≤ w.heap.size) (nv uv rv : Value) (g : Gr) (hg : GrM w B rb nv uv rv g) (n : Nat) (hok : GrOk n g) (hn : n ≤ 900) (x y z : Int) (hx : 0 ≤ x ∧ x ≤ 255) (hy : 0 ≤ y ∧ y ≤ 255) (hz : 0 ≤ z ∧ z ≤ 255) :
    Calls Try.prog 22 #[.agg #[nv, uv, rv], .agg #[.int .i64 1, .int .i64 x, .int .i64 y, .int .i64 z]] w (DoPost w B n) := by
  have HOK := Lib.hid hok
  have HBW := Lib.hid hB
  obtain ⟨na, nc, ua, uc, rc, rfl, rfl, rfl⟩ := hg.forms
  rw [hok.ul, hok.rl] at hg ⊢
  have HGM := Lib.hid hg
  have hnl : g.nodes.length ≤ 900 := Nat.le_trans hok.nl hn
  obtain ⟨hx0, hx1⟩ := hx
  obtain ⟨hy0, hy1⟩ := hy
  obtain ⟨hz0, hz1⟩ := hz
  clear hg hok
  go_enter Try.func22, Try.ntmps22
  go_wp2_with fail
  refine (gcopy_any _ B rb _ _ _ g (HGM.out.below (by repeat (first | exact Below.refl _ _ | refine Below.alloc ?_ (by first | exact Nat.le_refl _ | (simp; done) | (simp; omega)) _))) n HOK.out (by omega)).mono ?_
  rintro e w1 ⟨rb1, nv1, uv1, rv1, rfl, hm1, hb1⟩
  have hul := HOK.out.ul
  have hrl := HOK.out.rl
  obtain ⟨na1, nc1, ua1, uc1, rc1, rfl, rfl, rfl⟩ := hm1.forms
  rw [hul, hrl] at hm1
  rw [hul, hrl]
  clear hul hrl
  have st0 : DoSt w (.slice na g.nodes.length nc) (.slice ua 32 uc) (.slice (some ⟨rb, 0, none⟩) 32 rc) (.slice na1 g.nodes.length nc1) (.slice ua1 32 uc1) (.slice (some ⟨rb1, 0, none⟩) 32 rc1) 1 x y z w1.heap.size (w1.alloc (.cells #[.slice na1 g.nodes.length nc1, .slice ua1 32 uc1, .slice (some ⟨rb1, 0, none⟩) 32 rc1] 45)) := by
    have hb0 : Below w.heap.size w w1 := by
      refine Below.trans ?_ (hb1.mono (by simp; omega))
      exact (by repeat (first | exact Below.refl _ _ | refine Below.alloc ?_ (by first | exact Nat.le_refl _ | (simp; done) | (simp; omega)) _))
    have h4 : ∀ {b o}, b < w.heap.size + 1 + 1 + 1 + 1 → ((((w.alloc (.cells #[.slice na g.nodes.length nc, .slice ua 32 uc, .slice (some ⟨rb, 0, none⟩) 32 rc] 45)).alloc (.cells #[.int .i64 1, .int .i64 x, .int .i64 y, .int .i64 z] 35)).alloc (.cells #[.slice none 0 0, .slice none 0 0, .slice none 0 0] 45)).alloc (.cells #[.int .i64 0, .int .u64 0] 53)).heap[b]? = some o → w1.heap[b]? = some o := fun hb e => below_block hb1 (by simpa using hb) e
    refine ⟨hb0.alloc hb0.size _, alloc_block (h4 (by omega) (alloc_block (alloc_block (alloc_block (heap_alloc_new _ _))))), alloc_block (h4 (by omega) (alloc_block (alloc_block (heap_alloc_at _ _ _ (by simp))))), alloc_block (h4 (by omega) (alloc_block (heap_alloc_at _ _ _ (by simp)))), alloc_block (h4 (by omega) (heap_alloc_at _ _ _ (by simp))), ?_, heap_alloc_new _ _⟩
    have := hb1.size
    simp at this
    exact this
  have hm1' : GrM (w1.alloc (.cells #[.slice na1 g.nodes.length nc1, .slice ua1 32 uc1, .slice (some ⟨rb1, 0, none⟩) 32 rc1] 45)) (w.heap.size + 1 + 1 + 1 + 1) rb1 (.slice na1 g.nodes.length nc1) (.slice ua1 32 uc1) (.slice (some ⟨rb1, 0, none⟩) 32 rc1) g := (hm1.base (by simp)).keep fun k hk => Below.heap_alloc _ _ _ hk
  have hs1 : w.heap.size + 1 + 1 + 1 + 1 ≤ w1.heap.size := st0.hp
  have MM := Lib.hid hm1'
  have ST := Lib.hid st0
  clear hm1 hm1' hb1 st0
  go_upto_region 2 with (fail)
  obtain ⟨W, hW⟩ : ∃ W : World, W = (w1.alloc (.cells #[.slice na1 g.nodes.length nc1, .slice ua1 32 uc1, .slice (some ⟨rb1, 0, none⟩) 32 rc1] 45)) := ⟨_, rfl⟩
  rw [← hW] at MM ST ⊢
  generalize w1.heap.size = p at *
  clear hW
  obtain ⟨_, _, ub1, _, _, hj1, euc, hj2⟩ := MM.out.uc HOK.out.ul
  clear hj1 hj2
  simp only [Value.slice.injEq] at euc
  obtain ⟨rfl, _, rfl⟩ := euc
  have hs6 := ST.out.s6
  have hs3 := ST.out.s3
  have hhp := ST.out.hp
  have hs0 : w.heap.size < W.heap.size := (by omega)
  have hs01 : w.heap.size + 1 < W.heap.size := (by omega)
  have hs02 : w.heap.size + 1 + 1 < W.heap.size := (by omega)
  have g0c := ST.out.g0
  have g1c := ST.out.g1
  have g2c := ST.out.g2
  have o0c := ST.out.o0
  have o1c := ST.out.o1
  have o2c := ST.out.o2
  have o3c := ST.out.o3
  by_cases hx15 : 15 < x
  · have hd0 : decide (x < 0) = false := by simp; omega
    have hd1 : decide (15 < x) = true := by simpa using hx15
    go_wp2_with fail
    refine (fail_any _ _ _ _ ⟨_, _, _, rfl⟩ ⟨_, _, _, rfl⟩ ⟨_, _, _, rfl⟩ 13).mono ?_
    rintro e wf ⟨rfl, hbf⟩
    have STF := Lib.hid (ST.out.keep hbf)
    clear hbf hs6 hs3 hs0 hs01 hs02 g0c g1c g2c o0c o1c o2c o3c
    have hs6 := STF.out.s6
    have hs3 := STF.out.s3
    have hhp := STF.out.hp
    have hs0 : w.heap.size < wf.heap.size := (by omega)
    have hs01 : w.heap.size + 1 < wf.heap.size := (by omega)
    have hs02 : w.heap.size + 1 + 1 < wf.heap.size := (by omega)
    obtain ⟨r0c, fr0⟩ := STF.out.r0
    obtain ⟨r1c, fr1⟩ := STF.out.r1
    obtain ⟨r2c, fr2⟩ := STF.out.r2
    obtain ⟨q0c, fq0⟩ := STF.out.q0
    obtain ⟨q1c, fq1⟩ := STF.out.q1
    go_wp2
    exact do_ret (a1 := 13) (a2 := 0) STF.out.bel STF.out.b2 STF.out.b3 (HGM.out.below STF.out.bel) (HOK.out.more (by omega)) rfl rfl rfl
  · have hd0 : decide (x < 0) = false := by simp; omega
    have hd1 : decide (15 < x) = false := by simpa using hx15
    have hd2 : decide (y < 0) = false := by simp; omega
    by_cases hy32 : 32 < y
    · have hd3 : decide (32 < y) = true := by simpa using hy32
      go_wp2_with fail
      refine (fail_any _ _ _ _ ⟨_, _, _, rfl⟩ ⟨_, _, _, rfl⟩ ⟨_, _, _, rfl⟩ 13).mono ?_
      rintro e wf ⟨rfl, hbf⟩
      have STF := Lib.hid (ST.out.keep hbf)
      clear hbf hs6 hs3 hs0 hs01 hs02 g0c g1c g2c o0c o1c o2c o3c
      have hs6 := STF.out.s6
      have hs3 := STF.out.s3
      have hhp := STF.out.hp
      have hs0 : w.heap.size < wf.heap.size := (by omega)
      have hs01 : w.heap.size + 1 < wf.heap.size := (by omega)
      have hs02 : w.heap.size + 1 + 1 < wf.heap.size := (by omega)
      obtain ⟨r0c, fr0⟩ := STF.out.r0
      obtain ⟨r1c, fr1⟩ := STF.out.r1
      obtain ⟨r2c, fr2⟩ := STF.out.r2
      obtain ⟨q0c, fq0⟩ := STF.out.q0
      obtain ⟨q1c, fq1⟩ := STF.out.q1
      go_wp2
      exact do_ret (a1 := 13) (a2 := 0) STF.out.bel STF.out.b2 STF.out.b3 (HGM.out.below STF.out.bel) (HOK.out.more (by omega)) rfl rfl rfl
    · have hd3 : decide (32 < y) = false := by simpa using hy32
      go_wp2_with fail
      refine (free_any _ B rb _ _ _ g (HGM.out.below ST.out.bel) HOK.out.ul).mono ?_
      rintro e V ⟨rr, rfl, hrr, hbf⟩
      have HG := Lib.hid ((DrG.of ST.out (HGM.out.below ST.out.bel) MM.out).keep hbf)
      clear hbf hs6 hs3 hs0 hs01 hs02 g0c g1c g2c o0c o1c o2c o3c
      obtain ⟨g0, g1, g2, o0, o1, o2, o3, p0, p1, p2⟩ := HG.out.cells
      obtain ⟨s0, s1, s2, s3, s4⟩ := HG.out.sizes
      by_cases hr0 : rr = 0
      · subst hr0
        go_wp2_with fail
        refine (fail_any _ _ _ _ ⟨_, _, _, rfl⟩ ⟨_, _, _, rfl⟩ ⟨_, _, _, rfl⟩ 15).mono ?_
        rintro e wf ⟨rfl, hbf⟩
        have HF := Lib.hid (HG.out.keep hbf)
        clear hbf g0 g1 g2 o0 o1 o2 o3 p0 p1 p2 s0 s1 s2 s3 s4
        obtain ⟨g0, g1, g2, o0, o1, o2, o3, p0, p1, p2⟩ := HF.out.cells
        obtain ⟨s0, s1, s2, s3, s4⟩ := HF.out.sizes
        obtain ⟨z0, z1, z2, hbb2⟩ := HF.out.b2
        obtain ⟨y0, y1, hbb3⟩ := HF.out.b3
        have c0 : wf.cell? ⟨w.heap.size + 1 + 1, 0, none⟩ = some z0 := by rw [cell_block hbb2]; rfl
        have c1 : wf.cell? ⟨w.heap.size + 1 + 1, 1, none⟩ = some z1 := by rw [cell_block hbb2]; rfl
        have c2 : wf.cell? ⟨w.heap.size + 1 + 1, 2, none⟩ = some z2 := by rw [cell_block hbb2]; rfl
        have f0 : wf.frozen? ⟨w.heap.size + 1 + 1, 0, none⟩ = false := frozen_block hbb2
        have f1 : wf.frozen? ⟨w.heap.size + 1 + 1, 1, none⟩ = false := frozen_block hbb2
        have f2 : wf.frozen? ⟨w.heap.size + 1 + 1, 2, none⟩ = false := frozen_block hbb2
        have c3 : wf.cell? ⟨w.heap.size + 1 + 1 + 1, 0, none⟩ = some y0 := by rw [cell_block hbb3]; rfl
        have c4 : wf.cell? ⟨w.heap.size + 1 + 1 + 1, 1, none⟩ = some y1 := by rw [cell_block hbb3]; rfl
        have f3 : wf.frozen? ⟨w.heap.size + 1 + 1 + 1, 0, none⟩ = false := frozen_block hbb3
        have f4 : wf.frozen? ⟨w.heap.size + 1 + 1 + 1, 1, none⟩ = false := frozen_block hbb3
        have HB2 := Lib.hid hbb2
        have HB3 := Lib.hid hbb3
        clear hbb2 hbb3
        go_wp2
        exact do_ret (a1 := 15) HF.out.bel HB2.out HB3.out HF.out.ins (HOK.out.more (by omega)) rfl rfl rfl
      · have hrz : ((rr : Int) == 0) = false := by rw [beq_eq_false_iff_ne]; omega
        obtain ⟨kk, hkk⟩ : ∃ kk : Nat, rr = kk + 1 := ⟨rr - 1, by omega⟩
        have HW : Hid ((rr : Int) - 1 = (kk : Int)) := Lib.hid (by omega)
        have HWW : Hid (IntKind.i64.wrap (kk : Int) = (kk : Int)) := Lib.hid (IntWalk.i64_in _ (by omega))
        have HW9 : Hid (IntKind.i64.wrap (g.nodes.length : Int) = (g.nodes.length : Int)) := Lib.hid (IntWalk.i64_in _ (by omega))
        have hk32 : kk < 32 := by omega
        have hki0 : (0 : Int) ≤ kk := Int.natCast_nonneg _
        have hki1 : (kk : Int) < 32 := by omega
        clear hkk hr0
        obtain ⟨xk, hxk⟩ := Int.eq_ofNat_of_zero_le hx0
        obtain ⟨yk, hyk⟩ := Int.eq_ofNat_of_zero_le hy0
        have hxk15 : xk ≤ 15 := by omega
        have hyk32 : yk ≤ 32 := by omega
        obtain ⟨V1, hmk, hds, hg1, hsz0⟩ := run_make_els2 (f := fun b => [Value.int .u64 b]) (hf := fun _ => rfl) u64S 0 rfl V.heap.size V .i64 .i64 yk (by omega) (by unfold maxLen; omega) (Nat.le_refl _)
        have hmk' : (Instr.makeSlice 62 (.int .i64 (yk : Int)) (.int .i64 (yk : Int))).run Try.prog V = .ok (.slice (some ⟨V.heap.size, 0, none⟩) yk yk) V1 := hmk
        have hsz1 : V1.heap.size = V.heap.size + 1 := hsz0
        clear hmk
        have HDS := Lib.hid hds
        have HG1 := Lib.hid hg1
        clear hds hg1
        subst hxk hyk
        go_wp2
        rw [hsz1] at *
        have HBL : Hid (Below V.heap.size V (V1.alloc (.cells #[.slice none 0 0, .slice (some ⟨V.heap.size, 0, none⟩) yk yk] 64))) := Lib.hid (((Below.refl _ _).grown HG1.out (Nat.le_refl _) (fun k h => by cases h)).alloc (by omega) _)
        go_loopw [9] (fun i wr => AlL V yk xk i wr) (fun i _ => xk - (intOf i).toNat)
        case atStart => exact ⟨0, _, _, rfl, by omega, HBL.out, heap_alloc_at _ _ _ (by omega), Own.nil _ _ _ _, HDS.out.alloc _⟩
        case round =>
          obtain ⟨k, rs, ds, rfl, hk15, hbl, hnb, hrs, hds⟩ := hrel.out
          clear hrel
          obtain ⟨ra, rac, rfl⟩ := own_form hrs
          obtain ⟨da, dac, rfl⟩ := own_form hds
          rw [List.length_replicate] at hnb
          have n0 : wr.cell? ⟨V.heap.size + 1, 0, none⟩ = some (.slice ra k rac) := by rw [cell_block hnb]; simp
          have n1 : wr.cell? ⟨V.heap.size + 1, 1, none⟩ = some (.slice da yk dac) := by rw [cell_block hnb]; simp
          have nf : wr.frozen? ⟨V.heap.size + 1, 0, none⟩ = false := frozen_block hnb
          have hnl2 := block_lt hnb
          have HGR := Lib.hid (HG.out.keep hbl)
          have HBW2 := Lib.hid hbl
          have HNB := Lib.hid hnb
          have HRS := Lib.hid hrs
          have HDS2 := Lib.hid hds
          clear hbl hnb hrs hds g0 g1 g2 o0 o1 o2 o3 p0 p1 p2 s0 s1 s2 s3 s4
          obtain ⟨g0, g1, g2, o0, o1, o2, o3, p0, p1, p2⟩ := HGR.out.cells
          obtain ⟨s0, s1, s2, s3, s4⟩ := HGR.out.sizes
          by_cases hlt : k < xk
          · have hbytes : ((List.replicate k (-1 : Int)).length + 1) * 8 ≤ 140737488355328 := by simp; omega
            have hml : (List.replicate k (-1 : Int)).length + 1 ≤ maxLen := by unfold maxLen; simp; omega
            have hB2 : V.heap.size ≤ wr.heap.size := by omega
            have HRS3 : Hid (Own i64E wr V.heap.size 3 (.slice ra k rac) (List.replicate k (-1))) := Lib.hid (by have h := HRS.out; rw [List.length_replicate] at h; exact h)
            go_wp2_with (at_builtin; go_must (refine wpList_append_lit i64E i64S rfl _ _ rfl V.heap.size _ (List.replicate k (-1)) rfl HRS3.out (-1 : Int) _ _ rfl rfl rfl ?_ hbytes hml hB2 (fun _ _ _ _ h => h) ?_))
            · simp [Value.oneCell']
            · intro v' w' ho hg hb2
              obtain ⟨va', vc', rfl⟩ := own_form ho
              have hnb' := grown_block hg (alloc_block HNB.out) (HRS3.out.ne_block HNB.out (by decide))
              have hds' := (HDS2.out.alloc (.cells #[.int .i64 (-1)] 3)).kept hg (HDS2.out.ne_own HRS3.out (by decide)) (fun _ _ e => e)
              have nf' : w'.frozen? ⟨V.heap.size + 1, 0, none⟩ = false := frozen_block hnb'
              have nc' : w'.cell? ⟨V.heap.size + 1, 0, none⟩ = some (.slice ra k rac) := by rw [cell_block hnb']; rfl
              have nl' := block_lt hnb'
              have HL : Hid (AlL V yk xk (.int .i64 ((k : Int) + 1)) (w'.setCell ⟨V.heap.size + 1, 0, none⟩ (.slice va' (List.replicate k (-1 : Int) ++ [-1]).length vc'))) := Lib.hid ⟨k + 1, _, _, by norm_cast, by omega, bset (HBW2.out.trans hb2) (by omega) _, by rw [setCell_block hnb']; rfl, by rw [List.replicate_succ']; exact ho.setT hnb' (by decide), hds'.setT hnb' (by decide)⟩
              generalize hlen : (List.replicate k (-1 : Int) ++ [-1]).length = ln at *
              have HLN := Lib.hid hlen
              clear ho hg hb2 hnb' hds' hlen
              go_wp2
              go_roundw
              case rel => exact HL.out
              case measure => simp [intOf]; omega
          · obtain rfl : k = xk := by omega
            have HND : ∃ nd : Nd, nd = ⟨List.replicate k (-1), List.replicate yk 0⟩ := ⟨_, rfl⟩
            obtain ⟨nd, hnd⟩ := HND
            have HNE := Lib.hid hnd
            clear hnd
            have how := HGR.out.out.nodes
            have HOW := Lib.hid how
            clear how
            have hbytes : (g.nodes.length + 1) * 48 ≤ 140737488355328 := by omega
            have hml : g.nodes.length + 1 ≤ maxLen := by unfold maxLen; omega
            have hhp := HGR.out.hp
            have hB2 : w.heap.size + 1 + 1 + 1 + 1 ≤ wr.heap.size := by omega
            have hvlow : w.heap.size + 1 + 1 + 1 + 1 ≤ V.heap.size := by have := HG.out.sizes.2.2.2.2; omega
            have hrbV := (HG.out.out.roots.lt rb1 rfl).2
            have hrA := HRS.out.base hvlow
            rw [List.length_replicate] at hrA
            have hdA := HDS2.out.base hvlow
            rw [List.length_replicate] at hdA
            have hneA : (Value.slice ra k rac).ownBlock ≠ some rb1 := fun e => by have h := (HRS.out.lt rb1 (by rw [List.length_replicate]; exact e)).1; omega
            have HREL : Hid ((ndE (w.heap.size + 1 + 1 + 1 + 1) rb1).rel wr nd #[.slice ra k rac, .slice da yk dac].toList) := Lib.hid (by rw [HNE.out]; exact ⟨_, _, rfl, hrA, hdA, hneA⟩)
            clear hrA hdA hneA
            go_wp2_with (at_builtin; go_must (refine wpList_append_lit (ndE (w.heap.size + 1 + 1 + 1 + 1) rb1) ndS rfl _ _ rfl (w.heap.size + 1 + 1 + 1 + 1) _ g.nodes rfl HOW.out nd _ _ rfl rfl HREL.out ?_ hbytes hml hB2 (fun w' x cs hg h => ndE_grown hg (HOW.out.alloc _) h) ?_))
            · simp [Value.oneCell']
            · intro v' w' ho hg hb2
              have HG2 := Lib.hid ((HGR.out.keep ((Below.refl _ _).alloc (Nat.le_refl _) _)).node HGM.out hg ho)
              obtain ⟨vb, vc, rfl⟩ := own_form ho
              rw [List.length_append, List.length_singleton] at HG2
              have hk6 := grown_block hg (alloc_block HGR.out.b6) (HOW.out.ne_block HGR.out.b6 (by decide))
              have pf : w'.frozen? ⟨p, 0, none⟩ = false := frozen_block hk6
              have pc : w'.cell? ⟨p, 0, none⟩ = some (.slice na1 g.nodes.length nc1) := by rw [cell_block hk6]; rfl
              have pl := block_lt hk6
              have HOK1 : Hid (GrOk (n + 1) (nodeUp g nd)) := Lib.hid (nodeUp_ok HOK.out (by rw [HNE.out]; simp; omega) (by rw [HNE.out]; simp; omega) (fun r hr => by rw [HNE.out] at hr; simp at hr; exact hr.2))
              clear ho hg hb2 hk6 n0 n1 nf g0 g1 g2 o0 o1 o2 o3 p0 p1 p2 s0 s1 s2 s3 s4 HGR HG
              go_wp2
              obtain ⟨V, hV⟩ : ∃ V : World, V = (w'.setCell ⟨p, 0, none⟩ (.slice vb (g.nodes.length + 1) vc)) := ⟨_, rfl⟩
              rw [← hV] at HG2 ⊢
              clear hV pf pc pl
              have HG := HG2
              clear HG2
              refine wp_region_facts2 (by kernel_rfl) (fun L => DrG w (.slice na g.nodes.length nc) (.slice ua 32 uc) (.slice (some ⟨rb, 0, none⟩) 32 rc) (.slice vb (g.nodes.length + 1) vc) (.slice (some ⟨ub1, 0, none⟩) 32 uc1) (.slice (some ⟨rb1, 0, none⟩) 32 rc1) 1 (k : Int) (yk : Int) z p B rb rb1 g (upG (nodeUp g nd) kk true (g.nodes.length : Int) (L 13) (L 15))) (fun _ _ _ => True) (DaF (fun i => match i with | 0 => (.pointer (some ⟨p, 1, none⟩)) | 1 => (.slice (some ⟨ub1, 0, none⟩) 32 uc1) | 2 => (.int .i64 rr) | 3 => (.int .i64 kk) | 4 => (.pointer (some ⟨p, 2, none⟩)) | 5 => (.slice (some ⟨rb1, 0, none⟩) 32 rc1) | 6 => (.int .i64 rr) | 7 => (.int .i64 kk) | 8 => (.pointer (some ⟨p, 0, none⟩)) | 9 => (.slice vb (g.nodes.length + 1) vc) | 10 => (.int .i64 ((g.nodes.length : Int) + 1)) | 11 => (.int .i64 g.nodes.length) | 12 => (.pointer (some ⟨ub1, kk, none⟩)) | 14 => (.pointer (some ⟨rb1, kk, none⟩)) | _ => undef)) DaLoc (by kernel_rfl) (by kernel_rfl) (by kernel_rfl) (DaF.loc _) (fun i j a W W' _ _ _ h => DaF.stab _ j a W W' h) ?_ ?_ ?_
              · exact HG.out.keep ((Below.refl _ _).drew)
              · skip
                refine RSteps2.cons (RStep2.mk rfl rfl fun t V hsz hout L hun hdn hG hdep K hK => ?_) ?_
                · have HS : Hid (79 < t.size) := Lib.hid (by rw [show t.size = 324 from hsz]; decide)
                  have HX : Hid (DrG w (.slice na g.nodes.length nc) (.slice ua 32 uc) (.slice (some ⟨rb, 0, none⟩) 32 rc) (.slice vb (g.nodes.length + 1) vc) (.slice (some ⟨ub1, 0, none⟩) 32 uc1) (.slice (some ⟨rb1, 0, none⟩) 32 rc1) 1 (k : Int) (yk : Int) z p B rb rb1 g (upG (nodeUp g nd) kk true (g.nodes.length : Int) (upd L 0 13) (upd L 0 15)) V) := Lib.hid (by rw [upd_ne (by decide), upd_ne (by decide)]; exact hG)
                  obtain ⟨g0, g1, g2, o0, o1, o2, o3, p0, p1, p2⟩ := hG.cells
                  obtain ⟨s0, s1, s2, s3, s4⟩ := hG.sizes
                  have t6 : t[6]? = some (.pointer (some ⟨p, 0, none⟩)) := hout 6 (by kernel_rfl)
                  clear hout hdep hun hdn hsz
                  go_simp
                  exact hK.out (.pointer (some ⟨p, 1, none⟩)) _ HX.out trivial (put_here HS.out)
                refine RSteps2.cons (RStep2.mk rfl rfl fun t V hsz hout L hun hdn hG hdep K hK => ?_) ?_
                · have HS : Hid (80 < t.size) := Lib.hid (by rw [show t.size = 324 from hsz]; decide)
                  have HX : Hid (DrG w (.slice na g.nodes.length nc) (.slice ua 32 uc) (.slice (some ⟨rb, 0, none⟩) 32 rc) (.slice vb (g.nodes.length + 1) vc) (.slice (some ⟨ub1, 0, none⟩) 32 uc1) (.slice (some ⟨rb1, 0, none⟩) 32 rc1) 1 (k : Int) (yk : Int) z p B rb rb1 g (upG (nodeUp g nd) kk true (g.nodes.length : Int) (upd L 1 13) (upd L 1 15)) V) := Lib.hid (by rw [upd_ne (by decide), upd_ne (by decide)]; exact hG)
                  obtain ⟨g0, g1, g2, o0, o1, o2, o3, p0, p1, p2⟩ := hG.cells
                  obtain ⟨s0, s1, s2, s3, s4⟩ := hG.sizes
                  have t79 : t[79]? = some (.pointer (some ⟨p, 1, none⟩)) := hdep 0 (by kernel_rfl)
                  clear hout hdep hun hdn hsz
                  go_simp
                  exact hK.out (.slice (some ⟨ub1, 0, none⟩) 32 uc1) _ HX.out trivial (put_here HS.out)
                refine RSteps2.cons (RStep2.mk rfl rfl fun t V hsz hout L hun hdn hG hdep K hK => ?_) ?_
                · have HS : Hid (81 < t.size) := Lib.hid (by rw [show t.size = 324 from hsz]; decide)
                  have HX : Hid (DrG w (.slice na g.nodes.length nc) (.slice ua 32 uc) (.slice (some ⟨rb, 0, none⟩) 32 rc) (.slice vb (g.nodes.length + 1) vc) (.slice (some ⟨ub1, 0, none⟩) 32 uc1) (.slice (some ⟨rb1, 0, none⟩) 32 rc1) 1 (k : Int) (yk : Int) z p B rb rb1 g (upG (nodeUp g nd) kk true (g.nodes.length : Int) (upd L 2 13) (upd L 2 15)) V) := Lib.hid (by rw [upd_ne (by decide), upd_ne (by decide)]; exact hG)
                  obtain ⟨g0, g1, g2, o0, o1, o2, o3, p0, p1, p2⟩ := hG.cells
                  obtain ⟨s0, s1, s2, s3, s4⟩ := hG.sizes
                  have t7 : t[7]? = some (.int .i64 rr) := hout 7 (by kernel_rfl)
                  clear hout hdep hun hdn hsz
                  go_simp
                  exact hK.out (.int .i64 rr) _ HX.out trivial (put_here HS.out)
                refine RSteps2.cons (RStep2.mk rfl rfl fun t V hsz hout L hun hdn hG hdep K hK => ?_) ?_
                · have HS : Hid (82 < t.size) := Lib.hid (by rw [show t.size = 324 from hsz]; decide)
                  have HX : Hid (DrG w (.slice na g.nodes.length nc) (.slice ua 32 uc) (.slice (some ⟨rb, 0, none⟩) 32 rc) (.slice vb (g.nodes.length + 1) vc) (.slice (some ⟨ub1, 0, none⟩) 32 uc1) (.slice (some ⟨rb1, 0, none⟩) 32 rc1) 1 (k : Int) (yk : Int) z p B rb rb1 g (upG (nodeUp g nd) kk true (g.nodes.length : Int) (upd L 3 13) (upd L 3 15)) V) := Lib.hid (by rw [upd_ne (by decide), upd_ne (by decide)]; exact hG)
                  obtain ⟨g0, g1, g2, o0, o1, o2, o3, p0, p1, p2⟩ := hG.cells
                  obtain ⟨s0, s1, s2, s3, s4⟩ := hG.sizes
                  have t81 : t[81]? = some (.int .i64 rr) := hdep 2 (by kernel_rfl)
                  have hw := HW.out
                  have hww := HWW.out
                  clear hout hdep hun hdn hsz
                  go_simp
                  exact hK.out (.int .i64 kk) _ HX.out trivial (put_here HS.out)
                refine RSteps2.cons (RStep2.mk rfl rfl fun t V hsz hout L hun hdn hG hdep K hK => ?_) ?_
                · have HS : Hid (83 < t.size) := Lib.hid (by rw [show t.size = 324 from hsz]; decide)
                  have HX : Hid (DrG w (.slice na g.nodes.length nc) (.slice ua 32 uc) (.slice (some ⟨rb, 0, none⟩) 32 rc) (.slice vb (g.nodes.length + 1) vc) (.slice (some ⟨ub1, 0, none⟩) 32 uc1) (.slice (some ⟨rb1, 0, none⟩) 32 rc1) 1 (k : Int) (yk : Int) z p B rb rb1 g (upG (nodeUp g nd) kk true (g.nodes.length : Int) (upd L 4 13) (upd L 4 15)) V) := Lib.hid (by rw [upd_ne (by decide), upd_ne (by decide)]; exact hG)
                  obtain ⟨g0, g1, g2, o0, o1, o2, o3, p0, p1, p2⟩ := hG.cells
                  obtain ⟨s0, s1, s2, s3, s4⟩ := hG.sizes
                  have t6 : t[6]? = some (.pointer (some ⟨p, 0, none⟩)) := hout 6 (by kernel_rfl)
                  clear hout hdep hun hdn hsz
                  go_simp
                  exact hK.out (.pointer (some ⟨p, 2, none⟩)) _ HX.out trivial (put_here HS.out)
                refine RSteps2.cons (RStep2.mk rfl rfl fun t V hsz hout L hun hdn hG hdep K hK => ?_) ?_
                · have HS : Hid (84 < t.size) := Lib.hid (by rw [show t.size = 324 from hsz]; decide)
                  have HX : Hid (DrG w (.slice na g.nodes.length nc) (.slice ua 32 uc) (.slice (some ⟨rb, 0, none⟩) 32 rc) (.slice vb (g.nodes.length + 1) vc) (.slice (some ⟨ub1, 0, none⟩) 32 uc1) (.slice (some ⟨rb1, 0, none⟩) 32 rc1) 1 (k : Int) (yk : Int) z p B rb rb1 g (upG (nodeUp g nd) kk true (g.nodes.length : Int) (upd L 5 13) (upd L 5 15)) V) := Lib.hid (by rw [upd_ne (by decide), upd_ne (by decide)]; exact hG)
                  obtain ⟨g0, g1, g2, o0, o1, o2, o3, p0, p1, p2⟩ := hG.cells
                  obtain ⟨s0, s1, s2, s3, s4⟩ := hG.sizes
                  have t83 : t[83]? = some (.pointer (some ⟨p, 2, none⟩)) := hdep 4 (by kernel_rfl)
                  clear hout hdep hun hdn hsz
                  go_simp
                  exact hK.out (.slice (some ⟨rb1, 0, none⟩) 32 rc1) _ HX.out trivial (put_here HS.out)
                refine RSteps2.cons (RStep2.mk rfl rfl fun t V hsz hout L hun hdn hG hdep K hK => ?_) ?_
                · have HS : Hid (85 < t.size) := Lib.hid (by rw [show t.size = 324 from hsz]; decide)
                  have HX : Hid (DrG w (.slice na g.nodes.length nc) (.slice ua 32 uc) (.slice (some ⟨rb, 0, none⟩) 32 rc) (.slice vb (g.nodes.length + 1) vc) (.slice (some ⟨ub1, 0, none⟩) 32 uc1) (.slice (some ⟨rb1, 0, none⟩) 32 rc1) 1 (k : Int) (yk : Int) z p B rb rb1 g (upG (nodeUp g nd) kk true (g.nodes.length : Int) (upd L 6 13) (upd L 6 15)) V) := Lib.hid (by rw [upd_ne (by decide), upd_ne (by decide)]; exact hG)
                  obtain ⟨g0, g1, g2, o0, o1, o2, o3, p0, p1, p2⟩ := hG.cells
                  obtain ⟨s0, s1, s2, s3, s4⟩ := hG.sizes
                  have t7 : t[7]? = some (.int .i64 rr) := hout 7 (by kernel_rfl)
                  clear hout hdep hun hdn hsz
                  go_simp
                  exact hK.out (.int .i64 rr) _ HX.out trivial (put_here HS.out)
                refine RSteps2.cons (RStep2.mk rfl rfl fun t V hsz hout L hun hdn hG hdep K hK => ?_) ?_
                · have HS : Hid (86 < t.size) := Lib.hid (by rw [show t.size = 324 from hsz]; decide)
                  have HX : Hid (DrG w (.slice na g.nodes.length nc) (.slice ua 32 uc) (.slice (some ⟨rb, 0, none⟩) 32 rc) (.slice vb (g.nodes.length + 1) vc) (.slice (some ⟨ub1, 0, none⟩) 32 uc1) (.slice (some ⟨rb1, 0, none⟩) 32 rc1) 1 (k : Int) (yk : Int) z p B rb rb1 g (upG (nodeUp g nd) kk true (g.nodes.length : Int) (upd L 7 13) (upd L 7 15)) V) := Lib.hid (by rw [upd_ne (by decide), upd_ne (by decide)]; exact hG)
                  obtain ⟨g0, g1, g2, o0, o1, o2, o3, p0, p1, p2⟩ := hG.cells
                  obtain ⟨s0, s1, s2, s3, s4⟩ := hG.sizes
                  have t85 : t[85]? = some (.int .i64 rr) := hdep 6 (by kernel_rfl)
                  have hw := HW.out
                  have hww := HWW.out
                  clear hout hdep hun hdn hsz
                  go_simp
                  exact hK.out (.int .i64 kk) _ HX.out trivial (put_here HS.out)
                refine RSteps2.cons (RStep2.mk rfl rfl fun t V hsz hout L hun hdn hG hdep K hK => ?_) ?_
                · have HS : Hid (87 < t.size) := Lib.hid (by rw [show t.size = 324 from hsz]; decide)
                  have HX : Hid (DrG w (.slice na g.nodes.length nc) (.slice ua 32 uc) (.slice (some ⟨rb, 0, none⟩) 32 rc) (.slice vb (g.nodes.length + 1) vc) (.slice (some ⟨ub1, 0, none⟩) 32 uc1) (.slice (some ⟨rb1, 0, none⟩) 32 rc1) 1 (k : Int) (yk : Int) z p B rb rb1 g (upG (nodeUp g nd) kk true (g.nodes.length : Int) (upd L 8 13) (upd L 8 15)) V) := Lib.hid (by rw [upd_ne (by decide), upd_ne (by decide)]; exact hG)
                  obtain ⟨g0, g1, g2, o0, o1, o2, o3, p0, p1, p2⟩ := hG.cells
                  obtain ⟨s0, s1, s2, s3, s4⟩ := hG.sizes
                  have t6 : t[6]? = some (.pointer (some ⟨p, 0, none⟩)) := hout 6 (by kernel_rfl)
                  clear hout hdep hun hdn hsz
                  go_simp
                  exact hK.out (.pointer (some ⟨p, 0, none⟩)) _ HX.out trivial (put_here HS.out)
                refine RSteps2.cons (RStep2.mk rfl rfl fun t V hsz hout L hun hdn hG hdep K hK => ?_) ?_
                · have HS : Hid (88 < t.size) := Lib.hid (by rw [show t.size = 324 from hsz]; decide)
                  have HX : Hid (DrG w (.slice na g.nodes.length nc) (.slice ua 32 uc) (.slice (some ⟨rb, 0, none⟩) 32 rc) (.slice vb (g.nodes.length + 1) vc) (.slice (some ⟨ub1, 0, none⟩) 32 uc1) (.slice (some ⟨rb1, 0, none⟩) 32 rc1) 1 (k : Int) (yk : Int) z p B rb rb1 g (upG (nodeUp g nd) kk true (g.nodes.length : Int) (upd L 9 13) (upd L 9 15)) V) := Lib.hid (by rw [upd_ne (by decide), upd_ne (by decide)]; exact hG)
                  obtain ⟨g0, g1, g2, o0, o1, o2, o3, p0, p1, p2⟩ := hG.cells
                  obtain ⟨s0, s1, s2, s3, s4⟩ := hG.sizes
                  have t87 : t[87]? = some (.pointer (some ⟨p, 0, none⟩)) := hdep 8 (by kernel_rfl)
                  clear hout hdep hun hdn hsz
                  go_simp
                  exact hK.out (.slice vb (g.nodes.length + 1) vc) _ HX.out trivial (put_here HS.out)
                refine RSteps2.cons (RStep2.mk rfl rfl fun t V hsz hout L hun hdn hG hdep K hK => ?_) ?_
                · have HS : Hid (89 < t.size) := Lib.hid (by rw [show t.size = 324 from hsz]; decide)
                  have HX : Hid (DrG w (.slice na g.nodes.length nc) (.slice ua 32 uc) (.slice (some ⟨rb, 0, none⟩) 32 rc) (.slice vb (g.nodes.length + 1) vc) (.slice (some ⟨ub1, 0, none⟩) 32 uc1) (.slice (some ⟨rb1, 0, none⟩) 32 rc1) 1 (k : Int) (yk : Int) z p B rb rb1 g (upG (nodeUp g nd) kk true (g.nodes.length : Int) (upd L 10 13) (upd L 10 15)) V) := Lib.hid (by rw [upd_ne (by decide), upd_ne (by decide)]; exact hG)
                  obtain ⟨g0, g1, g2, o0, o1, o2, o3, p0, p1, p2⟩ := hG.cells
                  obtain ⟨s0, s1, s2, s3, s4⟩ := hG.sizes
                  have t88 : t[88]? = some (.slice vb (g.nodes.length + 1) vc) := hdep 9 (by kernel_rfl)
                  clear hout hdep hun hdn hsz
                  go_simp
                  exact hK.out (.int .i64 ((g.nodes.length : Int) + 1)) _ HX.out trivial (put_here HS.out)
                refine RSteps2.cons (RStep2.mk rfl rfl fun t V hsz hout L hun hdn hG hdep K hK => ?_) ?_
                · have HS : Hid (90 < t.size) := Lib.hid (by rw [show t.size = 324 from hsz]; decide)
                  have HX : Hid (DrG w (.slice na g.nodes.length nc) (.slice ua 32 uc) (.slice (some ⟨rb, 0, none⟩) 32 rc) (.slice vb (g.nodes.length + 1) vc) (.slice (some ⟨ub1, 0, none⟩) 32 uc1) (.slice (some ⟨rb1, 0, none⟩) 32 rc1) 1 (k : Int) (yk : Int) z p B rb rb1 g (upG (nodeUp g nd) kk true (g.nodes.length : Int) (upd L 11 13) (upd L 11 15)) V) := Lib.hid (by rw [upd_ne (by decide), upd_ne (by decide)]; exact hG)
                  obtain ⟨g0, g1, g2, o0, o1, o2, o3, p0, p1, p2⟩ := hG.cells
                  obtain ⟨s0, s1, s2, s3, s4⟩ := hG.sizes
                  have t89 : t[89]? = some (.int .i64 ((g.nodes.length : Int) + 1)) := hdep 10 (by kernel_rfl)
                  have hw9 := HW9.out
                  clear hout hdep hun hdn hsz
                  go_simp
                  exact hK.out (.int .i64 g.nodes.length) _ HX.out trivial (put_here HS.out)
                refine RSteps2.cons (RStep2.mk rfl rfl fun t V hsz hout L hun hdn hG hdep K hK => ?_) ?_
                · have HS : Hid (91 < t.size) := Lib.hid (by rw [show t.size = 324 from hsz]; decide)
                  have HX : Hid (DrG w (.slice na g.nodes.length nc) (.slice ua 32 uc) (.slice (some ⟨rb, 0, none⟩) 32 rc) (.slice vb (g.nodes.length + 1) vc) (.slice (some ⟨ub1, 0, none⟩) 32 uc1) (.slice (some ⟨rb1, 0, none⟩) 32 rc1) 1 (k : Int) (yk : Int) z p B rb rb1 g (upG (nodeUp g nd) kk true (g.nodes.length : Int) (upd L 12 13) (upd L 12 15)) V) := Lib.hid (by rw [upd_ne (by decide), upd_ne (by decide)]; exact hG)
                  obtain ⟨g0, g1, g2, o0, o1, o2, o3, p0, p1, p2⟩ := hG.cells
                  obtain ⟨s0, s1, s2, s3, s4⟩ := hG.sizes
                  have t80 : t[80]? = some (.slice (some ⟨ub1, 0, none⟩) 32 uc1) := hdep 1 (by kernel_rfl)
                  have t82 : t[82]? = some (.int .i64 kk) := hdep 3 (by kernel_rfl)
                  clear hout hdep hun hdn hsz
                  go_simp
                  exact hK.out (.pointer (some ⟨ub1, kk, none⟩)) _ HX.out trivial (put_here HS.out)
                refine RSteps2.cons (RStep2.mk rfl rfl fun t V hsz hout L hun hdn hG hdep K hK => ?_) ?_
                · skip
                  have t91 : t[91]? = some (.pointer (some ⟨ub1, kk, none⟩)) := hdep 12 (by kernel_rfl)
                  have hG1 : DrG w (.slice na g.nodes.length nc) (.slice ua 32 uc) (.slice (some ⟨rb, 0, none⟩) 32 rc) (.slice vb (g.nodes.length + 1) vc) (.slice (some ⟨ub1, 0, none⟩) 32 uc1) (.slice (some ⟨rb1, 0, none⟩) 32 rc1) 1 (k : Int) (yk : Int) z p B rb rb1 g (upG (nodeUp g nd) kk true (g.nodes.length : Int) (L 13) (L 15)) V := hG
                  rw [show L 13 = false from hun] at hG1
                  have hkl : kk < (upG (nodeUp g nd) kk true (g.nodes.length : Int) false (L 15)).used.length := by have := HOK1.out.ul; simp [upG]; omega
                  obtain ⟨_, hlt, hc, hf, _⟩ := hG1.out.used.set1 kk hkl
                  obtain ⟨qv, hc'⟩ : ∃ qv, V.cell? ⟨ub1, kk, none⟩ = some (.bool qv) := ⟨_, hc⟩
                  have HX : Hid (DrG w (.slice na g.nodes.length nc) (.slice ua 32 uc) (.slice (some ⟨rb, 0, none⟩) 32 rc) (.slice vb (g.nodes.length + 1) vc) (.slice (some ⟨ub1, 0, none⟩) 32 uc1) (.slice (some ⟨rb1, 0, none⟩) 32 rc1) 1 (k : Int) (yk : Int) z p B rb rb1 g (upG (nodeUp g nd) kk true (g.nodes.length : Int) (upd L 13 13) (upd L 13 15)) _) := Lib.hid (by rw [show upd L 13 13 = true by simp [upd], upd_ne (by decide)]; exact hG1.setU HGM.out hkl true)
                  clear hkl hc hG1 hG hout hdep hun hdn hsz
                  go_simp
                  exact hK.out undef _ HX.out trivial trivial
                refine RSteps2.cons (RStep2.mk rfl rfl fun t V hsz hout L hun hdn hG hdep K hK => ?_) ?_
                · have HS : Hid (92 < t.size) := Lib.hid (by rw [show t.size = 324 from hsz]; decide)
                  have HX : Hid (DrG w (.slice na g.nodes.length nc) (.slice ua 32 uc) (.slice (some ⟨rb, 0, none⟩) 32 rc) (.slice vb (g.nodes.length + 1) vc) (.slice (some ⟨ub1, 0, none⟩) 32 uc1) (.slice (some ⟨rb1, 0, none⟩) 32 rc1) 1 (k : Int) (yk : Int) z p B rb rb1 g (upG (nodeUp g nd) kk true (g.nodes.length : Int) (upd L 14 13) (upd L 14 15)) V) := Lib.hid (by rw [upd_ne (by decide), upd_ne (by decide)]; exact hG)
                  obtain ⟨g0, g1, g2, o0, o1, o2, o3, p0, p1, p2⟩ := hG.cells
                  obtain ⟨s0, s1, s2, s3, s4⟩ := hG.sizes
                  have t84 : t[84]? = some (.slice (some ⟨rb1, 0, none⟩) 32 rc1) := hdep 5 (by kernel_rfl)
                  have t86 : t[86]? = some (.int .i64 kk) := hdep 7 (by kernel_rfl)
                  clear hout hdep hun hdn hsz
                  go_simp
                  exact hK.out (.pointer (some ⟨rb1, kk, none⟩)) _ HX.out trivial (put_here HS.out)
                refine RSteps2.cons (RStep2.mk rfl rfl fun t V hsz hout L hun hdn hG hdep K hK => ?_) ?_
                · skip
                  have t92 : t[92]? = some (.pointer (some ⟨rb1, kk, none⟩)) := hdep 14 (by kernel_rfl)
                  have t90 : t[90]? = some (.int .i64 g.nodes.length) := hdep 11 (by kernel_rfl)
                  have hG1 : DrG w (.slice na g.nodes.length nc) (.slice ua 32 uc) (.slice (some ⟨rb, 0, none⟩) 32 rc) (.slice vb (g.nodes.length + 1) vc) (.slice (some ⟨ub1, 0, none⟩) 32 uc1) (.slice (some ⟨rb1, 0, none⟩) 32 rc1) 1 (k : Int) (yk : Int) z p B rb rb1 g (upG (nodeUp g nd) kk true (g.nodes.length : Int) (L 13) (L 15)) V := hG
                  rw [show L 15 = false from hun] at hG1
                  have hkl : kk < (upG (nodeUp g nd) kk true (g.nodes.length : Int) (L 13) false).roots.length := by have := HOK1.out.rl; simp [upG]; omega
                  obtain ⟨_, hlt, hc, hf, _⟩ := hG1.out.roots.set1 kk hkl
                  obtain ⟨qv, hc'⟩ : ∃ qv, V.cell? ⟨rb1, kk, none⟩ = some (.int .i64 qv) := ⟨_, hc⟩
                  have HX : Hid (DrG w (.slice na g.nodes.length nc) (.slice ua 32 uc) (.slice (some ⟨rb, 0, none⟩) 32 rc) (.slice vb (g.nodes.length + 1) vc) (.slice (some ⟨ub1, 0, none⟩) 32 uc1) (.slice (some ⟨rb1, 0, none⟩) 32 rc1) 1 (k : Int) (yk : Int) z p B rb rb1 g (upG (nodeUp g nd) kk true (g.nodes.length : Int) (upd L 15 13) (upd L 15 15)) _) := Lib.hid (by rw [show upd L 15 15 = true by simp [upd], upd_ne (by decide)]; exact hG1.setR HGM.out hkl (g.nodes.length : Int))
                  clear hkl hc hG1 hG hout hdep hun hdn hsz
                  go_simp
                  exact hK.out undef _ HX.out trivial trivial
                exact RSteps2.nil (by decide)
              · intro a' V hR
                have hG : DrG w (.slice na g.nodes.length nc) (.slice ua 32 uc) (.slice (some ⟨rb, 0, none⟩) 32 rc) (.slice vb (g.nodes.length + 1) vc) (.slice (some ⟨ub1, 0, none⟩) 32 uc1) (.slice (some ⟨rb1, 0, none⟩) 32 rc1) 1 (k : Int) (yk : Int) z p B rb rb1 g (upG (nodeUp g nd) kk true (g.nodes.length : Int) true true) V := hR.g
                obtain ⟨f, rfl, hf⟩ := hR.frameS rfl [79, 80, 81, 82, 83, 84, 85, 86, 87, 88, 89, 90, 91, 92] (by intro k hk; simp at hk; simp [writes]; omega)
                clear hR hf
                simp only [setAll, List.map_cons, List.map_nil, List.set_cons_succ, List.set_cons_zero]
                generalize f 79 = v79
                generalize f 80 = v80
                generalize f 81 = v81
                generalize f 82 = v82
                generalize f 83 = v83
                generalize f 84 = v84
                generalize f 85 = v85
                generalize f 86 = v86
                generalize f 87 = v87
                generalize f 88 = v88
                generalize f 89 = v89
                generalize f 90 = v90
                generalize f 91 = v91
                generalize f 92 = v92
                clear f
                have HG2 := Lib.hid hG
                clear hG
                obtain ⟨g0, g1, g2, o0, o1, o2, o3, p0, p1, p2⟩ := HG2.out.cells
                obtain ⟨s0, s1, s2, s3, s4⟩ := HG2.out.sizes
                obtain ⟨z0, z1, z2, hbb2⟩ := HG2.out.b2
                obtain ⟨y0, y1, hbb3⟩ := HG2.out.b3
                have c0 : V.cell? ⟨w.heap.size + 1 + 1, 0, none⟩ = some z0 := by rw [cell_block hbb2]; rfl
                have c1 : V.cell? ⟨w.heap.size + 1 + 1, 1, none⟩ = some z1 := by rw [cell_block hbb2]; rfl
                have c2 : V.cell? ⟨w.heap.size + 1 + 1, 2, none⟩ = some z2 := by rw [cell_block hbb2]; rfl
                have f0 : V.frozen? ⟨w.heap.size + 1 + 1, 0, none⟩ = false := frozen_block hbb2
                have f1 : V.frozen? ⟨w.heap.size + 1 + 1, 1, none⟩ = false := frozen_block hbb2
                have f2 : V.frozen? ⟨w.heap.size + 1 + 1, 2, none⟩ = false := frozen_block hbb2
                have c3 : V.cell? ⟨w.heap.size + 1 + 1 + 1, 0, none⟩ = some y0 := by rw [cell_block hbb3]; rfl
                have c4 : V.cell? ⟨w.heap.size + 1 + 1 + 1, 1, none⟩ = some y1 := by rw [cell_block hbb3]; rfl
                have f3 : V.frozen? ⟨w.heap.size + 1 + 1 + 1, 0, none⟩ = false := frozen_block hbb3
                have f4 : V.frozen? ⟨w.heap.size + 1 + 1 + 1, 1, none⟩ = false := frozen_block hbb3
                have HB2 := Lib.hid hbb2
                have HB3 := Lib.hid hbb3
                clear hbb2 hbb3
                go_wp2
                exact do_ret (a1 := 0) HG2.out.bel HB2.out HB3.out (HG2.out.out.base (by have := HBW.out; omega)) ((upG_ok HOK1.out (fun _ => ⟨by omega, by simp [nodeUp]; omega⟩) (by omega)).more (by omega)) rfl rfl rfl
end Go.Proofs.Ytadoehlhfccacaa
