/- One drawn operation, 20 handles at most. -/
import Derived.Test.YtadoehlhfccacaaOpP
import Derived.Test.YtadoehlhfccacaaEncP
namespace Go.Proofs.Ytadoehlhfccacaa
open Go.RowKit

set_option maxRecDepth 100000 in
set_option maxHeartbeats 40000000 in
theorem op_small (B g : Nat) (w : World) (hd : Deck B w g) (nv rv : Option Addr) (nl nc rl rc : Nat) (uv : Value) (bs : List Bool) (hu : Rd boolE w uv bs) (hbl : bs.length ≤ 250) (hx : decide (20 < (trues bs).length) = false) :
    Calls Try.prog 17 #[.pointer (some ⟨g, 0, none⟩), .agg #[.slice nv nl nc, uv, .slice rv rl rc]] w fun e w' => ∃ o : Op4, e = .returned (.agg #[.int .i64 o.c, .int .i64 o.x, .int .i64 o.y, .int .i64 o.z]) ∧ OpOk' o ∧ Deck B w' g ∧ w.grownBy w' (some g) := by
  have HD := Lib.hid hd
  have hgl := hd.lt
  have hBg := hd.1
  clear hd
  have HU := Lib.hid hu
  obtain ⟨ua, uc, rfl, hul, huc, hud⟩ := hu.flat
  clear hu
  have HUD := Lib.hid hud
  clear hud
  have HX := Lib.hid hx
  clear hx
  unfold maxLen at huc
  go_enter Try.func17, Try.ntmps17
  go_wp2
  go_loopw [13] (fun i wr => OpLoop w g bs i wr) (fun i _ => bs.length - (intOf i).toNat)
  case atStart => exact OpLoop.start (w := w) (g := g) bs _ _
  case round =>
    obtain ⟨k, zs, ad, cap, hk, rfl, hls⟩ := hrel.out
    clear hrel
    have HL := Lib.hid hls
    have cu := hls.cu
    have fu := hls.fu
    have cd := hls.cd
    have hszr : w.heap.size + 1 + 1 + 1 < wr.heap.size := hls.size
    have hsza : w.heap.size < wr.heap.size := by omega
    have hzl := hls.zl
    clear hls
    by_cases hlt : k < bs.length
    · obtain ⟨b, off, rfl, hb, hcells⟩ := HUD.out.resolve_left (fun e => by simp [e] at hlt)
      have hb := hb (by decide)
      have hc : wr.cell? ⟨b, off + k, none⟩ = some (.bool bs[k]) := by
        have h1 := hcells k hlt 0 (by decide)
        simp at h1
        exact (HL.out.old hb).trans h1
      clear hcells
      cases hbk : bs[k] with
      | false =>
        rw [hbk] at hc
        go_wp2
        go_roundw
        case rel => exact OpLoop.next hlt (HL.out.skip hlt hbk)
        case measure => simp [intOf]; omega
      | true =>
        rw [hbk] at hc
        have HO := Lib.hid HL.out.own
        have hB4 : w.heap.size + 1 + 1 + 1 + 1 ≤ wr.heap.size := by omega
        have hbytes : (zs.length + 1) * 8 ≤ 140737488355328 := by omega
        have hml : zs.length + 1 ≤ maxLen := by unfold maxLen; omega
        go_wp2_with (at_builtin; go_must (refine wpList_append_lit i64E i64S rfl _ _ rfl (w.heap.size + 1 + 1 + 1 + 1) _ zs rfl HO.out ((k : Int) + 1) _ _ rfl rfl rfl ?_ hbytes hml hB4 (fun _ _ _ _ h => h) ?_))
        · simp [Value.oneCell']
        · intro v' w' ho hg hb2
          have HG := Lib.hid hg
          have HOO := Lib.hid ho
          have HB2 := Lib.hid hb2
          have fu' : w'.frozen? ⟨w.heap.size + 1 + 1 + 1, 0, none⟩ = false := HL.out.fu2 HB2.out
          have cu' : w'.cell? ⟨w.heap.size + 1 + 1 + 1, 0, none⟩ = some (.slice ad zs.length cap) := HL.out.cu2 HB2.out
          have hs2 : wr.heap.size < w'.heap.size := by have := hg.size; simp at this; omega
          have hs3 : w.heap.size + 1 + 1 + 1 < w'.heap.size := by omega
          obtain ⟨ad', cap', rfl⟩ := own_form ho
          clear ho hg hb2
          go_wp2
          go_roundw
          case rel => exact OpLoop.next hlt (HL.out.put hlt hbk (by simp) HOO.out HB2.out)
          case measure => simp [intOf]; omega
    · have hkl : k = bs.length := by omega
      have hzb := HL.out.zb
      go_wp2_with fail
      refine (next_any B _ 20 _ (HD.out.below (C := w.heap.size) (HL.out.bel.alloc HL.out.bel.size _) hgl) (by omega) (by omega)).mono ?_
      rintro e w1 ⟨r, hr0, hr1, rfl, hd1, hg1⟩
      obtain ⟨j, rfl⟩ := Int.eq_ofNat_of_zero_le hr0
      have hnb : ∀ k, w.heap.size ≤ k → some k ≠ some g := fun k hk e => by injection e with e; omega
      have st1 : OpSt B w g ad cap zs w1 := HL.out.op hg1 hd1 hgl hBg hkl hbl
      obtain ⟨c, hc, hc0, hc1⟩ := codes_at (grown_block hg1 (heap_alloc_new _ _) (hnb _ (by omega))) (by omega : j < 20)
      have hs1 : wr.heap.size < w1.heap.size := by have := hg1.size; simp at this; omega
      have cu := st1.cu
      have cd := st1.toOpSw.cd
      have ST := Lib.hid st1
      have hsA : w.heap.size < w1.heap.size := by omega
      have hsB : w.heap.size + 1 + 1 < w1.heap.size := by omega
      have hsC : w.heap.size + 1 + 1 + 1 < w1.heap.size := by omega
      have hzn : decide (20 < zs.length) = false := (HL.out.lenx hkl).trans HX.out
      have hzm : (zs.length : Int) ≤ 20 := by simp at hzn; omega
      clear hzn
      clear hg1 hd1 hnb st1 fu hkl hlt hk hszr hzl hsza
      have : c = 0 ∨ c = 1 ∨ c = 2 ∨ c = 3 ∨ c = 4 ∨ c = 5 ∨ c = 6 ∨ c = 7 ∨ c = 8 ∨ c = 9 ∨ c = 10 := by omega
      rcases this with rfl | rfl | rfl | rfl | rfl | rfl | rfl | rfl | rfl | rfl | rfl
      · have rz0 : w1.cell? ⟨w.heap.size + 1 + 1, 0, none⟩ = some (.int .i64 0) := by rw [cell_block ST.out.kr]; rfl
        have fz0 : w1.frozen? ⟨w.heap.size + 1 + 1, 0, none⟩ = false := frozen_block ST.out.kr
        have rz1 : w1.cell? ⟨w.heap.size + 1 + 1, 1, none⟩ = some (.int .i64 0) := by rw [cell_block ST.out.kr]; rfl
        have fz1 : w1.frozen? ⟨w.heap.size + 1 + 1, 1, none⟩ = false := frozen_block ST.out.kr
        have rz2 : w1.cell? ⟨w.heap.size + 1 + 1, 2, none⟩ = some (.int .i64 0) := by rw [cell_block ST.out.kr]; rfl
        have fz2 : w1.frozen? ⟨w.heap.size + 1 + 1, 2, none⟩ = false := frozen_block ST.out.kr
        have rz3 : w1.cell? ⟨w.heap.size + 1 + 1, 3, none⟩ = some (.int .i64 0) := by rw [cell_block ST.out.kr]; rfl
        have fz3 : w1.frozen? ⟨w.heap.size + 1 + 1, 3, none⟩ = false := frozen_block ST.out.kr
        go_wp2_with fail
        refine op_fin (b := w.heap.size + 1 + 1) ?_ rfl rfl ⟨⟨0, 0, 0, 0⟩, rfl, ?_, ?_⟩
        · try (with_reducible refine alloc_block ?_)
          refine set4_block (z0 := .int .i64 0) (z1 := .int .i64 0) (z2 := .int .i64 0) (z3 := .int .i64 0) ?_ _ _ _ _
          repeat rw [setCell_other _ (by omega)]
          exact ST.out.kr
        · unfold OpOk'
          dsimp only
          refine ⟨⟨by omega, by omega⟩, ⟨by omega, by omega⟩, ⟨by omega, by omega⟩, ⟨by omega, by omega⟩, ?_, ?_, ?_⟩ <;> simp [opn]
        · refine ⟨ST.out.deck.below (C := w.heap.size) ?_ hgl, grown_below ST.out.gr ?_⟩
          all_goals repeat (first | with_reducible exact Below.refl _ _ | ((with_reducible refine bset ?_ ?_ _); any_goals omega) | ((with_reducible refine Below.alloc ?_ ?_ _); any_goals (simp; omega)))
      · go_upto_block 2 with (fail)
        go_cut [43] (fun _ W => CutR B w g w1.heap.size W)
        case first =>
          go_wp2_with fail
          refine wp_region_facts (by kernel_rfl) (RegG B w g w1.heap.size) (RegE g w1.heap.size) (RegF g w1.heap.size) (by kernel_rfl) (by kernel_rfl) (RegF.keep _ _) ?_ ?_ ?_
          · exact ⟨(ST.out.alloc _).drew.toOpSw, 0, 0, ⟨by omega, by omega⟩, ⟨by omega, by omega⟩, heap_alloc_new _ _⟩
          · have hne : w1.heap.size ≠ g := by omega
            have hlw : w.heap.size + 1 + 1 < w1.heap.size := by omega
            clear cu cd hc
            refine RSteps.cons (RStep.mk rfl rfl fun a W hd hout hG hdep K hK => ?_) ?_
            · have cd := hG.out.1.cd
              have hs := hG.size
              have hbl2 := hG.lt
              have c2 : a.tmps[2]? = some (.pointer (some ⟨w.heap.size, 0, none⟩)) := hout 2 (by kernel_rfl)
              have hsa : w.heap.size < W.heap.size := by omega
              clear hout hdep
              go_simp
              obtain ⟨t, ds⟩ := a
              obtain rfl : ds = [] := hd
              exact hK.out (.pointer (some ⟨g, 0, none⟩)) W (hG) (fun _ _ _ _ => rfl) (rfl)
            refine RSteps.cons (RStep.mk rfl rfl fun a W hd hout hG hdep K hK => ?_) ?_
            · have cd := hG.out.1.cd
              have hs := hG.size
              have hbl2 := hG.lt
              obtain ⟨_, t45, rfl⟩ := hdep 0 (by kernel_rfl) _ 45 rfl rfl
              clear hout hdep
              go_simp
              refine (OpSw.n_call hG.1 4 (by omega) (by omega)).mono ?_
              rintro e W' ⟨r, ⟨hr0, hr1⟩, rfl, st', hg'⟩
              go_simp
              obtain ⟨t, ds⟩ := a
              obtain rfl : ds = [] := hd
              exact hK.out (.int .i64 r) W' (hG.grown st' hg' hne) (RegE.grown hg') (⟨r, rfl, hr0, by omega⟩)
            refine RSteps.cons (RStep.mk rfl rfl fun a W hd hout hG hdep K hK => ?_) ?_
            · have cd := hG.out.1.cd
              have hs := hG.size
              have hbl2 := hG.lt
              have c2 : a.tmps[2]? = some (.pointer (some ⟨w.heap.size, 0, none⟩)) := hout 2 (by kernel_rfl)
              have hsa : w.heap.size < W.heap.size := by omega
              clear hout hdep
              go_simp
              obtain ⟨t, ds⟩ := a
              obtain rfl : ds = [] := hd
              exact hK.out (.pointer (some ⟨g, 0, none⟩)) W (hG) (fun _ _ _ _ => rfl) (rfl)
            refine RSteps.cons (RStep.mk rfl rfl fun a W hd hout hG hdep K hK => ?_) ?_
            · have cd := hG.out.1.cd
              have hs := hG.size
              have hbl2 := hG.lt
              clear hout hdep
              go_simp
              obtain ⟨t, ds⟩ := a
              obtain rfl : ds = [] := hd
              exact hK.out (.slice (some ⟨W.heap.size, 0, none⟩) 4 4) _ (hG.grown (hG.1.alloc _) (World.grownBy_alloc _ _ _) hne) (RegE.grown (World.grownBy_alloc _ _ _)) (⟨_, rfl, by have := hG.1.lt; omega, by omega, heap_alloc_new _ _⟩)
            refine RSteps.cons (RStep.mk rfl rfl fun a W hd hout hG hdep K hK => ?_) ?_
            · have cd := hG.out.1.cd
              have hs := hG.size
              have hbl2 := hG.lt
              have c2 : a.tmps[2]? = some (.pointer (some ⟨w.heap.size, 0, none⟩)) := hout 2 (by kernel_rfl)
              have hsa : w.heap.size < W.heap.size := by omega
              clear hout hdep
              go_simp
              obtain ⟨t, ds⟩ := a
              obtain rfl : ds = [] := hd
              exact hK.out (.pointer (some ⟨g, 0, none⟩)) W (hG) (fun _ _ _ _ => rfl) (rfl)
            refine RSteps.cons (RStep.mk rfl rfl fun a W hd hout hG hdep K hK => ?_) ?_
            · have cd := hG.out.1.cd
              have hs := hG.size
              have hbl2 := hG.lt
              obtain ⟨_, t49, rfl⟩ := hdep 4 (by kernel_rfl) _ 49 rfl rfl
              clear hout hdep
              go_simp
              refine (OpSw.n_call hG.1 4 (by omega) (by omega)).mono ?_
              rintro e W' ⟨r, ⟨hr0, hr1⟩, rfl, st', hg'⟩
              go_simp
              obtain ⟨t, ds⟩ := a
              obtain rfl : ds = [] := hd
              exact hK.out (.int .i64 r) W' (hG.grown st' hg' hne) (RegE.grown hg') (⟨r, rfl, hr0, by omega⟩)
            refine RSteps.cons (RStep.mk rfl rfl fun a W hd hout hG hdep K hK => ?_) ?_
            · have cd := hG.out.1.cd
              have hs := hG.size
              have hbl2 := hG.lt
              obtain ⟨_, t48, k, rfl, hL⟩ := hdep 3 (by kernel_rfl) _ 48 rfl rfl
              obtain ⟨_, t50, r, rfl, hr0, hr1⟩ := hdep 5 (by kernel_rfl) _ 50 rfl rfl
              obtain ⟨j, rfl⟩ := Int.eq_ofNat_of_zero_le hr0
              have hj : j < 4 := by omega
              clear hout hdep
              go_simp
              obtain ⟨t, ds⟩ := a
              obtain rfl : ds = [] := hd
              exact hK.out (.pointer (some ⟨k, j, none⟩)) W (hG) (fun _ _ _ _ => rfl) (⟨k, j, rfl, hj, hL⟩)
            refine RSteps.cons (RStep.mk rfl rfl fun a W hd hout hG hdep K hK => ?_) ?_
            · have cd := hG.out.1.cd
              have hs := hG.size
              have hbl2 := hG.lt
              obtain ⟨_, t51, k, j, rfl, hj, hL⟩ := hdep 6 (by kernel_rfl) _ 51 rfl rfl
              obtain ⟨u, hu1, hu2, hu⟩ := lit4_at hj
              have hc : W.cell? ⟨k, j, none⟩ = some (.int .i64 u) := (cell_block hL.2.2).trans hu
              clear hout hdep hu
              go_simp
              obtain ⟨t, ds⟩ := a
              obtain rfl : ds = [] := hd
              exact hK.out (.int .i64 u) W (hG) (fun _ _ _ _ => rfl) (⟨u, rfl, hu1, hu2⟩)
            refine RSteps.cons (RStep.mk rfl rfl fun a W hd hout hG hdep K hK => ?_) ?_
            · have cd := hG.out.1.cd
              have hs := hG.size
              have hbl2 := hG.lt
              obtain ⟨_, t47, rfl⟩ := hdep 2 (by kernel_rfl) _ 47 rfl rfl
              obtain ⟨_, t52, u, rfl, hu1, hu2⟩ := hdep 7 (by kernel_rfl) _ 52 rfl rfl
              clear hout hdep
              go_simp
              refine (OpSw.n_call hG.1 u hu1 (by omega)).mono ?_
              rintro e W' ⟨r, ⟨hr0, hr1⟩, rfl, st', hg'⟩
              go_simp
              obtain ⟨t, ds⟩ := a
              obtain rfl : ds = [] := hd
              exact hK.out (.int .i64 r) W' (hG.grown st' hg' hne) (RegE.grown hg') (⟨r, rfl, hr0, by omega⟩)
            refine RSteps.cons (RStep.mk rfl rfl fun a W hd hout hG hdep K hK => ?_) ?_
            · have cd := hG.out.1.cd
              have hs := hG.size
              have hbl2 := hG.lt
              have t9 : a.tmps[9]? = some (.pointer (some ⟨w1.heap.size, 0, none⟩)) := hout 9 (by kernel_rfl)
              clear hout hdep
              go_simp
              obtain ⟨t, ds⟩ := a
              obtain rfl : ds = [] := hd
              exact hK.out (.pointer (some ⟨w1.heap.size, 1, none⟩)) W (hG) (fun _ _ _ _ => rfl) (rfl)
            refine RSteps.cons (RStep.mk rfl rfl fun a W hd hout hG hdep K hK => ?_) ?_
            · have cd := hG.out.1.cd
              have hs := hG.size
              have hbl2 := hG.lt
              obtain ⟨_, t54, rfl⟩ := hdep 9 (by kernel_rfl) _ 54 rfl rfl
              obtain ⟨_, t46, r, rfl, hr0, hr1⟩ := hdep 1 (by kernel_rfl) _ 46 rfl rfl
              obtain ⟨x, y, hx, hy, hk⟩ := hG.2
              have oc : W.cell? ⟨w1.heap.size, 1, none⟩ = some (.int .i64 x) := by rw [cell_block hk]; rfl
              have of : W.frozen? ⟨w1.heap.size, 1, none⟩ = false := frozen_block hk
              clear hout hdep
              go_simp
              have h := hK.out undef _ (RegG.set1 hG (v := r) ⟨hr0, hr1⟩ hlw) (RegE.set _) trivial
              dsimp only [Act.put] at h
              obtain ⟨t, ds⟩ := a
              subst hd
              exact h
            refine RSteps.cons (RStep.mk rfl rfl fun a W hd hout hG hdep K hK => ?_) ?_
            · have cd := hG.out.1.cd
              have hs := hG.size
              have hbl2 := hG.lt
              have t9 : a.tmps[9]? = some (.pointer (some ⟨w1.heap.size, 0, none⟩)) := hout 9 (by kernel_rfl)
              clear hout hdep
              go_simp
              obtain ⟨t, ds⟩ := a
              obtain rfl : ds = [] := hd
              exact hK.out (.pointer (some ⟨w1.heap.size, 2, none⟩)) W (hG) (fun _ _ _ _ => rfl) (rfl)
            refine RSteps.cons (RStep.mk rfl rfl fun a W hd hout hG hdep K hK => ?_) ?_
            · have cd := hG.out.1.cd
              have hs := hG.size
              have hbl2 := hG.lt
              obtain ⟨_, t55, rfl⟩ := hdep 11 (by kernel_rfl) _ 55 rfl rfl
              obtain ⟨_, t53, r, rfl, hr0, hr1⟩ := hdep 8 (by kernel_rfl) _ 53 rfl rfl
              obtain ⟨x, y, hx, hy, hk⟩ := hG.2
              have oc : W.cell? ⟨w1.heap.size, 2, none⟩ = some (.int .i64 y) := by rw [cell_block hk]; rfl
              have of : W.frozen? ⟨w1.heap.size, 2, none⟩ = false := frozen_block hk
              clear hout hdep
              go_simp
              have h := hK.out undef _ (RegG.set2 hG (v := r) ⟨hr0, hr1⟩ hlw) (RegE.set _) trivial
              dsimp only [Act.put] at h
              obtain ⟨t, ds⟩ := a
              subst hd
              exact h
            exact RSteps.nil (by decide)
          · intro a' w' hR
            have hG := hR.g
            obtain ⟨us, hus, rfl, _⟩ := hR.frame rfl 45 11 (by intro k hk; simp [writes]; omega) (by simp)
            clear hR
            obtain ⟨v0, us0, rfl, hus0⟩ := list_next hus
            obtain ⟨v1, us1, rfl, hus1⟩ := list_next hus0
            obtain ⟨v2, us2, rfl, hus2⟩ := list_next hus1
            obtain ⟨v3, us3, rfl, hus3⟩ := list_next hus2
            obtain ⟨v4, us4, rfl, hus4⟩ := list_next hus3
            obtain ⟨v5, us5, rfl, hus5⟩ := list_next hus4
            obtain ⟨v6, us6, rfl, hus6⟩ := list_next hus5
            obtain ⟨v7, us7, rfl, hus7⟩ := list_next hus6
            obtain ⟨v8, us8, rfl, hus8⟩ := list_next hus7
            obtain ⟨v9, us9, rfl, hus9⟩ := list_next hus8
            obtain ⟨v10, us10, rfl, hus10⟩ := list_next hus9
            obtain rfl := list_none hus10
            simp only [List.take_succ_cons, List.take_zero, List.drop_succ_cons, List.drop_zero, List.cons_append, List.nil_append]
            have HG := Lib.hid hG
            clear hG cu cd hc
            go_wp2_with fail
            go_meet
            case rel =>
              obtain ⟨x, y, hx, hy, hk⟩ := HG.out.2
              exact ⟨x, y, hx, hy, HG.out.1, hk⟩
        case rest =>
          obtain ⟨r2, r4, ⟨hra2, hrb2⟩, ⟨hra4, hrb4⟩, st4, k4⟩ := hcut
          have oz0 : wc.cell? ⟨w1.heap.size, 0, none⟩ = some (.int .i64 1) := by rw [cell_block k4]; rfl
          have rz0 : wc.cell? ⟨w.heap.size + 1 + 1, 0, none⟩ = some (.int .i64 0) := by rw [cell_block st4.kr]; rfl
          have fz0 : wc.frozen? ⟨w.heap.size + 1 + 1, 0, none⟩ = false := frozen_block st4.kr
          have oz1 : wc.cell? ⟨w1.heap.size, 1, none⟩ = some (.int .i64 r2) := by rw [cell_block k4]; rfl
          have rz1 : wc.cell? ⟨w.heap.size + 1 + 1, 1, none⟩ = some (.int .i64 0) := by rw [cell_block st4.kr]; rfl
          have fz1 : wc.frozen? ⟨w.heap.size + 1 + 1, 1, none⟩ = false := frozen_block st4.kr
          have oz2 : wc.cell? ⟨w1.heap.size, 2, none⟩ = some (.int .i64 r4) := by rw [cell_block k4]; rfl
          have rz2 : wc.cell? ⟨w.heap.size + 1 + 1, 2, none⟩ = some (.int .i64 0) := by rw [cell_block st4.kr]; rfl
          have fz2 : wc.frozen? ⟨w.heap.size + 1 + 1, 2, none⟩ = false := frozen_block st4.kr
          have oz3 : wc.cell? ⟨w1.heap.size, 3, none⟩ = some (.int .i64 0) := by rw [cell_block k4]; rfl
          have rz3 : wc.cell? ⟨w.heap.size + 1 + 1, 3, none⟩ = some (.int .i64 0) := by rw [cell_block st4.kr]; rfl
          have fz3 : wc.frozen? ⟨w.heap.size + 1 + 1, 3, none⟩ = false := frozen_block st4.kr
          have ST4 := Lib.hid st4
          have hq4 := block_lt k4
          clear st4 k4
          go_wp2_with fail
          refine op_fin (b := w.heap.size + 1 + 1) ?_ rfl rfl ⟨⟨1, r2, r4, 0⟩, rfl, ?_, ?_⟩
          · try (with_reducible refine alloc_block ?_)
            refine set4_block (z0 := .int .i64 0) (z1 := .int .i64 0) (z2 := .int .i64 0) (z3 := .int .i64 0) ?_ _ _ _ _
            repeat rw [setCell_other _ (by omega)]
            exact ST4.out.kr
          · unfold OpOk'
            dsimp only
            refine ⟨⟨by omega, by omega⟩, ⟨by omega, by omega⟩, ⟨by omega, by omega⟩, ⟨by omega, by omega⟩, ?_, ?_, ?_⟩ <;> simp [opn]
          · refine ⟨ST4.out.deck.below (C := w.heap.size) ?_ hgl, grown_below ST4.out.gr ?_⟩
            all_goals repeat (first | with_reducible exact Below.refl _ _ | ((with_reducible refine bset ?_ ?_ _); any_goals omega) | ((with_reducible refine Below.alloc ?_ ?_ _); any_goals (simp; omega)))
      · go_wp2_with fail
        go_region_with (first | (go_at_call 15; refine (OpSt.n_call ST2.out 3 (by omega) (by omega)).mono ?_; rintro e w3 ⟨r3, ⟨hra3, hrb3⟩, rfl, st3, hg3⟩; have k3 := grown_block hg3 K2.out (fun e => by injection e; omega); have ST3 := Lib.hid st3; have K3 := Lib.hid k3; have cd3 := st3.toOpSw.cd; have cu3 := st3.cu; have oz0 : w3.cell? ⟨w1.heap.size, 0, none⟩ = some (.int .i64 2) := (by rw [cell_block k3]; rfl); have of0 : w3.frozen? ⟨w1.heap.size, 0, none⟩ = false := frozen_block k3; have rz0 : w3.cell? ⟨w.heap.size + 1 + 1, 0, none⟩ = some (.int .i64 0) := (by rw [cell_block st3.kr]; rfl); have fz0 : w3.frozen? ⟨w.heap.size + 1 + 1, 0, none⟩ = false := frozen_block st3.kr; have oz1 : w3.cell? ⟨w1.heap.size, 1, none⟩ = some (.int .i64 0) := (by rw [cell_block k3]; rfl); have of1 : w3.frozen? ⟨w1.heap.size, 1, none⟩ = false := frozen_block k3; have rz1 : w3.cell? ⟨w.heap.size + 1 + 1, 1, none⟩ = some (.int .i64 0) := (by rw [cell_block st3.kr]; rfl); have fz1 : w3.frozen? ⟨w.heap.size + 1 + 1, 1, none⟩ = false := frozen_block st3.kr; have oz2 : w3.cell? ⟨w1.heap.size, 2, none⟩ = some (.int .i64 0) := (by rw [cell_block k3]; rfl); have of2 : w3.frozen? ⟨w1.heap.size, 2, none⟩ = false := frozen_block k3; have rz2 : w3.cell? ⟨w.heap.size + 1 + 1, 2, none⟩ = some (.int .i64 0) := (by rw [cell_block st3.kr]; rfl); have fz2 : w3.frozen? ⟨w.heap.size + 1 + 1, 2, none⟩ = false := frozen_block st3.kr; have oz3 : w3.cell? ⟨w1.heap.size, 3, none⟩ = some (.int .i64 0) := (by rw [cell_block k3]; rfl); have of3 : w3.frozen? ⟨w1.heap.size, 3, none⟩ = false := frozen_block k3; have rz3 : w3.cell? ⟨w.heap.size + 1 + 1, 3, none⟩ = some (.int .i64 0) := (by rw [cell_block st3.kr]; rfl); have fz3 : w3.frozen? ⟨w.heap.size + 1 + 1, 3, none⟩ = false := frozen_block st3.kr; have hq3 := block_lt k3; clear st3 k3 hg3) | (go_at_call 23; refine (OpSt.h_call ((ST.out.alloc _).drew)).mono ?_; rintro e w2 ⟨r2, hra2, hrb2, rfl, st2, hg2⟩; have k2 := grown_block (w := (w1.alloc _).drew) hg2 (heap_alloc_new w1 _) (fun e => by injection e; omega); have ST2 := Lib.hid st2; have K2 := Lib.hid k2; have cd2 := st2.toOpSw.cd; have cu2 := st2.cu; have hq2 := block_lt k2; clear st2 k2 hg2))
        all_goals go_wp2_with fail
        all_goals
          refine op_fin (b := w.heap.size + 1 + 1) ?_ rfl rfl ⟨⟨2, r2, r3, 0⟩, rfl, ?_, ?_⟩
          · try (with_reducible refine alloc_block ?_)
            refine set4_block (z0 := .int .i64 0) (z1 := .int .i64 0) (z2 := .int .i64 0) (z3 := .int .i64 0) ?_ _ _ _ _
            repeat rw [setCell_other _ (by omega)]
            exact ST3.out.kr
          · unfold OpOk'
            dsimp only
            refine ⟨⟨by omega, by omega⟩, ⟨by omega, by omega⟩, ⟨by omega, by omega⟩, ⟨by omega, by omega⟩, ?_, ?_, ?_⟩ <;> simp [opn]
          · refine ⟨ST3.out.deck.below (C := w.heap.size) ?_ hgl, grown_below ST3.out.gr ?_⟩
            all_goals repeat (first | with_reducible exact Below.refl _ _ | ((with_reducible refine bset ?_ ?_ _); any_goals omega) | ((with_reducible refine Below.alloc ?_ ?_ _); any_goals (simp; omega)))
      · go_wp2_with fail
        go_region_with (first | (go_at_call 23; refine (OpSt.h_call ST3.out).mono ?_; rintro e w4 ⟨r4, hra4, hrb4, rfl, st4, hg4⟩; have k4 := grown_block hg4 K3.out (fun e => by injection e; omega); have ST4 := Lib.hid st4; have K4 := Lib.hid k4; have cd4 := st4.toOpSw.cd; have cu4 := st4.cu; have oz0 : w4.cell? ⟨w1.heap.size, 0, none⟩ = some (.int .i64 3) := (by rw [cell_block k4]; rfl); have of0 : w4.frozen? ⟨w1.heap.size, 0, none⟩ = false := frozen_block k4; have rz0 : w4.cell? ⟨w.heap.size + 1 + 1, 0, none⟩ = some (.int .i64 0) := (by rw [cell_block st4.kr]; rfl); have fz0 : w4.frozen? ⟨w.heap.size + 1 + 1, 0, none⟩ = false := frozen_block st4.kr; have oz1 : w4.cell? ⟨w1.heap.size, 1, none⟩ = some (.int .i64 0) := (by rw [cell_block k4]; rfl); have of1 : w4.frozen? ⟨w1.heap.size, 1, none⟩ = false := frozen_block k4; have rz1 : w4.cell? ⟨w.heap.size + 1 + 1, 1, none⟩ = some (.int .i64 0) := (by rw [cell_block st4.kr]; rfl); have fz1 : w4.frozen? ⟨w.heap.size + 1 + 1, 1, none⟩ = false := frozen_block st4.kr; have oz2 : w4.cell? ⟨w1.heap.size, 2, none⟩ = some (.int .i64 0) := (by rw [cell_block k4]; rfl); have of2 : w4.frozen? ⟨w1.heap.size, 2, none⟩ = false := frozen_block k4; have rz2 : w4.cell? ⟨w.heap.size + 1 + 1, 2, none⟩ = some (.int .i64 0) := (by rw [cell_block st4.kr]; rfl); have fz2 : w4.frozen? ⟨w.heap.size + 1 + 1, 2, none⟩ = false := frozen_block st4.kr; have oz3 : w4.cell? ⟨w1.heap.size, 3, none⟩ = some (.int .i64 0) := (by rw [cell_block k4]; rfl); have of3 : w4.frozen? ⟨w1.heap.size, 3, none⟩ = false := frozen_block k4; have rz3 : w4.cell? ⟨w.heap.size + 1 + 1, 3, none⟩ = some (.int .i64 0) := (by rw [cell_block st4.kr]; rfl); have fz3 : w4.frozen? ⟨w.heap.size + 1 + 1, 3, none⟩ = false := frozen_block st4.kr; have hq4 := block_lt k4; clear st4 k4 hg4) | (go_at_call 15; refine (OpSt.n_call ST2.out 3 (by omega) (by omega)).mono ?_; rintro e w3 ⟨r3, ⟨hra3, hrb3⟩, rfl, st3, hg3⟩; have k3 := grown_block hg3 K2.out (fun e => by injection e; omega); have ST3 := Lib.hid st3; have K3 := Lib.hid k3; have cd3 := st3.toOpSw.cd; have cu3 := st3.cu; have hq3 := block_lt k3; clear st3 k3 hg3) | (go_at_call 23; refine (OpSt.h_call ((ST.out.alloc _).drew)).mono ?_; rintro e w2 ⟨r2, hra2, hrb2, rfl, st2, hg2⟩; have k2 := grown_block (w := (w1.alloc _).drew) hg2 (heap_alloc_new w1 _) (fun e => by injection e; omega); have ST2 := Lib.hid st2; have K2 := Lib.hid k2; have cd2 := st2.toOpSw.cd; have cu2 := st2.cu; have hq2 := block_lt k2; clear st2 k2 hg2))
        all_goals go_wp2_with fail
        all_goals
          refine op_fin (b := w.heap.size + 1 + 1) ?_ rfl rfl ⟨⟨3, r2, r3, r4⟩, rfl, ?_, ?_⟩
          · try (with_reducible refine alloc_block ?_)
            refine set4_block (z0 := .int .i64 0) (z1 := .int .i64 0) (z2 := .int .i64 0) (z3 := .int .i64 0) ?_ _ _ _ _
            repeat rw [setCell_other _ (by omega)]
            exact ST4.out.kr
          · unfold OpOk'
            dsimp only
            refine ⟨⟨by omega, by omega⟩, ⟨by omega, by omega⟩, ⟨by omega, by omega⟩, ⟨by omega, by omega⟩, ?_, ?_, ?_⟩ <;> simp [opn]
          · refine ⟨ST4.out.deck.below (C := w.heap.size) ?_ hgl, grown_below ST4.out.gr ?_⟩
            all_goals repeat (first | with_reducible exact Below.refl _ _ | ((with_reducible refine bset ?_ ?_ _); any_goals omega) | ((with_reducible refine Below.alloc ?_ ?_ _); any_goals (simp; omega)))
      · go_wp2_with fail
        go_region_with (first | (go_at_call 15; refine (OpSt.n_call ST2.out 3 (by omega) (by omega)).mono ?_; rintro e w3 ⟨r3, ⟨hra3, hrb3⟩, rfl, st3, hg3⟩; have k3 := grown_block hg3 K2.out (fun e => by injection e; omega); have ST3 := Lib.hid st3; have K3 := Lib.hid k3; have cd3 := st3.toOpSw.cd; have cu3 := st3.cu; have oz0 : w3.cell? ⟨w1.heap.size, 0, none⟩ = some (.int .i64 4) := (by rw [cell_block k3]; rfl); have of0 : w3.frozen? ⟨w1.heap.size, 0, none⟩ = false := frozen_block k3; have rz0 : w3.cell? ⟨w.heap.size + 1 + 1, 0, none⟩ = some (.int .i64 0) := (by rw [cell_block st3.kr]; rfl); have fz0 : w3.frozen? ⟨w.heap.size + 1 + 1, 0, none⟩ = false := frozen_block st3.kr; have oz1 : w3.cell? ⟨w1.heap.size, 1, none⟩ = some (.int .i64 0) := (by rw [cell_block k3]; rfl); have of1 : w3.frozen? ⟨w1.heap.size, 1, none⟩ = false := frozen_block k3; have rz1 : w3.cell? ⟨w.heap.size + 1 + 1, 1, none⟩ = some (.int .i64 0) := (by rw [cell_block st3.kr]; rfl); have fz1 : w3.frozen? ⟨w.heap.size + 1 + 1, 1, none⟩ = false := frozen_block st3.kr; have oz2 : w3.cell? ⟨w1.heap.size, 2, none⟩ = some (.int .i64 0) := (by rw [cell_block k3]; rfl); have of2 : w3.frozen? ⟨w1.heap.size, 2, none⟩ = false := frozen_block k3; have rz2 : w3.cell? ⟨w.heap.size + 1 + 1, 2, none⟩ = some (.int .i64 0) := (by rw [cell_block st3.kr]; rfl); have fz2 : w3.frozen? ⟨w.heap.size + 1 + 1, 2, none⟩ = false := frozen_block st3.kr; have oz3 : w3.cell? ⟨w1.heap.size, 3, none⟩ = some (.int .i64 0) := (by rw [cell_block k3]; rfl); have of3 : w3.frozen? ⟨w1.heap.size, 3, none⟩ = false := frozen_block k3; have rz3 : w3.cell? ⟨w.heap.size + 1 + 1, 3, none⟩ = some (.int .i64 0) := (by rw [cell_block st3.kr]; rfl); have fz3 : w3.frozen? ⟨w.heap.size + 1 + 1, 3, none⟩ = false := frozen_block st3.kr; have hq3 := block_lt k3; clear st3 k3 hg3) | (go_at_call 23; refine (OpSt.h_call ((ST.out.alloc _).drew)).mono ?_; rintro e w2 ⟨r2, hra2, hrb2, rfl, st2, hg2⟩; have k2 := grown_block (w := (w1.alloc _).drew) hg2 (heap_alloc_new w1 _) (fun e => by injection e; omega); have ST2 := Lib.hid st2; have K2 := Lib.hid k2; have cd2 := st2.toOpSw.cd; have cu2 := st2.cu; have hq2 := block_lt k2; clear st2 k2 hg2))
        all_goals go_wp2_with fail
        all_goals
          refine op_fin (b := w.heap.size + 1 + 1) ?_ rfl rfl ⟨⟨4, r2, r3, 0⟩, rfl, ?_, ?_⟩
          · try (with_reducible refine alloc_block ?_)
            refine set4_block (z0 := .int .i64 0) (z1 := .int .i64 0) (z2 := .int .i64 0) (z3 := .int .i64 0) ?_ _ _ _ _
            repeat rw [setCell_other _ (by omega)]
            exact ST3.out.kr
          · unfold OpOk'
            dsimp only
            refine ⟨⟨by omega, by omega⟩, ⟨by omega, by omega⟩, ⟨by omega, by omega⟩, ⟨by omega, by omega⟩, ?_, ?_, ?_⟩ <;> simp [opn]
          · refine ⟨ST3.out.deck.below (C := w.heap.size) ?_ hgl, grown_below ST3.out.gr ?_⟩
            all_goals repeat (first | with_reducible exact Below.refl _ _ | ((with_reducible refine bset ?_ ?_ _); any_goals omega) | ((with_reducible refine Below.alloc ?_ ?_ _); any_goals (simp; omega)))
      · go_wp2_with fail
        go_region_with (first | (go_at_call 15; refine (OpSt.n_call ST3.out 256 (by omega) (by omega)).mono ?_; rintro e w4 ⟨r4, ⟨hra4, hrb4⟩, rfl, st4, hg4⟩; have k4 := grown_block hg4 K3.out (fun e => by injection e; omega); have ST4 := Lib.hid st4; have K4 := Lib.hid k4; have cd4 := st4.toOpSw.cd; have cu4 := st4.cu; have oz0 : w4.cell? ⟨w1.heap.size, 0, none⟩ = some (.int .i64 5) := (by rw [cell_block k4]; rfl); have of0 : w4.frozen? ⟨w1.heap.size, 0, none⟩ = false := frozen_block k4; have rz0 : w4.cell? ⟨w.heap.size + 1 + 1, 0, none⟩ = some (.int .i64 0) := (by rw [cell_block st4.kr]; rfl); have fz0 : w4.frozen? ⟨w.heap.size + 1 + 1, 0, none⟩ = false := frozen_block st4.kr; have oz1 : w4.cell? ⟨w1.heap.size, 1, none⟩ = some (.int .i64 0) := (by rw [cell_block k4]; rfl); have of1 : w4.frozen? ⟨w1.heap.size, 1, none⟩ = false := frozen_block k4; have rz1 : w4.cell? ⟨w.heap.size + 1 + 1, 1, none⟩ = some (.int .i64 0) := (by rw [cell_block st4.kr]; rfl); have fz1 : w4.frozen? ⟨w.heap.size + 1 + 1, 1, none⟩ = false := frozen_block st4.kr; have oz2 : w4.cell? ⟨w1.heap.size, 2, none⟩ = some (.int .i64 0) := (by rw [cell_block k4]; rfl); have of2 : w4.frozen? ⟨w1.heap.size, 2, none⟩ = false := frozen_block k4; have rz2 : w4.cell? ⟨w.heap.size + 1 + 1, 2, none⟩ = some (.int .i64 0) := (by rw [cell_block st4.kr]; rfl); have fz2 : w4.frozen? ⟨w.heap.size + 1 + 1, 2, none⟩ = false := frozen_block st4.kr; have oz3 : w4.cell? ⟨w1.heap.size, 3, none⟩ = some (.int .i64 0) := (by rw [cell_block k4]; rfl); have of3 : w4.frozen? ⟨w1.heap.size, 3, none⟩ = false := frozen_block k4; have rz3 : w4.cell? ⟨w.heap.size + 1 + 1, 3, none⟩ = some (.int .i64 0) := (by rw [cell_block st4.kr]; rfl); have fz3 : w4.frozen? ⟨w.heap.size + 1 + 1, 3, none⟩ = false := frozen_block st4.kr; have hq4 := block_lt k4; clear st4 k4 hg4) | (go_at_call 15; refine (OpSt.n_call ST2.out 3 (by omega) (by omega)).mono ?_; rintro e w3 ⟨r3, ⟨hra3, hrb3⟩, rfl, st3, hg3⟩; have k3 := grown_block hg3 K2.out (fun e => by injection e; omega); have ST3 := Lib.hid st3; have K3 := Lib.hid k3; have cd3 := st3.toOpSw.cd; have cu3 := st3.cu; have hq3 := block_lt k3; clear st3 k3 hg3) | (go_at_call 23; refine (OpSt.h_call ((ST.out.alloc _).drew)).mono ?_; rintro e w2 ⟨r2, hra2, hrb2, rfl, st2, hg2⟩; have k2 := grown_block (w := (w1.alloc _).drew) hg2 (heap_alloc_new w1 _) (fun e => by injection e; omega); have ST2 := Lib.hid st2; have K2 := Lib.hid k2; have cd2 := st2.toOpSw.cd; have cu2 := st2.cu; have hq2 := block_lt k2; clear st2 k2 hg2))
        all_goals go_wp2_with fail
        all_goals
          refine op_fin (b := w.heap.size + 1 + 1) ?_ rfl rfl ⟨⟨5, r2, r3, r4⟩, rfl, ?_, ?_⟩
          · try (with_reducible refine alloc_block ?_)
            refine set4_block (z0 := .int .i64 0) (z1 := .int .i64 0) (z2 := .int .i64 0) (z3 := .int .i64 0) ?_ _ _ _ _
            repeat rw [setCell_other _ (by omega)]
            exact ST4.out.kr
          · unfold OpOk'
            dsimp only
            refine ⟨⟨by omega, by omega⟩, ⟨by omega, by omega⟩, ⟨by omega, by omega⟩, ⟨by omega, by omega⟩, ?_, ?_, ?_⟩ <;> simp [opn]
          · refine ⟨ST4.out.deck.below (C := w.heap.size) ?_ hgl, grown_below ST4.out.gr ?_⟩
            all_goals repeat (first | with_reducible exact Below.refl _ _ | ((with_reducible refine bset ?_ ?_ _); any_goals omega) | ((with_reducible refine Below.alloc ?_ ?_ _); any_goals (simp; omega)))
      · go_wp2_with fail
        refine (OpSt.h_call (ST.out.alloc _)).mono ?_
        rintro e w2 ⟨r2, hra2, hrb2, rfl, st2, hg2⟩
        have k2 := grown_block hg2 (heap_alloc_new w1 _) (fun e => by injection e; omega)
        have ST2 := Lib.hid st2
        have K2 := Lib.hid k2
        clear hg2
        have hq2 := block_lt k2
        clear st2 k2 cu cd
        have cd := ST2.out.toOpSw.cd
        have cu := ST2.out.cu
        go_wp2_with fail
        refine (OpSt.h_call ST2.out).mono ?_
        rintro e w3 ⟨r3, hra3, hrb3, rfl, st3, hg3⟩
        have k3 := grown_block hg3 K2.out (fun e => by injection e; omega)
        have ST3 := Lib.hid st3
        have K3 := Lib.hid k3
        clear hg3
        have oz0 : w3.cell? ⟨w1.heap.size, 0, none⟩ = some (.int .i64 6) := by rw [cell_block k3]; rfl
        have of0 : w3.frozen? ⟨w1.heap.size, 0, none⟩ = false := frozen_block k3
        have oz1 : w3.cell? ⟨w1.heap.size, 1, none⟩ = some (.int .i64 0) := by rw [cell_block k3]; rfl
        have of1 : w3.frozen? ⟨w1.heap.size, 1, none⟩ = false := frozen_block k3
        have oz2 : w3.cell? ⟨w1.heap.size, 2, none⟩ = some (.int .i64 0) := by rw [cell_block k3]; rfl
        have of2 : w3.frozen? ⟨w1.heap.size, 2, none⟩ = false := frozen_block k3
        have oz3 : w3.cell? ⟨w1.heap.size, 3, none⟩ = some (.int .i64 0) := by rw [cell_block k3]; rfl
        have of3 : w3.frozen? ⟨w1.heap.size, 3, none⟩ = false := frozen_block k3
        have rz0 : w3.cell? ⟨w.heap.size + 1 + 1, 0, none⟩ = some (.int .i64 0) := by rw [cell_block st3.kr]; rfl
        have fz0 : w3.frozen? ⟨w.heap.size + 1 + 1, 0, none⟩ = false := frozen_block st3.kr
        have rz1 : w3.cell? ⟨w.heap.size + 1 + 1, 1, none⟩ = some (.int .i64 0) := by rw [cell_block st3.kr]; rfl
        have fz1 : w3.frozen? ⟨w.heap.size + 1 + 1, 1, none⟩ = false := frozen_block st3.kr
        have rz2 : w3.cell? ⟨w.heap.size + 1 + 1, 2, none⟩ = some (.int .i64 0) := by rw [cell_block st3.kr]; rfl
        have fz2 : w3.frozen? ⟨w.heap.size + 1 + 1, 2, none⟩ = false := frozen_block st3.kr
        have rz3 : w3.cell? ⟨w.heap.size + 1 + 1, 3, none⟩ = some (.int .i64 0) := by rw [cell_block st3.kr]; rfl
        have fz3 : w3.frozen? ⟨w.heap.size + 1 + 1, 3, none⟩ = false := frozen_block st3.kr
        have hq3 := block_lt k3
        clear st3 k3 cu cd
        have cd := ST3.out.toOpSw.cd
        have cu := ST3.out.cu
        go_wp2_with fail
        refine op_fin (b := w.heap.size + 1 + 1) ?_ rfl rfl ⟨⟨6, r2, r3, 0⟩, rfl, ?_, ?_⟩
        · try (with_reducible refine alloc_block ?_)
          refine set4_block (z0 := .int .i64 0) (z1 := .int .i64 0) (z2 := .int .i64 0) (z3 := .int .i64 0) ?_ _ _ _ _
          repeat rw [setCell_other _ (by omega)]
          exact ST3.out.kr
        · unfold OpOk'
          dsimp only
          refine ⟨⟨by omega, by omega⟩, ⟨by omega, by omega⟩, ⟨by omega, by omega⟩, ⟨by omega, by omega⟩, ?_, ?_, ?_⟩ <;> simp [opn]
        · refine ⟨ST3.out.deck.below (C := w.heap.size) ?_ hgl, grown_below ST3.out.gr ?_⟩
          all_goals repeat (first | with_reducible exact Below.refl _ _ | ((with_reducible refine bset ?_ ?_ _); any_goals omega) | ((with_reducible refine Below.alloc ?_ ?_ _); any_goals (simp; omega)))
      · go_wp2_with fail
        refine (OpSt.h_call (ST.out.alloc _)).mono ?_
        rintro e w2 ⟨r2, hra2, hrb2, rfl, st2, hg2⟩
        have k2 := grown_block hg2 (heap_alloc_new w1 _) (fun e => by injection e; omega)
        have ST2 := Lib.hid st2
        have K2 := Lib.hid k2
        clear hg2
        have oz0 : w2.cell? ⟨w1.heap.size, 0, none⟩ = some (.int .i64 7) := by rw [cell_block k2]; rfl
        have of0 : w2.frozen? ⟨w1.heap.size, 0, none⟩ = false := frozen_block k2
        have oz1 : w2.cell? ⟨w1.heap.size, 1, none⟩ = some (.int .i64 0) := by rw [cell_block k2]; rfl
        have of1 : w2.frozen? ⟨w1.heap.size, 1, none⟩ = false := frozen_block k2
        have oz2 : w2.cell? ⟨w1.heap.size, 2, none⟩ = some (.int .i64 0) := by rw [cell_block k2]; rfl
        have of2 : w2.frozen? ⟨w1.heap.size, 2, none⟩ = false := frozen_block k2
        have oz3 : w2.cell? ⟨w1.heap.size, 3, none⟩ = some (.int .i64 0) := by rw [cell_block k2]; rfl
        have of3 : w2.frozen? ⟨w1.heap.size, 3, none⟩ = false := frozen_block k2
        have rz0 : w2.cell? ⟨w.heap.size + 1 + 1, 0, none⟩ = some (.int .i64 0) := by rw [cell_block st2.kr]; rfl
        have fz0 : w2.frozen? ⟨w.heap.size + 1 + 1, 0, none⟩ = false := frozen_block st2.kr
        have rz1 : w2.cell? ⟨w.heap.size + 1 + 1, 1, none⟩ = some (.int .i64 0) := by rw [cell_block st2.kr]; rfl
        have fz1 : w2.frozen? ⟨w.heap.size + 1 + 1, 1, none⟩ = false := frozen_block st2.kr
        have rz2 : w2.cell? ⟨w.heap.size + 1 + 1, 2, none⟩ = some (.int .i64 0) := by rw [cell_block st2.kr]; rfl
        have fz2 : w2.frozen? ⟨w.heap.size + 1 + 1, 2, none⟩ = false := frozen_block st2.kr
        have rz3 : w2.cell? ⟨w.heap.size + 1 + 1, 3, none⟩ = some (.int .i64 0) := by rw [cell_block st2.kr]; rfl
        have fz3 : w2.frozen? ⟨w.heap.size + 1 + 1, 3, none⟩ = false := frozen_block st2.kr
        have hq2 := block_lt k2
        clear st2 k2 cu cd
        have cd := ST2.out.toOpSw.cd
        have cu := ST2.out.cu
        go_wp2_with fail
        refine op_fin (b := w.heap.size + 1 + 1) ?_ rfl rfl ⟨⟨7, r2, 0, 0⟩, rfl, ?_, ?_⟩
        · try (with_reducible refine alloc_block ?_)
          refine set4_block (z0 := .int .i64 0) (z1 := .int .i64 0) (z2 := .int .i64 0) (z3 := .int .i64 0) ?_ _ _ _ _
          repeat rw [setCell_other _ (by omega)]
          exact ST2.out.kr
        · unfold OpOk'
          dsimp only
          refine ⟨⟨by omega, by omega⟩, ⟨by omega, by omega⟩, ⟨by omega, by omega⟩, ⟨by omega, by omega⟩, ?_, ?_, ?_⟩ <;> simp [opn]
        · refine ⟨ST2.out.deck.below (C := w.heap.size) ?_ hgl, grown_below ST2.out.gr ?_⟩
          all_goals repeat (first | with_reducible exact Below.refl _ _ | ((with_reducible refine bset ?_ ?_ _); any_goals omega) | ((with_reducible refine Below.alloc ?_ ?_ _); any_goals (simp; omega)))
      · have rz0 : w1.cell? ⟨w.heap.size + 1 + 1, 0, none⟩ = some (.int .i64 0) := by rw [cell_block ST.out.kr]; rfl
        have fz0 : w1.frozen? ⟨w.heap.size + 1 + 1, 0, none⟩ = false := frozen_block ST.out.kr
        have rz1 : w1.cell? ⟨w.heap.size + 1 + 1, 1, none⟩ = some (.int .i64 0) := by rw [cell_block ST.out.kr]; rfl
        have fz1 : w1.frozen? ⟨w.heap.size + 1 + 1, 1, none⟩ = false := frozen_block ST.out.kr
        have rz2 : w1.cell? ⟨w.heap.size + 1 + 1, 2, none⟩ = some (.int .i64 0) := by rw [cell_block ST.out.kr]; rfl
        have fz2 : w1.frozen? ⟨w.heap.size + 1 + 1, 2, none⟩ = false := frozen_block ST.out.kr
        have rz3 : w1.cell? ⟨w.heap.size + 1 + 1, 3, none⟩ = some (.int .i64 0) := by rw [cell_block ST.out.kr]; rfl
        have fz3 : w1.frozen? ⟨w.heap.size + 1 + 1, 3, none⟩ = false := frozen_block ST.out.kr
        go_wp2_with fail
        refine op_fin (b := w.heap.size + 1 + 1) ?_ rfl rfl ⟨⟨8, 0, 0, 0⟩, rfl, ?_, ?_⟩
        · try (with_reducible refine alloc_block ?_)
          refine set4_block (z0 := .int .i64 0) (z1 := .int .i64 0) (z2 := .int .i64 0) (z3 := .int .i64 0) ?_ _ _ _ _
          repeat rw [setCell_other _ (by omega)]
          exact ST.out.kr
        · unfold OpOk'
          dsimp only
          refine ⟨⟨by omega, by omega⟩, ⟨by omega, by omega⟩, ⟨by omega, by omega⟩, ⟨by omega, by omega⟩, ?_, ?_, ?_⟩ <;> simp [opn]
        · refine ⟨ST.out.deck.below (C := w.heap.size) ?_ hgl, grown_below ST.out.gr ?_⟩
          all_goals repeat (first | with_reducible exact Below.refl _ _ | ((with_reducible refine bset ?_ ?_ _); any_goals omega) | ((with_reducible refine Below.alloc ?_ ?_ _); any_goals (simp; omega)))
      · go_wp2_with fail
        refine (OpSt.h_call (ST.out.alloc _)).mono ?_
        rintro e w2 ⟨r2, hra2, hrb2, rfl, st2, hg2⟩
        have k2 := grown_block hg2 (heap_alloc_new w1 _) (fun e => by injection e; omega)
        have ST2 := Lib.hid st2
        have K2 := Lib.hid k2
        clear hg2
        have oz0 : w2.cell? ⟨w1.heap.size, 0, none⟩ = some (.int .i64 9) := by rw [cell_block k2]; rfl
        have of0 : w2.frozen? ⟨w1.heap.size, 0, none⟩ = false := frozen_block k2
        have oz1 : w2.cell? ⟨w1.heap.size, 1, none⟩ = some (.int .i64 0) := by rw [cell_block k2]; rfl
        have of1 : w2.frozen? ⟨w1.heap.size, 1, none⟩ = false := frozen_block k2
        have oz2 : w2.cell? ⟨w1.heap.size, 2, none⟩ = some (.int .i64 0) := by rw [cell_block k2]; rfl
        have of2 : w2.frozen? ⟨w1.heap.size, 2, none⟩ = false := frozen_block k2
        have oz3 : w2.cell? ⟨w1.heap.size, 3, none⟩ = some (.int .i64 0) := by rw [cell_block k2]; rfl
        have of3 : w2.frozen? ⟨w1.heap.size, 3, none⟩ = false := frozen_block k2
        have rz0 : w2.cell? ⟨w.heap.size + 1 + 1, 0, none⟩ = some (.int .i64 0) := by rw [cell_block st2.kr]; rfl
        have fz0 : w2.frozen? ⟨w.heap.size + 1 + 1, 0, none⟩ = false := frozen_block st2.kr
        have rz1 : w2.cell? ⟨w.heap.size + 1 + 1, 1, none⟩ = some (.int .i64 0) := by rw [cell_block st2.kr]; rfl
        have fz1 : w2.frozen? ⟨w.heap.size + 1 + 1, 1, none⟩ = false := frozen_block st2.kr
        have rz2 : w2.cell? ⟨w.heap.size + 1 + 1, 2, none⟩ = some (.int .i64 0) := by rw [cell_block st2.kr]; rfl
        have fz2 : w2.frozen? ⟨w.heap.size + 1 + 1, 2, none⟩ = false := frozen_block st2.kr
        have rz3 : w2.cell? ⟨w.heap.size + 1 + 1, 3, none⟩ = some (.int .i64 0) := by rw [cell_block st2.kr]; rfl
        have fz3 : w2.frozen? ⟨w.heap.size + 1 + 1, 3, none⟩ = false := frozen_block st2.kr
        have hq2 := block_lt k2
        clear st2 k2 cu cd
        have cd := ST2.out.toOpSw.cd
        have cu := ST2.out.cu
        go_wp2_with fail
        refine op_fin (b := w.heap.size + 1 + 1) ?_ rfl rfl ⟨⟨9, r2, 0, 0⟩, rfl, ?_, ?_⟩
        · try (with_reducible refine alloc_block ?_)
          refine set4_block (z0 := .int .i64 0) (z1 := .int .i64 0) (z2 := .int .i64 0) (z3 := .int .i64 0) ?_ _ _ _ _
          repeat rw [setCell_other _ (by omega)]
          exact ST2.out.kr
        · unfold OpOk'
          dsimp only
          refine ⟨⟨by omega, by omega⟩, ⟨by omega, by omega⟩, ⟨by omega, by omega⟩, ⟨by omega, by omega⟩, ?_, ?_, ?_⟩ <;> simp [opn]
        · refine ⟨ST2.out.deck.below (C := w.heap.size) ?_ hgl, grown_below ST2.out.gr ?_⟩
          all_goals repeat (first | with_reducible exact Below.refl _ _ | ((with_reducible refine bset ?_ ?_ _); any_goals omega) | ((with_reducible refine Below.alloc ?_ ?_ _); any_goals (simp; omega)))
      · have rz0 : w1.cell? ⟨w.heap.size + 1 + 1, 0, none⟩ = some (.int .i64 0) := by rw [cell_block ST.out.kr]; rfl
        have fz0 : w1.frozen? ⟨w.heap.size + 1 + 1, 0, none⟩ = false := frozen_block ST.out.kr
        have rz1 : w1.cell? ⟨w.heap.size + 1 + 1, 1, none⟩ = some (.int .i64 0) := by rw [cell_block ST.out.kr]; rfl
        have fz1 : w1.frozen? ⟨w.heap.size + 1 + 1, 1, none⟩ = false := frozen_block ST.out.kr
        have rz2 : w1.cell? ⟨w.heap.size + 1 + 1, 2, none⟩ = some (.int .i64 0) := by rw [cell_block ST.out.kr]; rfl
        have fz2 : w1.frozen? ⟨w.heap.size + 1 + 1, 2, none⟩ = false := frozen_block ST.out.kr
        have rz3 : w1.cell? ⟨w.heap.size + 1 + 1, 3, none⟩ = some (.int .i64 0) := by rw [cell_block ST.out.kr]; rfl
        have fz3 : w1.frozen? ⟨w.heap.size + 1 + 1, 3, none⟩ = false := frozen_block ST.out.kr
        go_wp2_with fail
        refine op_fin (b := w.heap.size + 1 + 1) ?_ rfl rfl ⟨⟨10, 0, 0, 0⟩, rfl, ?_, ?_⟩
        · try (with_reducible refine alloc_block ?_)
          refine set4_block (z0 := .int .i64 0) (z1 := .int .i64 0) (z2 := .int .i64 0) (z3 := .int .i64 0) ?_ _ _ _ _
          repeat rw [setCell_other _ (by omega)]
          exact ST.out.kr
        · unfold OpOk'
          dsimp only
          refine ⟨⟨by omega, by omega⟩, ⟨by omega, by omega⟩, ⟨by omega, by omega⟩, ⟨by omega, by omega⟩, ?_, ?_, ?_⟩ <;> simp [opn]
        · refine ⟨ST.out.deck.below (C := w.heap.size) ?_ hgl, grown_below ST.out.gr ?_⟩
          all_goals repeat (first | with_reducible exact Below.refl _ _ | ((with_reducible refine bset ?_ ?_ _); any_goals omega) | ((with_reducible refine Below.alloc ?_ ?_ _); any_goals (simp; omega)))
end Go.Proofs.Ytadoehlhfccacaa
