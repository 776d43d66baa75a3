/- One drawn operation, more than 20 handles. -/
import Derived.Test.YtadoehlhfccacaaOpP
import Derived.Test.YtadoehlhfccacaaEncP
namespace Go.Proofs.Ytadoehlhfccacaa
open Go.RowKit

set_option maxRecDepth 100000 in
set_option maxHeartbeats 40000000 in
theorem op_big (B g : Nat) (w : World) (hd : Deck B w g) (nv rv : Option Addr) (nl nc rl rc : Nat) (uv : Value) (bs : List Bool) (hu : Rd boolE w uv bs) (hbl : bs.length ≤ 250) (hx : decide (20 < (trues bs).length) = true) :
    Calls Try.prog 17 #[.pointer (some ⟨g, 0, none⟩), .agg #[.slice nv nl nc, uv, .slice rv rl rc]] w fun e w' => ∃ o : Op4, e = .returned (.agg #[.int .i64 o.c, .int .i64 o.x, .int .i64 o.y, .int .i64 o.z]) ∧ OpOk' o ∧ Deck B w' g ∧ w.grownBy w' (some g) := by
  have HD := Lib.hid hd
  have hgl := hd.lt
  have hBg := hd.1
  clear hd
  have HU := Lib.hid hu
  obtain ⟨ua, uc, rfl, hul, huc, hud⟩ := hu.flat
  clear hu
  have HUD := Lib.hid hud
  clear hud
  have HX := Lib.hid hx
  clear hx
  unfold maxLen at huc
  go_enter Try.func17, Try.ntmps17
  go_wp2
  go_loopw [13] (fun i wr => OpLoop w g bs i wr) (fun i _ => bs.length - (intOf i).toNat)
  case atStart => exact OpLoop.start (w := w) (g := g) bs _ _
  case round =>
    obtain ⟨k, zs, ad, cap, hk, rfl, hls⟩ := hrel.out
    clear hrel
    have HL := Lib.hid hls
    have cu := hls.cu
    have fu := hls.fu
    have cd := hls.cd
    have hszr : w.heap.size + 1 + 1 + 1 < wr.heap.size := hls.size
    have hsza : w.heap.size < wr.heap.size := by omega
    have hzl := hls.zl
    clear hls
    by_cases hlt : k < bs.length
    · obtain ⟨b, off, rfl, hb, hcells⟩ := HUD.out.resolve_left (fun e => by simp [e] at hlt)
      have hb := hb (by decide)
      have hc : wr.cell? ⟨b, off + k, none⟩ = some (.bool bs[k]) := by
        have h1 := hcells k hlt 0 (by decide)
        simp at h1
        exact (HL.out.old hb).trans h1
      clear hcells
      cases hbk : bs[k] with
      | false =>
        rw [hbk] at hc
        go_wp2
        go_roundw
        case rel => exact OpLoop.next hlt (HL.out.skip hlt hbk)
        case measure => simp [intOf]; omega
      | true =>
        rw [hbk] at hc
        have HO := Lib.hid HL.out.own
        have hB4 : w.heap.size + 1 + 1 + 1 + 1 ≤ wr.heap.size := by omega
        have hbytes : (zs.length + 1) * 8 ≤ 140737488355328 := by omega
        have hml : zs.length + 1 ≤ maxLen := by unfold maxLen; omega
        go_wp2_with (at_builtin; go_must (refine wpList_append_lit i64E i64S rfl _ _ rfl (w.heap.size + 1 + 1 + 1 + 1) _ zs rfl HO.out ((k : Int) + 1) _ _ rfl rfl rfl ?_ hbytes hml hB4 (fun _ _ _ _ h => h) ?_))
        · simp [Value.oneCell']
        · intro v' w' ho hg hb2
          have HG := Lib.hid hg
          have HOO := Lib.hid ho
          have HB2 := Lib.hid hb2
          have fu' : w'.frozen? ⟨w.heap.size + 1 + 1 + 1, 0, none⟩ = false := HL.out.fu2 HB2.out
          have cu' : w'.cell? ⟨w.heap.size + 1 + 1 + 1, 0, none⟩ = some (.slice ad zs.length cap) := HL.out.cu2 HB2.out
          have hs2 : wr.heap.size < w'.heap.size := by have := hg.size; simp at this; omega
          have hs3 : w.heap.size + 1 + 1 + 1 < w'.heap.size := by omega
          obtain ⟨ad', cap', rfl⟩ := own_form ho
          clear ho hg hb2
          go_wp2
          go_roundw
          case rel => exact OpLoop.next hlt (HL.out.put hlt hbk (by simp) HOO.out HB2.out)
          case measure => simp [intOf]; omega
    · have hkl : k = bs.length := by omega
      have hzb := HL.out.zb
      go_wp2_with fail
      refine (next_any B _ 20 _ (HD.out.below (C := w.heap.size) (HL.out.bel.alloc HL.out.bel.size _) hgl) (by omega) (by omega)).mono ?_
      rintro e w1 ⟨r, hr0, hr1, rfl, hd1, hg1⟩
      obtain ⟨j, rfl⟩ := Int.eq_ofNat_of_zero_le hr0
      have hnb : ∀ k, w.heap.size ≤ k → some k ≠ some g := fun k hk e => by injection e with e; omega
      have st1 : OpSt B w g ad cap zs w1 := HL.out.op hg1 hd1 hgl hBg hkl hbl
      obtain ⟨c, hc, hc0, hc1⟩ := codes_at (grown_block hg1 (heap_alloc_new _ _) (hnb _ (by omega))) (by omega : j < 20)
      have hs1 : wr.heap.size < w1.heap.size := by have := hg1.size; simp at this; omega
      have cu := st1.cu
      have cd := st1.toOpSw.cd
      have ST := Lib.hid st1
      have hsA : w.heap.size < w1.heap.size := by omega
      have hsB : w.heap.size + 1 + 1 < w1.heap.size := by omega
      have hsC : w.heap.size + 1 + 1 + 1 < w1.heap.size := by omega
      have hzn : decide (20 < zs.length) = true := (HL.out.lenx hkl).trans HX.out
      have hzm : (20 : Int) < zs.length := by simp at hzn; omega
      clear hzn
      clear hg1 hd1 hnb st1 fu hkl hlt hk hszr hzl hsza
      have : c = 0 ∨ c = 1 ∨ c = 2 ∨ c = 3 ∨ c = 4 ∨ c = 5 ∨ c = 6 ∨ c = 7 ∨ c = 8 ∨ c = 9 ∨ c = 10 := by omega
      rcases this with rfl | rfl | rfl | rfl | rfl | rfl | rfl | rfl | rfl | rfl | rfl
      · have rz0 : w1.cell? ⟨w.heap.size + 1 + 1, 0, none⟩ = some (.int .i64 0) := by rw [cell_block ST.out.kr]; rfl
        have fz0 : w1.frozen? ⟨w.heap.size + 1 + 1, 0, none⟩ = false := frozen_block ST.out.kr
        have rz1 : w1.cell? ⟨w.heap.size + 1 + 1, 1, none⟩ = some (.int .i64 0) := by rw [cell_block ST.out.kr]; rfl
        have fz1 : w1.frozen? ⟨w.heap.size + 1 + 1, 1, none⟩ = false := frozen_block ST.out.kr
        have rz2 : w1.cell? ⟨w.heap.size + 1 + 1, 2, none⟩ = some (.int .i64 0) := by rw [cell_block ST.out.kr]; rfl
        have fz2 : w1.frozen? ⟨w.heap.size + 1 + 1, 2, none⟩ = false := frozen_block ST.out.kr
        have rz3 : w1.cell? ⟨w.heap.size + 1 + 1, 3, none⟩ = some (.int .i64 0) := by rw [cell_block ST.out.kr]; rfl
        have fz3 : w1.frozen? ⟨w.heap.size + 1 + 1, 3, none⟩ = false := frozen_block ST.out.kr
        go_wp2_with fail
        refine op_fin (b := w.heap.size + 1 + 1) ?_ rfl rfl ⟨⟨0, 0, 0, 0⟩, rfl, ?_, ?_⟩
        · try (with_reducible refine alloc_block ?_)
          refine set4_block (z0 := .int .i64 0) (z1 := .int .i64 0) (z2 := .int .i64 0) (z3 := .int .i64 0) ?_ _ _ _ _
          repeat rw [setCell_other _ (by omega)]
          exact ST.out.kr
        · unfold OpOk'
          dsimp only
          refine ⟨⟨by omega, by omega⟩, ⟨by omega, by omega⟩, ⟨by omega, by omega⟩, ⟨by omega, by omega⟩, ?_, ?_, ?_⟩ <;> simp [opn]
        · refine ⟨ST.out.deck.below (C := w.heap.size) ?_ hgl, grown_below ST.out.gr ?_⟩
          all_goals repeat (first | with_reducible exact Below.refl _ _ | ((with_reducible refine bset ?_ ?_ _); any_goals omega) | ((with_reducible refine Below.alloc ?_ ?_ _); any_goals (simp; omega)))
      · go_wp2_with fail
        refine (OpSt.h_call (ST.out.alloc _)).mono ?_
        rintro e w2 ⟨r2, hra2, hrb2, rfl, st2, hg2⟩
        have k2 := grown_block hg2 (heap_alloc_new w1 _) (fun e => by injection e; omega)
        have ST2 := Lib.hid st2
        have K2 := Lib.hid k2
        clear hg2
        have oz0 : w2.cell? ⟨w1.heap.size, 0, none⟩ = some (.int .i64 7) := by rw [cell_block k2]; rfl
        have of0 : w2.frozen? ⟨w1.heap.size, 0, none⟩ = false := frozen_block k2
        have oz1 : w2.cell? ⟨w1.heap.size, 1, none⟩ = some (.int .i64 0) := by rw [cell_block k2]; rfl
        have of1 : w2.frozen? ⟨w1.heap.size, 1, none⟩ = false := frozen_block k2
        have oz2 : w2.cell? ⟨w1.heap.size, 2, none⟩ = some (.int .i64 0) := by rw [cell_block k2]; rfl
        have of2 : w2.frozen? ⟨w1.heap.size, 2, none⟩ = false := frozen_block k2
        have oz3 : w2.cell? ⟨w1.heap.size, 3, none⟩ = some (.int .i64 0) := by rw [cell_block k2]; rfl
        have of3 : w2.frozen? ⟨w1.heap.size, 3, none⟩ = false := frozen_block k2
        have rz0 : w2.cell? ⟨w.heap.size + 1 + 1, 0, none⟩ = some (.int .i64 0) := by rw [cell_block st2.kr]; rfl
        have fz0 : w2.frozen? ⟨w.heap.size + 1 + 1, 0, none⟩ = false := frozen_block st2.kr
        have rz1 : w2.cell? ⟨w.heap.size + 1 + 1, 1, none⟩ = some (.int .i64 0) := by rw [cell_block st2.kr]; rfl
        have fz1 : w2.frozen? ⟨w.heap.size + 1 + 1, 1, none⟩ = false := frozen_block st2.kr
        have rz2 : w2.cell? ⟨w.heap.size + 1 + 1, 2, none⟩ = some (.int .i64 0) := by rw [cell_block st2.kr]; rfl
        have fz2 : w2.frozen? ⟨w.heap.size + 1 + 1, 2, none⟩ = false := frozen_block st2.kr
        have rz3 : w2.cell? ⟨w.heap.size + 1 + 1, 3, none⟩ = some (.int .i64 0) := by rw [cell_block st2.kr]; rfl
        have fz3 : w2.frozen? ⟨w.heap.size + 1 + 1, 3, none⟩ = false := frozen_block st2.kr
        have hq2 := block_lt k2
        clear st2 k2 cu cd
        have cd := ST2.out.toOpSw.cd
        have cu := ST2.out.cu
        go_wp2_with fail
        refine op_fin (b := w.heap.size + 1 + 1) ?_ rfl rfl ⟨⟨7, r2, 0, 0⟩, rfl, ?_, ?_⟩
        · try (with_reducible refine alloc_block ?_)
          refine set4_block (z0 := .int .i64 0) (z1 := .int .i64 0) (z2 := .int .i64 0) (z3 := .int .i64 0) ?_ _ _ _ _
          repeat rw [setCell_other _ (by omega)]
          exact ST2.out.kr
        · unfold OpOk'
          dsimp only
          refine ⟨⟨by omega, by omega⟩, ⟨by omega, by omega⟩, ⟨by omega, by omega⟩, ⟨by omega, by omega⟩, ?_, ?_, ?_⟩ <;> simp [opn]
        · refine ⟨ST2.out.deck.below (C := w.heap.size) ?_ hgl, grown_below ST2.out.gr ?_⟩
          all_goals repeat (first | with_reducible exact Below.refl _ _ | ((with_reducible refine bset ?_ ?_ _); any_goals omega) | ((with_reducible refine Below.alloc ?_ ?_ _); any_goals (simp; omega)))
      · go_wp2_with fail
        go_region_with (first | (go_at_call 15; refine (OpSt.n_call ST2.out 3 (by omega) (by omega)).mono ?_; rintro e w3 ⟨r3, ⟨hra3, hrb3⟩, rfl, st3, hg3⟩; have k3 := grown_block hg3 K2.out (fun e => by injection e; omega); have ST3 := Lib.hid st3; have K3 := Lib.hid k3; have cd3 := st3.toOpSw.cd; have cu3 := st3.cu; have oz0 : w3.cell? ⟨w1.heap.size, 0, none⟩ = some (.int .i64 2) := (by rw [cell_block k3]; rfl); have of0 : w3.frozen? ⟨w1.heap.size, 0, none⟩ = false := frozen_block k3; have rz0 : w3.cell? ⟨w.heap.size + 1 + 1, 0, none⟩ = some (.int .i64 0) := (by rw [cell_block st3.kr]; rfl); have fz0 : w3.frozen? ⟨w.heap.size + 1 + 1, 0, none⟩ = false := frozen_block st3.kr; have oz1 : w3.cell? ⟨w1.heap.size, 1, none⟩ = some (.int .i64 0) := (by rw [cell_block k3]; rfl); have of1 : w3.frozen? ⟨w1.heap.size, 1, none⟩ = false := frozen_block k3; have rz1 : w3.cell? ⟨w.heap.size + 1 + 1, 1, none⟩ = some (.int .i64 0) := (by rw [cell_block st3.kr]; rfl); have fz1 : w3.frozen? ⟨w.heap.size + 1 + 1, 1, none⟩ = false := frozen_block st3.kr; have oz2 : w3.cell? ⟨w1.heap.size, 2, none⟩ = some (.int .i64 0) := (by rw [cell_block k3]; rfl); have of2 : w3.frozen? ⟨w1.heap.size, 2, none⟩ = false := frozen_block k3; have rz2 : w3.cell? ⟨w.heap.size + 1 + 1, 2, none⟩ = some (.int .i64 0) := (by rw [cell_block st3.kr]; rfl); have fz2 : w3.frozen? ⟨w.heap.size + 1 + 1, 2, none⟩ = false := frozen_block st3.kr; have oz3 : w3.cell? ⟨w1.heap.size, 3, none⟩ = some (.int .i64 0) := (by rw [cell_block k3]; rfl); have of3 : w3.frozen? ⟨w1.heap.size, 3, none⟩ = false := frozen_block k3; have rz3 : w3.cell? ⟨w.heap.size + 1 + 1, 3, none⟩ = some (.int .i64 0) := (by rw [cell_block st3.kr]; rfl); have fz3 : w3.frozen? ⟨w.heap.size + 1 + 1, 3, none⟩ = false := frozen_block st3.kr; have hq3 := block_lt k3; clear st3 k3 hg3) | (go_at_call 23; refine (OpSt.h_call ((ST.out.alloc _).drew)).mono ?_; rintro e w2 ⟨r2, hra2, hrb2, rfl, st2, hg2⟩; have k2 := grown_block (w := (w1.alloc _).drew) hg2 (heap_alloc_new w1 _) (fun e => by injection e; omega); have ST2 := Lib.hid st2; have K2 := Lib.hid k2; have cd2 := st2.toOpSw.cd; have cu2 := st2.cu; have hq2 := block_lt k2; clear st2 k2 hg2))
        all_goals go_wp2_with fail
        all_goals
          refine op_fin (b := w.heap.size + 1 + 1) ?_ rfl rfl ⟨⟨2, r2, r3, 0⟩, rfl, ?_, ?_⟩
          · try (with_reducible refine alloc_block ?_)
            refine set4_block (z0 := .int .i64 0) (z1 := .int .i64 0) (z2 := .int .i64 0) (z3 := .int .i64 0) ?_ _ _ _ _
            repeat rw [setCell_other _ (by omega)]
            exact ST3.out.kr
          · unfold OpOk'
            dsimp only
            refine ⟨⟨by omega, by omega⟩, ⟨by omega, by omega⟩, ⟨by omega, by omega⟩, ⟨by omega, by omega⟩, ?_, ?_, ?_⟩ <;> simp [opn]
          · refine ⟨ST3.out.deck.below (C := w.heap.size) ?_ hgl, grown_below ST3.out.gr ?_⟩
            all_goals repeat (first | with_reducible exact Below.refl _ _ | ((with_reducible refine bset ?_ ?_ _); any_goals omega) | ((with_reducible refine Below.alloc ?_ ?_ _); any_goals (simp; omega)))
      · go_wp2_with fail
        go_region_with (first | (go_at_call 23; refine (OpSt.h_call ST3.out).mono ?_; rintro e w4 ⟨r4, hra4, hrb4, rfl, st4, hg4⟩; have k4 := grown_block hg4 K3.out (fun e => by injection e; omega); have ST4 := Lib.hid st4; have K4 := Lib.hid k4; have cd4 := st4.toOpSw.cd; have cu4 := st4.cu; have oz0 : w4.cell? ⟨w1.heap.size, 0, none⟩ = some (.int .i64 3) := (by rw [cell_block k4]; rfl); have of0 : w4.frozen? ⟨w1.heap.size, 0, none⟩ = false := frozen_block k4; have rz0 : w4.cell? ⟨w.heap.size + 1 + 1, 0, none⟩ = some (.int .i64 0) := (by rw [cell_block st4.kr]; rfl); have fz0 : w4.frozen? ⟨w.heap.size + 1 + 1, 0, none⟩ = false := frozen_block st4.kr; have oz1 : w4.cell? ⟨w1.heap.size, 1, none⟩ = some (.int .i64 0) := (by rw [cell_block k4]; rfl); have of1 : w4.frozen? ⟨w1.heap.size, 1, none⟩ = false := frozen_block k4; have rz1 : w4.cell? ⟨w.heap.size + 1 + 1, 1, none⟩ = some (.int .i64 0) := (by rw [cell_block st4.kr]; rfl); have fz1 : w4.frozen? ⟨w.heap.size + 1 + 1, 1, none⟩ = false := frozen_block st4.kr; have oz2 : w4.cell? ⟨w1.heap.size, 2, none⟩ = some (.int .i64 0) := (by rw [cell_block k4]; rfl); have of2 : w4.frozen? ⟨w1.heap.size, 2, none⟩ = false := frozen_block k4; have rz2 : w4.cell? ⟨w.heap.size + 1 + 1, 2, none⟩ = some (.int .i64 0) := (by rw [cell_block st4.kr]; rfl); have fz2 : w4.frozen? ⟨w.heap.size + 1 + 1, 2, none⟩ = false := frozen_block st4.kr; have oz3 : w4.cell? ⟨w1.heap.size, 3, none⟩ = some (.int .i64 0) := (by rw [cell_block k4]; rfl); have of3 : w4.frozen? ⟨w1.heap.size, 3, none⟩ = false := frozen_block k4; have rz3 : w4.cell? ⟨w.heap.size + 1 + 1, 3, none⟩ = some (.int .i64 0) := (by rw [cell_block st4.kr]; rfl); have fz3 : w4.frozen? ⟨w.heap.size + 1 + 1, 3, none⟩ = false := frozen_block st4.kr; have hq4 := block_lt k4; clear st4 k4 hg4) | (go_at_call 15; refine (OpSt.n_call ST2.out 3 (by omega) (by omega)).mono ?_; rintro e w3 ⟨r3, ⟨hra3, hrb3⟩, rfl, st3, hg3⟩; have k3 := grown_block hg3 K2.out (fun e => by injection e; omega); have ST3 := Lib.hid st3; have K3 := Lib.hid k3; have cd3 := st3.toOpSw.cd; have cu3 := st3.cu; have hq3 := block_lt k3; clear st3 k3 hg3) | (go_at_call 23; refine (OpSt.h_call ((ST.out.alloc _).drew)).mono ?_; rintro e w2 ⟨r2, hra2, hrb2, rfl, st2, hg2⟩; have k2 := grown_block (w := (w1.alloc _).drew) hg2 (heap_alloc_new w1 _) (fun e => by injection e; omega); have ST2 := Lib.hid st2; have K2 := Lib.hid k2; have cd2 := st2.toOpSw.cd; have cu2 := st2.cu; have hq2 := block_lt k2; clear st2 k2 hg2))
        all_goals go_wp2_with fail
        all_goals
          refine op_fin (b := w.heap.size + 1 + 1) ?_ rfl rfl ⟨⟨3, r2, r3, r4⟩, rfl, ?_, ?_⟩
          · try (with_reducible refine alloc_block ?_)
            refine set4_block (z0 := .int .i64 0) (z1 := .int .i64 0) (z2 := .int .i64 0) (z3 := .int .i64 0) ?_ _ _ _ _
            repeat rw [setCell_other _ (by omega)]
            exact ST4.out.kr
          · unfold OpOk'
            dsimp only
            refine ⟨⟨by omega, by omega⟩, ⟨by omega, by omega⟩, ⟨by omega, by omega⟩, ⟨by omega, by omega⟩, ?_, ?_, ?_⟩ <;> simp [opn]
          · refine ⟨ST4.out.deck.below (C := w.heap.size) ?_ hgl, grown_below ST4.out.gr ?_⟩
            all_goals repeat (first | with_reducible exact Below.refl _ _ | ((with_reducible refine bset ?_ ?_ _); any_goals omega) | ((with_reducible refine Below.alloc ?_ ?_ _); any_goals (simp; omega)))
      · go_wp2_with fail
        go_region_with (first | (go_at_call 15; refine (OpSt.n_call ST2.out 3 (by omega) (by omega)).mono ?_; rintro e w3 ⟨r3, ⟨hra3, hrb3⟩, rfl, st3, hg3⟩; have k3 := grown_block hg3 K2.out (fun e => by injection e; omega); have ST3 := Lib.hid st3; have K3 := Lib.hid k3; have cd3 := st3.toOpSw.cd; have cu3 := st3.cu; have oz0 : w3.cell? ⟨w1.heap.size, 0, none⟩ = some (.int .i64 4) := (by rw [cell_block k3]; rfl); have of0 : w3.frozen? ⟨w1.heap.size, 0, none⟩ = false := frozen_block k3; have rz0 : w3.cell? ⟨w.heap.size + 1 + 1, 0, none⟩ = some (.int .i64 0) := (by rw [cell_block st3.kr]; rfl); have fz0 : w3.frozen? ⟨w.heap.size + 1 + 1, 0, none⟩ = false := frozen_block st3.kr; have oz1 : w3.cell? ⟨w1.heap.size, 1, none⟩ = some (.int .i64 0) := (by rw [cell_block k3]; rfl); have of1 : w3.frozen? ⟨w1.heap.size, 1, none⟩ = false := frozen_block k3; have rz1 : w3.cell? ⟨w.heap.size + 1 + 1, 1, none⟩ = some (.int .i64 0) := (by rw [cell_block st3.kr]; rfl); have fz1 : w3.frozen? ⟨w.heap.size + 1 + 1, 1, none⟩ = false := frozen_block st3.kr; have oz2 : w3.cell? ⟨w1.heap.size, 2, none⟩ = some (.int .i64 0) := (by rw [cell_block k3]; rfl); have of2 : w3.frozen? ⟨w1.heap.size, 2, none⟩ = false := frozen_block k3; have rz2 : w3.cell? ⟨w.heap.size + 1 + 1, 2, none⟩ = some (.int .i64 0) := (by rw [cell_block st3.kr]; rfl); have fz2 : w3.frozen? ⟨w.heap.size + 1 + 1, 2, none⟩ = false := frozen_block st3.kr; have oz3 : w3.cell? ⟨w1.heap.size, 3, none⟩ = some (.int .i64 0) := (by rw [cell_block k3]; rfl); have of3 : w3.frozen? ⟨w1.heap.size, 3, none⟩ = false := frozen_block k3; have rz3 : w3.cell? ⟨w.heap.size + 1 + 1, 3, none⟩ = some (.int .i64 0) := (by rw [cell_block st3.kr]; rfl); have fz3 : w3.frozen? ⟨w.heap.size + 1 + 1, 3, none⟩ = false := frozen_block st3.kr; have hq3 := block_lt k3; clear st3 k3 hg3) | (go_at_call 23; refine (OpSt.h_call ((ST.out.alloc _).drew)).mono ?_; rintro e w2 ⟨r2, hra2, hrb2, rfl, st2, hg2⟩; have k2 := grown_block (w := (w1.alloc _).drew) hg2 (heap_alloc_new w1 _) (fun e => by injection e; omega); have ST2 := Lib.hid st2; have K2 := Lib.hid k2; have cd2 := st2.toOpSw.cd; have cu2 := st2.cu; have hq2 := block_lt k2; clear st2 k2 hg2))
        all_goals go_wp2_with fail
        all_goals
          refine op_fin (b := w.heap.size + 1 + 1) ?_ rfl rfl ⟨⟨4, r2, r3, 0⟩, rfl, ?_, ?_⟩
          · try (with_reducible refine alloc_block ?_)
            refine set4_block (z0 := .int .i64 0) (z1 := .int .i64 0) (z2 := .int .i64 0) (z3 := .int .i64 0) ?_ _ _ _ _
            repeat rw [setCell_other _ (by omega)]
            exact ST3.out.kr
          · unfold OpOk'
            dsimp only
            refine ⟨⟨by omega, by omega⟩, ⟨by omega, by omega⟩, ⟨by omega, by omega⟩, ⟨by omega, by omega⟩, ?_, ?_, ?_⟩ <;> simp [opn]
          · refine ⟨ST3.out.deck.below (C := w.heap.size) ?_ hgl, grown_below ST3.out.gr ?_⟩
            all_goals repeat (first | with_reducible exact Below.refl _ _ | ((with_reducible refine bset ?_ ?_ _); any_goals omega) | ((with_reducible refine Below.alloc ?_ ?_ _); any_goals (simp; omega)))
      · go_wp2_with fail
        go_region_with (first | (go_at_call 15; refine (OpSt.n_call ST3.out 256 (by omega) (by omega)).mono ?_; rintro e w4 ⟨r4, ⟨hra4, hrb4⟩, rfl, st4, hg4⟩; have k4 := grown_block hg4 K3.out (fun e => by injection e; omega); have ST4 := Lib.hid st4; have K4 := Lib.hid k4; have cd4 := st4.toOpSw.cd; have cu4 := st4.cu; have oz0 : w4.cell? ⟨w1.heap.size, 0, none⟩ = some (.int .i64 5) := (by rw [cell_block k4]; rfl); have of0 : w4.frozen? ⟨w1.heap.size, 0, none⟩ = false := frozen_block k4; have rz0 : w4.cell? ⟨w.heap.size + 1 + 1, 0, none⟩ = some (.int .i64 0) := (by rw [cell_block st4.kr]; rfl); have fz0 : w4.frozen? ⟨w.heap.size + 1 + 1, 0, none⟩ = false := frozen_block st4.kr; have oz1 : w4.cell? ⟨w1.heap.size, 1, none⟩ = some (.int .i64 0) := (by rw [cell_block k4]; rfl); have of1 : w4.frozen? ⟨w1.heap.size, 1, none⟩ = false := frozen_block k4; have rz1 : w4.cell? ⟨w.heap.size + 1 + 1, 1, none⟩ = some (.int .i64 0) := (by rw [cell_block st4.kr]; rfl); have fz1 : w4.frozen? ⟨w.heap.size + 1 + 1, 1, none⟩ = false := frozen_block st4.kr; have oz2 : w4.cell? ⟨w1.heap.size, 2, none⟩ = some (.int .i64 0) := (by rw [cell_block k4]; rfl); have of2 : w4.frozen? ⟨w1.heap.size, 2, none⟩ = false := frozen_block k4; have rz2 : w4.cell? ⟨w.heap.size + 1 + 1, 2, none⟩ = some (.int .i64 0) := (by rw [cell_block st4.kr]; rfl); have fz2 : w4.frozen? ⟨w.heap.size + 1 + 1, 2, none⟩ = false := frozen_block st4.kr; have oz3 : w4.cell? ⟨w1.heap.size, 3, none⟩ = some (.int .i64 0) := (by rw [cell_block k4]; rfl); have of3 : w4.frozen? ⟨w1.heap.size, 3, none⟩ = false := frozen_block k4; have rz3 : w4.cell? ⟨w.heap.size + 1 + 1, 3, none⟩ = some (.int .i64 0) := (by rw [cell_block st4.kr]; rfl); have fz3 : w4.frozen? ⟨w.heap.size + 1 + 1, 3, none⟩ = false := frozen_block st4.kr; have hq4 := block_lt k4; clear st4 k4 hg4) | (go_at_call 15; refine (OpSt.n_call ST2.out 3 (by omega) (by omega)).mono ?_; rintro e w3 ⟨r3, ⟨hra3, hrb3⟩, rfl, st3, hg3⟩; have k3 := grown_block hg3 K2.out (fun e => by injection e; omega); have ST3 := Lib.hid st3; have K3 := Lib.hid k3; have cd3 := st3.toOpSw.cd; have cu3 := st3.cu; have hq3 := block_lt k3; clear st3 k3 hg3) | (go_at_call 23; refine (OpSt.h_call ((ST.out.alloc _).drew)).mono ?_; rintro e w2 ⟨r2, hra2, hrb2, rfl, st2, hg2⟩; have k2 := grown_block (w := (w1.alloc _).drew) hg2 (heap_alloc_new w1 _) (fun e => by injection e; omega); have ST2 := Lib.hid st2; have K2 := Lib.hid k2; have cd2 := st2.toOpSw.cd; have cu2 := st2.cu; have hq2 := block_lt k2; clear st2 k2 hg2))
        all_goals go_wp2_with fail
        all_goals
          refine op_fin (b := w.heap.size + 1 + 1) ?_ rfl rfl ⟨⟨5, r2, r3, r4⟩, rfl, ?_, ?_⟩
          · try (with_reducible refine alloc_block ?_)
            refine set4_block (z0 := .int .i64 0) (z1 := .int .i64 0) (z2 := .int .i64 0) (z3 := .int .i64 0) ?_ _ _ _ _
            repeat rw [setCell_other _ (by omega)]
            exact ST4.out.kr
          · unfold OpOk'
            dsimp only
            refine ⟨⟨by omega, by omega⟩, ⟨by omega, by omega⟩, ⟨by omega, by omega⟩, ⟨by omega, by omega⟩, ?_, ?_, ?_⟩ <;> simp [opn]
          · refine ⟨ST4.out.deck.below (C := w.heap.size) ?_ hgl, grown_below ST4.out.gr ?_⟩
            all_goals repeat (first | with_reducible exact Below.refl _ _ | ((with_reducible refine bset ?_ ?_ _); any_goals omega) | ((with_reducible refine Below.alloc ?_ ?_ _); any_goals (simp; omega)))
      · go_wp2_with fail
        refine (OpSt.h_call (ST.out.alloc _)).mono ?_
        rintro e w2 ⟨r2, hra2, hrb2, rfl, st2, hg2⟩
        have k2 := grown_block hg2 (heap_alloc_new w1 _) (fun e => by injection e; omega)
        have ST2 := Lib.hid st2
        have K2 := Lib.hid k2
        clear hg2
        have hq2 := block_lt k2
        clear st2 k2 cu cd
        have cd := ST2.out.toOpSw.cd
        have cu := ST2.out.cu
        go_wp2_with fail
        refine (OpSt.h_call ST2.out).mono ?_
        rintro e w3 ⟨r3, hra3, hrb3, rfl, st3, hg3⟩
        have k3 := grown_block hg3 K2.out (fun e => by injection e; omega)
        have ST3 := Lib.hid st3
        have K3 := Lib.hid k3
        clear hg3
        have oz0 : w3.cell? ⟨w1.heap.size, 0, none⟩ = some (.int .i64 6) := by rw [cell_block k3]; rfl
        have of0 : w3.frozen? ⟨w1.heap.size, 0, none⟩ = false := frozen_block k3
        have oz1 : w3.cell? ⟨w1.heap.size, 1, none⟩ = some (.int .i64 0) := by rw [cell_block k3]; rfl
        have of1 : w3.frozen? ⟨w1.heap.size, 1, none⟩ = false := frozen_block k3
        have oz2 : w3.cell? ⟨w1.heap.size, 2, none⟩ = some (.int .i64 0) := by rw [cell_block k3]; rfl
        have of2 : w3.frozen? ⟨w1.heap.size, 2, none⟩ = false := frozen_block k3
        have oz3 : w3.cell? ⟨w1.heap.size, 3, none⟩ = some (.int .i64 0) := by rw [cell_block k3]; rfl
        have of3 : w3.frozen? ⟨w1.heap.size, 3, none⟩ = false := frozen_block k3
        have rz0 : w3.cell? ⟨w.heap.size + 1 + 1, 0, none⟩ = some (.int .i64 0) := by rw [cell_block st3.kr]; rfl
        have fz0 : w3.frozen? ⟨w.heap.size + 1 + 1, 0, none⟩ = false := frozen_block st3.kr
        have rz1 : w3.cell? ⟨w.heap.size + 1 + 1, 1, none⟩ = some (.int .i64 0) := by rw [cell_block st3.kr]; rfl
        have fz1 : w3.frozen? ⟨w.heap.size + 1 + 1, 1, none⟩ = false := frozen_block st3.kr
        have rz2 : w3.cell? ⟨w.heap.size + 1 + 1, 2, none⟩ = some (.int .i64 0) := by rw [cell_block st3.kr]; rfl
        have fz2 : w3.frozen? ⟨w.heap.size + 1 + 1, 2, none⟩ = false := frozen_block st3.kr
        have rz3 : w3.cell? ⟨w.heap.size + 1 + 1, 3, none⟩ = some (.int .i64 0) := by rw [cell_block st3.kr]; rfl
        have fz3 : w3.frozen? ⟨w.heap.size + 1 + 1, 3, none⟩ = false := frozen_block st3.kr
        have hq3 := block_lt k3
        clear st3 k3 cu cd
        have cd := ST3.out.toOpSw.cd
        have cu := ST3.out.cu
        go_wp2_with fail
        refine op_fin (b := w.heap.size + 1 + 1) ?_ rfl rfl ⟨⟨6, r2, r3, 0⟩, rfl, ?_, ?_⟩
        · try (with_reducible refine alloc_block ?_)
          refine set4_block (z0 := .int .i64 0) (z1 := .int .i64 0) (z2 := .int .i64 0) (z3 := .int .i64 0) ?_ _ _ _ _
          repeat rw [setCell_other _ (by omega)]
          exact ST3.out.kr
        · unfold OpOk'
          dsimp only
          refine ⟨⟨by omega, by omega⟩, ⟨by omega, by omega⟩, ⟨by omega, by omega⟩, ⟨by omega, by omega⟩, ?_, ?_, ?_⟩ <;> simp [opn]
        · refine ⟨ST3.out.deck.below (C := w.heap.size) ?_ hgl, grown_below ST3.out.gr ?_⟩
          all_goals repeat (first | with_reducible exact Below.refl _ _ | ((with_reducible refine bset ?_ ?_ _); any_goals omega) | ((with_reducible refine Below.alloc ?_ ?_ _); any_goals (simp; omega)))
      · go_wp2_with fail
        refine (OpSt.h_call (ST.out.alloc _)).mono ?_
        rintro e w2 ⟨r2, hra2, hrb2, rfl, st2, hg2⟩
        have k2 := grown_block hg2 (heap_alloc_new w1 _) (fun e => by injection e; omega)
        have ST2 := Lib.hid st2
        have K2 := Lib.hid k2
        clear hg2
        have oz0 : w2.cell? ⟨w1.heap.size, 0, none⟩ = some (.int .i64 7) := by rw [cell_block k2]; rfl
        have of0 : w2.frozen? ⟨w1.heap.size, 0, none⟩ = false := frozen_block k2
        have oz1 : w2.cell? ⟨w1.heap.size, 1, none⟩ = some (.int .i64 0) := by rw [cell_block k2]; rfl
        have of1 : w2.frozen? ⟨w1.heap.size, 1, none⟩ = false := frozen_block k2
        have oz2 : w2.cell? ⟨w1.heap.size, 2, none⟩ = some (.int .i64 0) := by rw [cell_block k2]; rfl
        have of2 : w2.frozen? ⟨w1.heap.size, 2, none⟩ = false := frozen_block k2
        have oz3 : w2.cell? ⟨w1.heap.size, 3, none⟩ = some (.int .i64 0) := by rw [cell_block k2]; rfl
        have of3 : w2.frozen? ⟨w1.heap.size, 3, none⟩ = false := frozen_block k2
        have rz0 : w2.cell? ⟨w.heap.size + 1 + 1, 0, none⟩ = some (.int .i64 0) := by rw [cell_block st2.kr]; rfl
        have fz0 : w2.frozen? ⟨w.heap.size + 1 + 1, 0, none⟩ = false := frozen_block st2.kr
        have rz1 : w2.cell? ⟨w.heap.size + 1 + 1, 1, none⟩ = some (.int .i64 0) := by rw [cell_block st2.kr]; rfl
        have fz1 : w2.frozen? ⟨w.heap.size + 1 + 1, 1, none⟩ = false := frozen_block st2.kr
        have rz2 : w2.cell? ⟨w.heap.size + 1 + 1, 2, none⟩ = some (.int .i64 0) := by rw [cell_block st2.kr]; rfl
        have fz2 : w2.frozen? ⟨w.heap.size + 1 + 1, 2, none⟩ = false := frozen_block st2.kr
        have rz3 : w2.cell? ⟨w.heap.size + 1 + 1, 3, none⟩ = some (.int .i64 0) := by rw [cell_block st2.kr]; rfl
        have fz3 : w2.frozen? ⟨w.heap.size + 1 + 1, 3, none⟩ = false := frozen_block st2.kr
        have hq2 := block_lt k2
        clear st2 k2 cu cd
        have cd := ST2.out.toOpSw.cd
        have cu := ST2.out.cu
        go_wp2_with fail
        refine op_fin (b := w.heap.size + 1 + 1) ?_ rfl rfl ⟨⟨7, r2, 0, 0⟩, rfl, ?_, ?_⟩
        · try (with_reducible refine alloc_block ?_)
          refine set4_block (z0 := .int .i64 0) (z1 := .int .i64 0) (z2 := .int .i64 0) (z3 := .int .i64 0) ?_ _ _ _ _
          repeat rw [setCell_other _ (by omega)]
          exact ST2.out.kr
        · unfold OpOk'
          dsimp only
          refine ⟨⟨by omega, by omega⟩, ⟨by omega, by omega⟩, ⟨by omega, by omega⟩, ⟨by omega, by omega⟩, ?_, ?_, ?_⟩ <;> simp [opn]
        · refine ⟨ST2.out.deck.below (C := w.heap.size) ?_ hgl, grown_below ST2.out.gr ?_⟩
          all_goals repeat (first | with_reducible exact Below.refl _ _ | ((with_reducible refine bset ?_ ?_ _); any_goals omega) | ((with_reducible refine Below.alloc ?_ ?_ _); any_goals (simp; omega)))
      · have rz0 : w1.cell? ⟨w.heap.size + 1 + 1, 0, none⟩ = some (.int .i64 0) := by rw [cell_block ST.out.kr]; rfl
        have fz0 : w1.frozen? ⟨w.heap.size + 1 + 1, 0, none⟩ = false := frozen_block ST.out.kr
        have rz1 : w1.cell? ⟨w.heap.size + 1 + 1, 1, none⟩ = some (.int .i64 0) := by rw [cell_block ST.out.kr]; rfl
        have fz1 : w1.frozen? ⟨w.heap.size + 1 + 1, 1, none⟩ = false := frozen_block ST.out.kr
        have rz2 : w1.cell? ⟨w.heap.size + 1 + 1, 2, none⟩ = some (.int .i64 0) := by rw [cell_block ST.out.kr]; rfl
        have fz2 : w1.frozen? ⟨w.heap.size + 1 + 1, 2, none⟩ = false := frozen_block ST.out.kr
        have rz3 : w1.cell? ⟨w.heap.size + 1 + 1, 3, none⟩ = some (.int .i64 0) := by rw [cell_block ST.out.kr]; rfl
        have fz3 : w1.frozen? ⟨w.heap.size + 1 + 1, 3, none⟩ = false := frozen_block ST.out.kr
        go_wp2_with fail
        refine op_fin (b := w.heap.size + 1 + 1) ?_ rfl rfl ⟨⟨8, 0, 0, 0⟩, rfl, ?_, ?_⟩
        · try (with_reducible refine alloc_block ?_)
          refine set4_block (z0 := .int .i64 0) (z1 := .int .i64 0) (z2 := .int .i64 0) (z3 := .int .i64 0) ?_ _ _ _ _
          repeat rw [setCell_other _ (by omega)]
          exact ST.out.kr
        · unfold OpOk'
          dsimp only
          refine ⟨⟨by omega, by omega⟩, ⟨by omega, by omega⟩, ⟨by omega, by omega⟩, ⟨by omega, by omega⟩, ?_, ?_, ?_⟩ <;> simp [opn]
        · refine ⟨ST.out.deck.below (C := w.heap.size) ?_ hgl, grown_below ST.out.gr ?_⟩
          all_goals repeat (first | with_reducible exact Below.refl _ _ | ((with_reducible refine bset ?_ ?_ _); any_goals omega) | ((with_reducible refine Below.alloc ?_ ?_ _); any_goals (simp; omega)))
      · go_wp2_with fail
        refine (OpSt.h_call (ST.out.alloc _)).mono ?_
        rintro e w2 ⟨r2, hra2, hrb2, rfl, st2, hg2⟩
        have k2 := grown_block hg2 (heap_alloc_new w1 _) (fun e => by injection e; omega)
        have ST2 := Lib.hid st2
        have K2 := Lib.hid k2
        clear hg2
        have oz0 : w2.cell? ⟨w1.heap.size, 0, none⟩ = some (.int .i64 9) := by rw [cell_block k2]; rfl
        have of0 : w2.frozen? ⟨w1.heap.size, 0, none⟩ = false := frozen_block k2
        have oz1 : w2.cell? ⟨w1.heap.size, 1, none⟩ = some (.int .i64 0) := by rw [cell_block k2]; rfl
        have of1 : w2.frozen? ⟨w1.heap.size, 1, none⟩ = false := frozen_block k2
        have oz2 : w2.cell? ⟨w1.heap.size, 2, none⟩ = some (.int .i64 0) := by rw [cell_block k2]; rfl
        have of2 : w2.frozen? ⟨w1.heap.size, 2, none⟩ = false := frozen_block k2
        have oz3 : w2.cell? ⟨w1.heap.size, 3, none⟩ = some (.int .i64 0) := by rw [cell_block k2]; rfl
        have of3 : w2.frozen? ⟨w1.heap.size, 3, none⟩ = false := frozen_block k2
        have rz0 : w2.cell? ⟨w.heap.size + 1 + 1, 0, none⟩ = some (.int .i64 0) := by rw [cell_block st2.kr]; rfl
        have fz0 : w2.frozen? ⟨w.heap.size + 1 + 1, 0, none⟩ = false := frozen_block st2.kr
        have rz1 : w2.cell? ⟨w.heap.size + 1 + 1, 1, none⟩ = some (.int .i64 0) := by rw [cell_block st2.kr]; rfl
        have fz1 : w2.frozen? ⟨w.heap.size + 1 + 1, 1, none⟩ = false := frozen_block st2.kr
        have rz2 : w2.cell? ⟨w.heap.size + 1 + 1, 2, none⟩ = some (.int .i64 0) := by rw [cell_block st2.kr]; rfl
        have fz2 : w2.frozen? ⟨w.heap.size + 1 + 1, 2, none⟩ = false := frozen_block st2.kr
        have rz3 : w2.cell? ⟨w.heap.size + 1 + 1, 3, none⟩ = some (.int .i64 0) := by rw [cell_block st2.kr]; rfl
        have fz3 : w2.frozen? ⟨w.heap.size + 1 + 1, 3, none⟩ = false := frozen_block st2.kr
        have hq2 := block_lt k2
        clear st2 k2 cu cd
        have cd := ST2.out.toOpSw.cd
        have cu := ST2.out.cu
        go_wp2_with fail
        refine op_fin (b := w.heap.size + 1 + 1) ?_ rfl rfl ⟨⟨9, r2, 0, 0⟩, rfl, ?_, ?_⟩
        · try (with_reducible refine alloc_block ?_)
          refine set4_block (z0 := .int .i64 0) (z1 := .int .i64 0) (z2 := .int .i64 0) (z3 := .int .i64 0) ?_ _ _ _ _
          repeat rw [setCell_other _ (by omega)]
          exact ST2.out.kr
        · unfold OpOk'
          dsimp only
          refine ⟨⟨by omega, by omega⟩, ⟨by omega, by omega⟩, ⟨by omega, by omega⟩, ⟨by omega, by omega⟩, ?_, ?_, ?_⟩ <;> simp [opn]
        · refine ⟨ST2.out.deck.below (C := w.heap.size) ?_ hgl, grown_below ST2.out.gr ?_⟩
          all_goals repeat (first | with_reducible exact Below.refl _ _ | ((with_reducible refine bset ?_ ?_ _); any_goals omega) | ((with_reducible refine Below.alloc ?_ ?_ _); any_goals (simp; omega)))
      · have rz0 : w1.cell? ⟨w.heap.size + 1 + 1, 0, none⟩ = some (.int .i64 0) := by rw [cell_block ST.out.kr]; rfl
        have fz0 : w1.frozen? ⟨w.heap.size + 1 + 1, 0, none⟩ = false := frozen_block ST.out.kr
        have rz1 : w1.cell? ⟨w.heap.size + 1 + 1, 1, none⟩ = some (.int .i64 0) := by rw [cell_block ST.out.kr]; rfl
        have fz1 : w1.frozen? ⟨w.heap.size + 1 + 1, 1, none⟩ = false := frozen_block ST.out.kr
        have rz2 : w1.cell? ⟨w.heap.size + 1 + 1, 2, none⟩ = some (.int .i64 0) := by rw [cell_block ST.out.kr]; rfl
        have fz2 : w1.frozen? ⟨w.heap.size + 1 + 1, 2, none⟩ = false := frozen_block ST.out.kr
        have rz3 : w1.cell? ⟨w.heap.size + 1 + 1, 3, none⟩ = some (.int .i64 0) := by rw [cell_block ST.out.kr]; rfl
        have fz3 : w1.frozen? ⟨w.heap.size + 1 + 1, 3, none⟩ = false := frozen_block ST.out.kr
        go_wp2_with fail
        refine op_fin (b := w.heap.size + 1 + 1) ?_ rfl rfl ⟨⟨10, 0, 0, 0⟩, rfl, ?_, ?_⟩
        · try (with_reducible refine alloc_block ?_)
          refine set4_block (z0 := .int .i64 0) (z1 := .int .i64 0) (z2 := .int .i64 0) (z3 := .int .i64 0) ?_ _ _ _ _
          repeat rw [setCell_other _ (by omega)]
          exact ST.out.kr
        · unfold OpOk'
          dsimp only
          refine ⟨⟨by omega, by omega⟩, ⟨by omega, by omega⟩, ⟨by omega, by omega⟩, ⟨by omega, by omega⟩, ?_, ?_, ?_⟩ <;> simp [opn]
        · refine ⟨ST.out.deck.below (C := w.heap.size) ?_ hgl, grown_below ST.out.gr ?_⟩
          all_goals repeat (first | with_reducible exact Below.refl _ _ | ((with_reducible refine bset ?_ ?_ _); any_goals omega) | ((with_reducible refine Below.alloc ?_ ?_ _); any_goals (simp; omega)))
end Go.Proofs.Ytadoehlhfccacaa
