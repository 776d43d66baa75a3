/- remset.find: the search among sets. Condition: sets that read as a list, not too many. -/
import Derived.Test.YtchdmemgkegefaaInsO
import Derived.Test.YtchdmemgkegefaaLay
import Derived.Test.YtchdmemgkegefaaVal
namespace Go.Proofs.Ytchdmemgkegefaa
open Go.RowKit
set_option linter.unusedVariables false

/-- what remset.compare says of two pairs -/
def cmpV (af ta bf bt : Int) : Int := if af = bf then IntKind.i64.wrap (ta - bt) else IntKind.i64.wrap (af - bf)
theorem cmpv_any (af ta bf bt : Int) (ra rb : Option Addr) (la lb ca cb : Nat) (w : World) :
    Calls Try.prog 55 #[.agg #[.int .i64 af, .int .i64 ta, .slice ra la ca], .agg #[.int .i64 bf, .int .i64 bt, .slice rb lb cb]] w fun e w' => e = .returned (.int .i64 (cmpV af ta bf bt)) ∧ Below w.heap.size w w' := by
  have hb : ∀ o1 o2, Below w.heap.size w ((w.alloc o1).alloc o2) := fun o1 o2 => ((Below.refl _ _).alloc (Nat.le_refl _) _).alloc (by simp) _
  have HB := Lib.hid hb
  clear hb
  unfold cmpV
  by_cases he : af = bf
  · have k1 : (af != bf) = false := by simp [he]
    rw [if_pos he]
    generalize hx : IntKind.i64.wrap (ta - bt) = x
    go_enter Try.func55, Try.ntmps55
    go_wp2
    go_ret
    exact ⟨rfl, HB.out _ _⟩
  · have k1 : (af != bf) = true := by simpa using he
    rw [if_neg he]
    generalize hx : IntKind.i64.wrap (af - bf) = x
    go_enter Try.func55, Try.ntmps55
    go_wp2
    go_ret
    exact ⟨rfl, HB.out _ _⟩

theorem fnd_up {xs : List St} {q h : Nat} {fr tq c : Int} {hq : q < xs.length} {hh : h < xs.length} (e : q = h) (hc : cmpV xs[h].fr xs[h].to fr tq = c) (k : c < 0) : cmpV xs[q].fr xs[q].to fr tq < 0 := by
  subst e
  rw [hc]
  exact k
/-- what the search answers -/
structure Srch (xs : List St) (fr tq : Int) (k : Nat) (ok : Bool) : Prop where
  le : k ≤ xs.length
  lo : ∀ j (h : j < xs.length), j + 1 = k → cmpV xs[j].fr xs[j].to fr tq < 0
  hi : ∀ h : k < xs.length, ¬ cmpV xs[k].fr xs[k].to fr tq < 0
  ok : ok = true ↔ ∃ h : k < xs.length, cmpV xs[k].fr xs[k].to fr tq = 0

def SrP (xs : List St) (fr tq : Int) (e : Ending) : Prop := ∃ k ok, e = .returned (.tuple #[.int .i64 (k : Nat), .bool ok]) ∧ Srch xs fr tq k ok

set_option maxRecDepth 100000 in
set_option maxHeartbeats 8000000 in
theorem bsf_any (v : Value) (xs : List St) (w : World) (hv : Rd setE w v xs) (hb : xs.length ≤ 100000) (fr tq : Int) :
    Calls Try.prog 70 #[v, .agg #[.int .i64 fr, .int .i64 tq, .slice none 0 0], .func (.func 55) #[] #[]] w fun e w' => SrP xs fr tq e ∧ Below w.heap.size w w' := by
  obtain ⟨a, cap, rfl, hl, hm, _⟩ := id hv
  have HV := Lib.hid hv
  have HXL := Lib.hid hb
  clear hv
  unfold maxLen at hm
  go_enter Try.func70, Try.ntmps70
  go_wp2_with fail
  go_loopw [9, 10] (fun i j wr => ∃ (m n : Nat), m ≤ n ∧ n ≤ xs.length ∧ i = .int .i64 m ∧ j = .int .i64 n ∧ (∀ q (h : q < xs.length), q + 1 = m → cmpV xs[q].fr xs[q].to fr tq < 0) ∧ (∀ h : n < xs.length, ¬ cmpV xs[n].fr xs[n].to fr tq < 0) ∧ Below (w.heap.size + 1) (w.alloc (.cells #[.int .i64 fr, .int .i64 tq, .slice none 0 0] 77)) wr) (fun i j _ => (intOf j).toNat - (intOf i).toNat)
  case atStart => exact ⟨0, xs.length, by omega, by omega, rfl, rfl, fun q h e => by omega, fun h => absurd h (by omega), Below.refl _ _⟩
  case round =>
    obtain ⟨m, n, hmn, hn, rfl, rfl, hlo, hhi, hbel⟩ := hrel
    have HLO := Lib.hid hlo
    have HHI := Lib.hid hhi
    clear hlo hhi
    have hbw : Below w.heap.size w wr := ((Below.refl w.heap.size w).alloc (Nat.le_refl _) _).trans (hbel.mono (by simp))
    have hbx : wr.heap[w.heap.size]? = some (.cells #[.int .i64 fr, .int .i64 tq, .slice none 0 0] 77 (0, 0)) := below_block hbel (by omega) (heap_alloc_new _ _)
    by_cases hlt : m < n
    · obtain ⟨b, off, rfl⟩ := rd_addr HV.out (by omega)
      have hq0 : (m + n) / 2 < xs.length := by omega
      obtain ⟨hq, ra, rc, x0, x1, x2, hrs⟩ := set_cells HV.out hq0
      have HY0 : Hid (wr.cell? ⟨b, off + (m + n) / 2 * 3, none⟩ = some (.int .i64 xs[(m + n) / 2].fr)) := Lib.hid ((hbw.cell (p := ⟨b, off + (m + n) / 2 * 3, none⟩) hq).trans x0)
      have HY1 : Hid (wr.cell? ⟨b, off + (m + n) / 2 * 3 + 1, none⟩ = some (.int .i64 xs[(m + n) / 2].to)) := Lib.hid ((hbw.cell (p := ⟨b, off + (m + n) / 2 * 3 + 1, none⟩) hq).trans x1)
      have HY2 : Hid (wr.cell? ⟨b, off + (m + n) / 2 * 3 + 2, none⟩ = some (.slice ra xs[(m + n) / 2].slots.length rc)) := Lib.hid ((hbw.cell (p := ⟨b, off + (m + n) / 2 * 3 + 2, none⟩) hq).trans x2)
      have hqw : b < wr.heap.size := Nat.lt_of_lt_of_le hq hbw.size
      have HBX := Lib.hid hbx
      have HBW := Lib.hid hbw
      have HBE := Lib.hid hbel
      clear x0 x1 x2 hrs hbx hbw hbel
      go_upto_region 5 with (fail)
      have hh : ((m : Int) + (n : Int)) / 2 = (((m + n) / 2 : Nat) : Int) := by omega
      rw [hh]
      have h1 : m ≤ (m + n) / 2 := by omega
      have h2 : (m + n) / 2 < n := by omega
      clear hh
      generalize (m + n) / 2 = h at *
      have HC := Lib.hid (rfl : cmpV xs[h].fr xs[h].to fr tq = cmpV xs[h].fr xs[h].to fr tq)
      revert HC
      generalize hcv : cmpV xs[h].fr xs[h].to fr tq = c
      intro _
      have HCV := Lib.hid hcv
      clear hcv
      have hps : w.heap.size + 1 ≤ wr.heap.size := by have := HBE.out.size; simpa using this
      apply wp_region_vals (by kernel_rfl) Grw (Grw.drew _) [24, 25, 26, 27, 28, 29, 30, 31] [Is _, Is _, Is _, Is _, Is _, Is _, Is (.int .i64 c), Is _] (stb_cons (Stb.is) (stb_cons (Stb.is) (stb_cons (Stb.is) (stb_cons (Stb.is) (stb_cons (Stb.is) (stb_cons (Stb.is) (stb_cons (Stb.is) (stb_cons (Stb.is) stb_nil)))))))) (by kernel_rfl) (by kernel_rfl) (by kernel_rfl)
      · refine VSteps.cons (VStep.mk Grw.trans rfl rfl fun t V hout hE hdep K hK => ?_) ?_
        · skip
          have t2 : t[2]? = some _ := hout 2 (by kernel_rfl)
          clear hout hdep
          go_simp
          exact hK.out _ _ (Grw.refl _) rfl
        refine VSteps.cons (VStep.mk Grw.trans rfl rfl fun t V hout hE hdep K hK => ?_) ?_
        · skip
          have t0 : t[0]? = some _ := hout 0 (by kernel_rfl)
          clear hout hdep
          go_simp
          exact hK.out _ _ (Grw.refl _) rfl
        refine VSteps.cons (VStep.mk Grw.trans rfl rfl fun t V hout hE hdep K hK => ?_) ?_
        · skip
          have t11 : t[11]? = some _ := hout 11 (by kernel_rfl)
          clear hout hdep
          go_simp
          exact hK.out _ _ (Grw.refl _) rfl
        refine VSteps.cons (VStep.mk Grw.trans rfl rfl fun t V hout hE hdep K hK => ?_) ?_
        · skip
          have t25 := by_is (W := V) (hdep 1 25 (by kernel_rfl))
          have t26 := by_is (W := V) (hdep 2 26 (by kernel_rfl))
          clear hout hdep
          go_simp
          exact hK.out _ _ (Grw.refl _) rfl
        refine VSteps.cons (VStep.mk Grw.trans rfl rfl fun t V hout hE hdep K hK => ?_) ?_
        · skip
          have t27 := by_is (W := V) (hdep 3 27 (by kernel_rfl))
          clear hout hdep
          have y0 := (hE.cell (p := ⟨b, off + h * 3, none⟩) hqw).trans HY0.out
          have y1 := (hE.cell (p := ⟨b, off + h * 3 + 1, none⟩) hqw).trans HY1.out
          have y2 := (hE.cell (p := ⟨b, off + h * 3 + 2, none⟩) hqw).trans HY2.out
          go_simp
          exact hK.out _ _ (Grw.refl _) rfl
        refine VSteps.cons (VStep.mk Grw.trans rfl rfl fun t V hout hE hdep K hK => ?_) ?_
        · skip
          have t4 : t[4]? = some _ := hout 4 (by kernel_rfl)
          clear hout hdep
          have k0 : V.cell? ⟨w.heap.size, 0, none⟩ = some (.int .i64 fr) := by rw [cell_block (below_block hE (block_lt HBX.out) HBX.out)]; rfl
          have k1 : V.cell? ⟨w.heap.size, 1, none⟩ = some (.int .i64 tq) := by rw [cell_block (below_block hE (block_lt HBX.out) HBX.out)]; rfl
          have k2 : V.cell? ⟨w.heap.size, 2, none⟩ = some (.slice none 0 0) := by rw [cell_block (below_block hE (block_lt HBX.out) HBX.out)]; rfl
          go_simp
          exact hK.out _ _ (Grw.refl _) rfl
        refine VSteps.cons (VStep.mk Grw.trans rfl rfl fun t V hout hE hdep K hK => ?_) ?_
        · skip
          have t24 := by_is (W := V) (hdep 0 24 (by kernel_rfl))
          have t28 := by_is (W := V) (hdep 4 28 (by kernel_rfl))
          have t29 := by_is (W := V) (hdep 5 29 (by kernel_rfl))
          clear hout hdep
          go_simp
          refine (cmpv_any _ _ _ _ _ _ _ _ _ _ _).mono ?_
          rintro e W5 ⟨rfl, hb5⟩
          rw [HCV.out]
          go_simp
          exact hK.out _ _ hb5 rfl
        refine VSteps.cons (VStep.mk Grw.trans rfl rfl fun t V hout hE hdep K hK => ?_) ?_
        · skip
          have t30 := by_is (W := V) (hdep 6 30 (by kernel_rfl))
          clear hout hdep
          go_simp
          exact hK.out _ _ (Grw.refl _) rfl
        exact VSteps.nil (by decide)
      · intro f W hE hF
        have f24 : f 24 = _ := hF 0 24 (by kernel_rfl)
        have f25 : f 25 = _ := hF 1 25 (by kernel_rfl)
        have f26 : f 26 = _ := hF 2 26 (by kernel_rfl)
        have f27 : f 27 = _ := hF 3 27 (by kernel_rfl)
        have f28 : f 28 = _ := hF 4 28 (by kernel_rfl)
        have f29 : f 29 = _ := hF 5 29 (by kernel_rfl)
        have f30 : f 30 = _ := hF 6 30 (by kernel_rfl)
        have f31 : f 31 = _ := hF 7 31 (by kernel_rfl)
        simp only [setAllV, List.map_cons, List.map_nil, List.set_cons_succ, List.set_cons_zero, f24, f25, f26, f27, f28, f29, f30, f31]
        clear hF f24 f25 f26 f27 f28 f29 f30 f31
        have HWE := Lib.hid (HBE.out.trans (hE.mono (by omega)))
        clear hE
        by_cases hc : c < 0
        · go_wp2
          go_roundw
          case rel => exact ⟨h + 1, n, by omega, hn, by go_num, rfl, fun q hq e => fnd_up (by omega) HCV.out hc, HHI.out, HWE.out⟩
          case measure => simp [intOf]; omega
        · go_wp2
          go_roundw
          case rel => exact ⟨m, h, by omega, by omega, rfl, rfl, HLO.out, fun hq => by rw [HCV.out]; omega, HWE.out⟩
          case measure => simp [intOf]; omega
    · obtain rfl : n = m := by omega
      by_cases hl2 : n < xs.length
      · obtain ⟨b, off, rfl⟩ := rd_addr HV.out (by omega)
        obtain ⟨hq, ra, rc, x0, x1, x2, hrs⟩ := set_cells HV.out hl2
        have HY0 : Hid (wr.cell? ⟨b, off + n * 3, none⟩ = some (.int .i64 xs[n].fr)) := Lib.hid ((hbw.cell (p := ⟨b, off + n * 3, none⟩) hq).trans x0)
        have HY1 : Hid (wr.cell? ⟨b, off + n * 3 + 1, none⟩ = some (.int .i64 xs[n].to)) := Lib.hid ((hbw.cell (p := ⟨b, off + n * 3 + 1, none⟩) hq).trans x1)
        have HY2 : Hid (wr.cell? ⟨b, off + n * 3 + 2, none⟩ = some (.slice ra xs[n].slots.length rc)) := Lib.hid ((hbw.cell (p := ⟨b, off + n * 3 + 2, none⟩) hq).trans x2)
        have hqw : b < wr.heap.size := Nat.lt_of_lt_of_le hq hbw.size
        have HBX := Lib.hid hbx
        have HBW := Lib.hid hbw
        have hps : w.heap.size + 1 ≤ wr.heap.size := by have := hbel.size; simpa using this
        clear x0 x1 x2 hrs hbx hbw hbel
        go_upto_region 8 with (fail)
        have HC := Lib.hid (rfl : cmpV xs[n].fr xs[n].to fr tq = cmpV xs[n].fr xs[n].to fr tq)
        revert HC
        generalize hcv : cmpV xs[n].fr xs[n].to fr tq = c
        intro _
        have HCV := Lib.hid hcv
        clear hcv
        apply wp_region_vals (by kernel_rfl) Grw (Grw.drew _) [35, 36, 37, 38, 39, 40, 41, 42, 43, 44, 45, 46, 47, 48, 6, 7] [Is _, Is _, Is _, Is (.bool true), Is _, Is _, Is _, Is _, Is _, Is _, Is _, Is (.int .i64 c), Is _, Is _, Is _, Is _] (stb_cons (Stb.is) (stb_cons (Stb.is) (stb_cons (Stb.is) (stb_cons (Stb.is) (stb_cons (Stb.is) (stb_cons (Stb.is) (stb_cons (Stb.is) (stb_cons (Stb.is) (stb_cons (Stb.is) (stb_cons (Stb.is) (stb_cons (Stb.is) (stb_cons (Stb.is) (stb_cons (Stb.is) (stb_cons (Stb.is) (stb_cons (Stb.is) (stb_cons (Stb.is) stb_nil)))))))))))))))) (by kernel_rfl) (by kernel_rfl) (by kernel_rfl)
        · refine VSteps.cons (VStep.mk Grw.trans rfl rfl fun t V hout hE hdep K hK => ?_) ?_
          · skip
            have t9 : t[9]? = some _ := hout 9 (by kernel_rfl)
            clear hout hdep
            go_simp
            exact hK.out _ _ (Grw.refl _) rfl
          refine VSteps.cons (VStep.mk Grw.trans rfl rfl fun t V hout hE hdep K hK => ?_) ?_
          · skip
            have t9 : t[9]? = some _ := hout 9 (by kernel_rfl)
            clear hout hdep
            go_simp
            exact hK.out _ _ (Grw.refl _) rfl
          refine VSteps.cons (VStep.mk Grw.trans rfl rfl fun t V hout hE hdep K hK => ?_) ?_
          · skip
            have t8 : t[8]? = some _ := hout 8 (by kernel_rfl)
            clear hout hdep
            go_simp
            exact hK.out _ _ (Grw.refl _) rfl
          refine VSteps.cons (VStep.mk Grw.trans rfl rfl fun t V hout hE hdep K hK => ?_) ?_
          · skip
            have t36 := by_is (W := V) (hdep 1 36 (by kernel_rfl))
            have t37 := by_is (W := V) (hdep 2 37 (by kernel_rfl))
            clear hout hdep
            go_simp
            exact hK.out _ _ (Grw.refl _) rfl
          refine VSteps.cons (VStep.mk Grw.trans rfl rfl fun t V hout hE hdep K hK => ?_) ?_
          · skip
            have t38 := by_is (W := V) (hdep 3 38 (by kernel_rfl))
            clear hout hdep
            go_simp
            exact hK.out _ _ (Grw.refl _) rfl
          refine VSteps.cons (VStep.mkG Grw.trans (dg := 39) rfl rfl (by kernel_rfl) (fun _ _ h => h) fun t V hout hE hdep K hK => ?_) ?_
          · skip
            have t2 : t[2]? = some _ := hout 2 (by kernel_rfl)
            clear hout hdep
            go_simp
            exact hK.out _ _ (Grw.refl _) rfl
          refine VSteps.cons (VStep.mkG Grw.trans (dg := 39) rfl rfl (by kernel_rfl) (fun _ _ h => h) fun t V hout hE hdep K hK => ?_) ?_
          · skip
            have t0 : t[0]? = some _ := hout 0 (by kernel_rfl)
            clear hout hdep
            go_simp
            exact hK.out _ _ (Grw.refl _) rfl
          refine VSteps.cons (VStep.mkG Grw.trans (dg := 39) rfl rfl (by kernel_rfl) (fun _ _ h => h) fun t V hout hE hdep K hK => ?_) ?_
          · skip
            have t9 : t[9]? = some _ := hout 9 (by kernel_rfl)
            clear hout hdep
            go_simp
            exact hK.out _ _ (Grw.refl _) rfl
          refine VSteps.cons (VStep.mkG Grw.trans (dg := 39) rfl rfl (by kernel_rfl) (fun _ _ h => h) fun t V hout hE hdep K hK => ?_) ?_
          · skip
            have t41 := by_is (W := V) (hdep 6 41 (by kernel_rfl))
            have t42 := by_is (W := V) (hdep 7 42 (by kernel_rfl))
            clear hout hdep
            go_simp
            exact hK.out _ _ (Grw.refl _) rfl
          refine VSteps.cons (VStep.mkG Grw.trans (dg := 39) rfl rfl (by kernel_rfl) (fun _ _ h => h) fun t V hout hE hdep K hK => ?_) ?_
          · skip
            have t43 := by_is (W := V) (hdep 8 43 (by kernel_rfl))
            clear hout hdep
            have y0 := (hE.cell (p := ⟨b, off + n * 3, none⟩) hqw).trans HY0.out
            have y1 := (hE.cell (p := ⟨b, off + n * 3 + 1, none⟩) hqw).trans HY1.out
            have y2 := (hE.cell (p := ⟨b, off + n * 3 + 2, none⟩) hqw).trans HY2.out
            go_simp
            exact hK.out _ _ (Grw.refl _) rfl
          refine VSteps.cons (VStep.mkG Grw.trans (dg := 39) rfl rfl (by kernel_rfl) (fun _ _ h => h) fun t V hout hE hdep K hK => ?_) ?_
          · skip
            have t4 : t[4]? = some _ := hout 4 (by kernel_rfl)
            clear hout hdep
            have k0 : V.cell? ⟨w.heap.size, 0, none⟩ = some (.int .i64 fr) := by rw [cell_block (below_block hE (block_lt HBX.out) HBX.out)]; rfl
            have k1 : V.cell? ⟨w.heap.size, 1, none⟩ = some (.int .i64 tq) := by rw [cell_block (below_block hE (block_lt HBX.out) HBX.out)]; rfl
            have k2 : V.cell? ⟨w.heap.size, 2, none⟩ = some (.slice none 0 0) := by rw [cell_block (below_block hE (block_lt HBX.out) HBX.out)]; rfl
            go_simp
            exact hK.out _ _ (Grw.refl _) rfl
          refine VSteps.cons (VStep.mkG Grw.trans (dg := 39) rfl rfl (by kernel_rfl) (fun _ _ h => h) fun t V hout hE hdep K hK => ?_) ?_
          · skip
            have t40 := by_is (W := V) (hdep 5 40 (by kernel_rfl))
            have t44 := by_is (W := V) (hdep 9 44 (by kernel_rfl))
            have t45 := by_is (W := V) (hdep 10 45 (by kernel_rfl))
            clear hout hdep
            go_simp
            refine (cmpv_any _ _ _ _ _ _ _ _ _ _ _).mono ?_
            rintro e W5 ⟨rfl, hb5⟩
            rw [HCV.out]
            go_simp
            exact hK.out _ _ hb5 rfl
          refine VSteps.cons (VStep.mkG Grw.trans (dg := 39) rfl rfl (by kernel_rfl) (fun _ _ h => h) fun t V hout hE hdep K hK => ?_) ?_
          · skip
            have t46 := by_is (W := V) (hdep 11 46 (by kernel_rfl))
            clear hout hdep
            go_simp
            exact hK.out _ _ (Grw.refl _) rfl
          refine VSteps.cons (VStep.mk Grw.trans rfl rfl fun t V hout hE hdep K hK => ?_) ?_
          · skip
            have t39 := by_is (W := V) (hdep 4 39 (by kernel_rfl))
            have t47 := by_is (W := V) (hdep 12 47 (by kernel_rfl))
            clear hout hdep
            go_simp
            exact hK.out _ _ (Grw.refl _) rfl
          refine VSteps.cons (VStep.mk Grw.trans rfl rfl fun t V hout hE hdep K hK => ?_) ?_
          · skip
            have t35 := by_is (W := V) (hdep 0 35 (by kernel_rfl))
            clear hout hdep
            go_simp
            exact hK.out _ _ (Grw.refl _) rfl
          refine VSteps.cons (VStep.mk Grw.trans rfl rfl fun t V hout hE hdep K hK => ?_) ?_
          · skip
            have t48 := by_is (W := V) (hdep 13 48 (by kernel_rfl))
            clear hout hdep
            go_simp
            exact hK.out _ _ (Grw.refl _) rfl
          exact VSteps.nil (by decide)
        · intro f W hE hF
          have f35 : f 35 = _ := hF 0 35 (by kernel_rfl)
          have f36 : f 36 = _ := hF 1 36 (by kernel_rfl)
          have f37 : f 37 = _ := hF 2 37 (by kernel_rfl)
          have f38 : f 38 = _ := hF 3 38 (by kernel_rfl)
          have f39 : f 39 = _ := hF 4 39 (by kernel_rfl)
          have f40 : f 40 = _ := hF 5 40 (by kernel_rfl)
          have f41 : f 41 = _ := hF 6 41 (by kernel_rfl)
          have f42 : f 42 = _ := hF 7 42 (by kernel_rfl)
          have f43 : f 43 = _ := hF 8 43 (by kernel_rfl)
          have f44 : f 44 = _ := hF 9 44 (by kernel_rfl)
          have f45 : f 45 = _ := hF 10 45 (by kernel_rfl)
          have f46 : f 46 = _ := hF 11 46 (by kernel_rfl)
          have f47 : f 47 = _ := hF 12 47 (by kernel_rfl)
          have f48 : f 48 = _ := hF 13 48 (by kernel_rfl)
          have f6 : f 6 = _ := hF 14 6 (by kernel_rfl)
          have f7 : f 7 = _ := hF 15 7 (by kernel_rfl)
          simp only [setAllV, List.map_cons, List.map_nil, List.set_cons_succ, List.set_cons_zero, f35, f36, f37, f38, f39, f40, f41, f42, f43, f44, f45, f46, f47, f48, f6, f7]
          clear hF f35 f36 f37 f38 f39 f40 f41 f42 f43 f44 f45 f46 f47 f48 f6 f7
          have HWE := Lib.hid (HBW.out.trans (hE.mono (by omega)))
          clear hE
          go_wp2
          go_ret2
          refine ⟨⟨n, _, rfl, hn, HLO.out, fun h => by have := HHI.out h; omega, ?_⟩, HWE.out⟩
          rw [show (∃ h : n < xs.length, cmpV xs[n].fr xs[n].to fr tq = 0) ↔ c = 0 from ⟨fun ⟨h, e⟩ => HCV.out.symm.trans e, fun e => ⟨hl2, HCV.out.trans e⟩⟩]
          simp
      · obtain rfl : n = xs.length := by omega
        have HBW := Lib.hid hbw
        have hps : w.heap.size + 1 ≤ wr.heap.size := by have := hbel.size; simpa using this
        clear hbx hbw hbel
        go_upto_region 8 with (fail)
        apply wp_region_vals (by kernel_rfl) Grw (Grw.drew _) [35, 36, 37, 38, 39, 40, 41, 42, 43, 44, 45, 46, 47, 48, 6, 7] [Is _, Is _, Is _, Is (.bool false), Is _, Is _, Is _, Is _, Is _, Is _, Is _, Is _, Is _, Is _, Is _, Is _] (stb_cons (Stb.is) (stb_cons (Stb.is) (stb_cons (Stb.is) (stb_cons (Stb.is) (stb_cons (Stb.is) (stb_cons (Stb.is) (stb_cons (Stb.is) (stb_cons (Stb.is) (stb_cons (Stb.is) (stb_cons (Stb.is) (stb_cons (Stb.is) (stb_cons (Stb.is) (stb_cons (Stb.is) (stb_cons (Stb.is) (stb_cons (Stb.is) (stb_cons (Stb.is) stb_nil)))))))))))))))) (by kernel_rfl) (by kernel_rfl) (by kernel_rfl)
        · refine VSteps.cons (VStep.mk Grw.trans rfl rfl fun t V hout hE hdep K hK => ?_) ?_
          · skip
            have t9 : t[9]? = some _ := hout 9 (by kernel_rfl)
            clear hout hdep
            go_simp
            exact hK.out _ _ (Grw.refl _) rfl
          refine VSteps.cons (VStep.mk Grw.trans rfl rfl fun t V hout hE hdep K hK => ?_) ?_
          · skip
            have t9 : t[9]? = some _ := hout 9 (by kernel_rfl)
            clear hout hdep
            go_simp
            exact hK.out _ _ (Grw.refl _) rfl
          refine VSteps.cons (VStep.mk Grw.trans rfl rfl fun t V hout hE hdep K hK => ?_) ?_
          · skip
            have t8 : t[8]? = some _ := hout 8 (by kernel_rfl)
            clear hout hdep
            go_simp
            exact hK.out _ _ (Grw.refl _) rfl
          refine VSteps.cons (VStep.mk Grw.trans rfl rfl fun t V hout hE hdep K hK => ?_) ?_
          · skip
            have t36 := by_is (W := V) (hdep 1 36 (by kernel_rfl))
            have t37 := by_is (W := V) (hdep 2 37 (by kernel_rfl))
            clear hout hdep
            go_simp
            exact hK.out _ _ (Grw.refl _) rfl
          refine VSteps.cons (VStep.mk Grw.trans rfl rfl fun t V hout hE hdep K hK => ?_) ?_
          · skip
            have t38 := by_is (W := V) (hdep 3 38 (by kernel_rfl))
            clear hout hdep
            go_simp
            exact hK.out _ _ (Grw.refl _) rfl
          refine VSteps.cons (VStep.mkN Grw.refl (dg := 39) rfl rfl (by kernel_rfl) (fun _ _ h => h) (fun _ => rfl)) ?_
          refine VSteps.cons (VStep.mkN Grw.refl (dg := 39) rfl rfl (by kernel_rfl) (fun _ _ h => h) (fun _ => rfl)) ?_
          refine VSteps.cons (VStep.mkN Grw.refl (dg := 39) rfl rfl (by kernel_rfl) (fun _ _ h => h) (fun _ => rfl)) ?_
          refine VSteps.cons (VStep.mkN Grw.refl (dg := 39) rfl rfl (by kernel_rfl) (fun _ _ h => h) (fun _ => rfl)) ?_
          refine VSteps.cons (VStep.mkN Grw.refl (dg := 39) rfl rfl (by kernel_rfl) (fun _ _ h => h) (fun _ => rfl)) ?_
          refine VSteps.cons (VStep.mkN Grw.refl (dg := 39) rfl rfl (by kernel_rfl) (fun _ _ h => h) (fun _ => rfl)) ?_
          refine VSteps.cons (VStep.mkN Grw.refl (dg := 39) rfl rfl (by kernel_rfl) (fun _ _ h => h) (fun _ => rfl)) ?_
          refine VSteps.cons (VStep.mkN Grw.refl (dg := 39) rfl rfl (by kernel_rfl) (fun _ _ h => h) (fun _ => rfl)) ?_
          refine VSteps.cons (VStep.mk Grw.trans rfl rfl fun t V hout hE hdep K hK => ?_) ?_
          · skip
            have t39 := by_is (W := V) (hdep 4 39 (by kernel_rfl))
            have t47 := by_is (W := V) (hdep 12 47 (by kernel_rfl))
            clear hout hdep
            go_simp
            exact hK.out _ _ (Grw.refl _) rfl
          refine VSteps.cons (VStep.mk Grw.trans rfl rfl fun t V hout hE hdep K hK => ?_) ?_
          · skip
            have t35 := by_is (W := V) (hdep 0 35 (by kernel_rfl))
            clear hout hdep
            go_simp
            exact hK.out _ _ (Grw.refl _) rfl
          refine VSteps.cons (VStep.mk Grw.trans rfl rfl fun t V hout hE hdep K hK => ?_) ?_
          · skip
            have t48 := by_is (W := V) (hdep 13 48 (by kernel_rfl))
            clear hout hdep
            go_simp
            exact hK.out _ _ (Grw.refl _) rfl
          exact VSteps.nil (by decide)
        · intro f W hE hF
          have f35 : f 35 = _ := hF 0 35 (by kernel_rfl)
          have f36 : f 36 = _ := hF 1 36 (by kernel_rfl)
          have f37 : f 37 = _ := hF 2 37 (by kernel_rfl)
          have f38 : f 38 = _ := hF 3 38 (by kernel_rfl)
          have f39 : f 39 = _ := hF 4 39 (by kernel_rfl)
          have f40 : f 40 = _ := hF 5 40 (by kernel_rfl)
          have f41 : f 41 = _ := hF 6 41 (by kernel_rfl)
          have f42 : f 42 = _ := hF 7 42 (by kernel_rfl)
          have f43 : f 43 = _ := hF 8 43 (by kernel_rfl)
          have f44 : f 44 = _ := hF 9 44 (by kernel_rfl)
          have f45 : f 45 = _ := hF 10 45 (by kernel_rfl)
          have f46 : f 46 = _ := hF 11 46 (by kernel_rfl)
          have f47 : f 47 = _ := hF 12 47 (by kernel_rfl)
          have f48 : f 48 = _ := hF 13 48 (by kernel_rfl)
          have f6 : f 6 = _ := hF 14 6 (by kernel_rfl)
          have f7 : f 7 = _ := hF 15 7 (by kernel_rfl)
          simp only [setAllV, List.map_cons, List.map_nil, List.set_cons_succ, List.set_cons_zero, f35, f36, f37, f38, f39, f40, f41, f42, f43, f44, f45, f46, f47, f48, f6, f7]
          clear hF f35 f36 f37 f38 f39 f40 f41 f42 f43 f44 f45 f46 f47 f48 f6 f7
          have HWE := Lib.hid (HBW.out.trans (hE.mono (by omega)))
          clear hE
          go_wp2
          go_ret2
          exact ⟨⟨xs.length, _, rfl, hn, HLO.out, fun h => by omega, by simp⟩, HWE.out⟩

theorem find_any (v : Value) (xs : List St) (w : World) (hv : Rd setE w v xs) (hb : xs.length ≤ 100000) (fr tq : Int) :
    Calls Try.prog 51 #[v, .int .i64 fr, .int .i64 tq] w fun e w' => SrP xs fr tq e ∧ Below w.heap.size w w' := by
  have HB := Lib.hid (bsf_any v xs w hv hb fr tq)
  obtain ⟨a, cap, rfl, _⟩ := hv
  go_enter Try.func51, Try.ntmps51
  go_wp2_with (first | (go_at_call 70; refine HB.out.mono ?_; rintro e w' ⟨⟨k, ok, rfl, hs⟩, hbe⟩))
  go_ret2
  exact ⟨⟨k, ok, rfl, hs⟩, hbe⟩
end Go.Proofs.Ytchdmemgkegefaa
