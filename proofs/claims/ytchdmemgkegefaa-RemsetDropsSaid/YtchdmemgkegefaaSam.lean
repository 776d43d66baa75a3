/- ref18.Same: two lists of sets are equal. Condition: sets that read as a list. -/
import Derived.Test.YtchdmemgkegefaaFnd
namespace Go.Proofs.Ytchdmemgkegefaa
open Go.RowKit
set_option linter.unusedVariables false

theorem sint_any (u v : Value) (xs ys : List Int) (w : World) (hu : Rd i64E w u xs) (hv : Rd i64E w v ys) : Calls Try.prog 39 #[u, v] w fun e w' => RBs e (xs = ys) ∧ Below w.heap.size w w' := sameInts_any _ _ _ _ _ hu hv
theorem sam_up {xs ys : List St} {k : Nat} {hk : k < xs.length} {hk' : k < ys.length} (h : ∀ j (h : j < xs.length) (h' : j < ys.length), j < k → xs[j] = ys[j]) (e : xs[k] = ys[k]) {j : Nat} (h1 : j < xs.length) (h2 : j < ys.length) (hj : j < k + 1) : xs[j] = ys[j] := by
  rcases Nat.lt_succ_iff_lt_or_eq.1 hj with h3 | h3
  · exact h j h1 h2 h3
  · subst h3
    exact e
theorem st_ext {a b : St} (h1 : a.fr = b.fr) (h2 : a.to = b.to) (h3 : a.slots = b.slots) : a = b := by
  cases a
  cases b
  simp_all

set_option maxRecDepth 100000 in
set_option maxHeartbeats 8000000 in
theorem same_any (u v : Value) (xs ys : List St) (w : World) (hu : Rd setE w u xs) (hv : Rd setE w v ys) :
    Calls Try.prog 26 #[u, v] w fun e w' => RBs e (xs = ys) ∧ Below w.heap.size w w' := by
  obtain ⟨a, cap, rfl, hl, hm, _⟩ := id hu
  obtain ⟨a', cap', rfl, hl', hm', _⟩ := id hv
  have HU := Lib.hid hu
  have HV := Lib.hid hv
  clear hu hv
  unfold maxLen at hm hm'
  by_cases hln : xs.length = ys.length
  case neg =>
    have k0 : ((xs.length : Int) != ys.length) = true := by simpa using (fun h => hln (by omega))
    go_enter Try.func26, Try.ntmps26
    go_wp2
    go_ret
    exact ⟨⟨false, rfl, fun h => (by cases h), fun h => absurd (congrArg List.length h) hln⟩, Below.refl _ _⟩
  have k0 : ((xs.length : Int) != ys.length) = false := by simp [hln]
  go_enter Try.func26, Try.ntmps26
  go_wp2_with fail
  go_loopw [14] (fun i wr => ∃ k : Nat, k ≤ xs.length ∧ i = .int .i64 k ∧ Below w.heap.size w wr ∧ ∀ j (h : j < xs.length) (h' : j < ys.length), j < k → xs[j] = ys[j]) (fun i _ => xs.length - (intOf i).toNat)
  case atStart => exact ⟨0, by omega, rfl, Below.refl _ _, fun j _ _ h => absurd h (Nat.not_lt_zero _)⟩
  case round =>
    obtain ⟨k, hk, rfl, hbel, hok⟩ := hrel
    have HOK := Lib.hid hok
    clear hok
    by_cases hlt : k < xs.length
    · have hlt' : k < ys.length := by omega
      obtain ⟨b, off, rfl⟩ := rd_addr HU.out (by omega)
      obtain ⟨c, coff, rfl⟩ := rd_addr HV.out (by omega)
      obtain ⟨hq, ra, rc, x0, x1, x2, hrs⟩ := set_cells HU.out hlt
      obtain ⟨hqc, sa, sc, u0, u1, u2, hry⟩ := set_cells HV.out hlt'
      have HY : Hid (∀ V, Below w.heap.size w V → V.cell? ⟨c, coff + k * 3, none⟩ = some (.int .i64 ys[k].fr) ∧ V.cell? ⟨c, coff + k * 3 + 1, none⟩ = some (.int .i64 ys[k].to) ∧ V.cell? ⟨c, coff + k * 3 + 2, none⟩ = some (.slice sa ys[k].slots.length sc) ∧ c < V.heap.size) :=
        Lib.hid fun V hV => ⟨(hV.cell (p := ⟨c, coff + k * 3, none⟩) hqc).trans u0, (hV.cell (p := ⟨c, coff + k * 3 + 1, none⟩) hqc).trans u1, (hV.cell (p := ⟨c, coff + k * 3 + 2, none⟩) hqc).trans u2, Nat.lt_of_lt_of_le hqc hV.size⟩
      have y0 : wr.cell? ⟨b, off + k * 3, none⟩ = some (.int .i64 xs[k].fr) := (hbel.cell (p := ⟨b, off + k * 3, none⟩) hq).trans x0
      have y1 : wr.cell? ⟨b, off + k * 3 + 1, none⟩ = some (.int .i64 xs[k].to) := (hbel.cell (p := ⟨b, off + k * 3 + 1, none⟩) hq).trans x1
      have y2 : wr.cell? ⟨b, off + k * 3 + 2, none⟩ = some (.slice ra xs[k].slots.length rc) := (hbel.cell (p := ⟨b, off + k * 3 + 2, none⟩) hq).trans x2
      have hq2 : b < wr.heap.size := Nat.lt_of_lt_of_le hq hbel.size
      have HRS := Lib.hid hrs
      have HRY := Lib.hid hry
      have VB : Hid (VbW wr.heap.size xs[k] ra rc (wr.alloc (.cells #[.int .i64 xs[k].fr, .int .i64 xs[k].to, .slice ra xs[k].slots.length rc] 77))) := Lib.hid ⟨heap_alloc_new _ _⟩
      have HBW := Lib.hid (hbel.alloc hbel.size (.cells #[.int .i64 xs[k].fr, .int .i64 xs[k].to, .slice ra xs[k].slots.length rc] 77))
      have hbs := hbel.size
      clear x0 x1 x2 hrs hbel u0 u1 u2 hry
      go_upto_region 6 with (fail)
      clear y0 y1 y2
      generalize wr.alloc (.cells #[.int .i64 xs[k].fr, .int .i64 xs[k].to, .slice ra xs[k].slots.length rc] 77) = W0 at *
      generalize wr.heap.size = p at *
      by_cases h1 : xs[k].fr = ys[k].fr
      case neg =>
        have k1 : (xs[k].fr != ys[k].fr) = true := by simpa using h1
        have HBAD : Hid (¬ xs = ys) := Lib.hid fun h => h1 (by subst h; rfl)
        clear h1
        apply wp_region_vals (by kernel_rfl) Grw (Grw.drew _) [19, 20, 21, 22, 23, 24, 25, 26, 27, 28, 29, 30, 31, 32, 33, 34, 35, 36, 37, 38, 39, 40, 41, 42, 43, 44, 45, 46, 47] [Is _, Is _, Is _, Is _, Is _, Is _, Is _, Is _, Is _, Is _, Is _, Is _, Is _, Is _, Is _, Is _, Is _, Is _, Is _, Is _, Is _, Is _, Is _, Is _, Is _, Is _, Is _, Is _, Is _] (stb_cons (Stb.is) (stb_cons (Stb.is) (stb_cons (Stb.is) (stb_cons (Stb.is) (stb_cons (Stb.is) (stb_cons (Stb.is) (stb_cons (Stb.is) (stb_cons (Stb.is) (stb_cons (Stb.is) (stb_cons (Stb.is) (stb_cons (Stb.is) (stb_cons (Stb.is) (stb_cons (Stb.is) (stb_cons (Stb.is) (stb_cons (Stb.is) (stb_cons (Stb.is) (stb_cons (Stb.is) (stb_cons (Stb.is) (stb_cons (Stb.is) (stb_cons (Stb.is) (stb_cons (Stb.is) (stb_cons (Stb.is) (stb_cons (Stb.is) (stb_cons (Stb.is) (stb_cons (Stb.is) (stb_cons (Stb.is) (stb_cons (Stb.is) (stb_cons (Stb.is) (stb_cons (Stb.is) stb_nil))))))))))))))))))))))))))))) (by kernel_rfl) (by kernel_rfl) (by kernel_rfl)
        · refine VSteps.cons (VStep.mk Grw.trans rfl rfl fun t V hout hE hdep K hK => ?_) ?_
          · skip
            have t6 : t[6]? = some _ := hout 6 (by kernel_rfl)
            clear hout hdep
            go_simp
            exact hK.out _ _ (Grw.refl _) rfl
          refine VSteps.cons (VStep.mk Grw.trans rfl rfl fun t V hout hE hdep K hK => ?_) ?_
          · skip
            have t19 := by_is (W := V) (hdep 0 19 (by kernel_rfl))
            clear hout hdep
            obtain ⟨k0, k1, k2, kl⟩ := (VB.out.keep hE).cells
            go_simp
            exact hK.out _ _ (Grw.refl _) rfl
          refine VSteps.cons (VStep.mk Grw.trans rfl rfl fun t V hout hE hdep K hK => ?_) ?_
          · skip
            have t1 : t[1]? = some _ := hout 1 (by kernel_rfl)
            clear hout hdep
            go_simp
            exact hK.out _ _ (Grw.refl _) rfl
          refine VSteps.cons (VStep.mk Grw.trans rfl rfl fun t V hout hE hdep K hK => ?_) ?_
          · skip
            have t5 : t[5]? = some _ := hout 5 (by kernel_rfl)
            clear hout hdep
            go_simp
            exact hK.out _ _ (Grw.refl _) rfl
          refine VSteps.cons (VStep.mk Grw.trans rfl rfl fun t V hout hE hdep K hK => ?_) ?_
          · skip
            have t21 := by_is (W := V) (hdep 2 21 (by kernel_rfl))
            have t22 := by_is (W := V) (hdep 3 22 (by kernel_rfl))
            clear hout hdep
            go_simp
            exact hK.out _ _ (Grw.refl _) rfl
          refine VSteps.cons (VStep.mk Grw.trans rfl rfl fun t V hout hE hdep K hK => ?_) ?_
          · skip
            have t23 := by_is (W := V) (hdep 4 23 (by kernel_rfl))
            clear hout hdep
            go_simp
            exact hK.out _ _ (Grw.refl _) rfl
          refine VSteps.cons (VStep.mk Grw.trans rfl rfl fun t V hout hE hdep K hK => ?_) ?_
          · skip
            have t24 := by_is (W := V) (hdep 5 24 (by kernel_rfl))
            clear hout hdep
            obtain ⟨z0, z1, z2, zl⟩ := HY.out V (HBW.out.trans (Below.mono hE (by have := HBW.out.size; omega)))
            go_simp
            exact hK.out _ _ (Grw.refl _) rfl
          refine VSteps.cons (VStep.mk Grw.trans rfl rfl fun t V hout hE hdep K hK => ?_) ?_
          · skip
            have t20 := by_is (W := V) (hdep 1 20 (by kernel_rfl))
            have t25 := by_is (W := V) (hdep 6 25 (by kernel_rfl))
            clear hout hdep
            go_simp
            exact hK.out _ _ (Grw.refl _) rfl
          refine VSteps.cons (VStep.mk Grw.trans rfl rfl fun t V hout hE hdep K hK => ?_) ?_
          · skip
            have t26 := by_is (W := V) (hdep 7 26 (by kernel_rfl))
            clear hout hdep
            go_simp
            exact hK.out _ _ (Grw.refl _) rfl
          refine VSteps.cons (VStep.mkN Grw.refl (dg := 27) rfl rfl (by kernel_rfl) (fun _ _ h => h) (fun _ => rfl)) ?_
          refine VSteps.cons (VStep.mkN Grw.refl (dg := 27) rfl rfl (by kernel_rfl) (fun _ _ h => h) (fun _ => rfl)) ?_
          refine VSteps.cons (VStep.mkN Grw.refl (dg := 27) rfl rfl (by kernel_rfl) (fun _ _ h => h) (fun _ => rfl)) ?_
          refine VSteps.cons (VStep.mkN Grw.refl (dg := 27) rfl rfl (by kernel_rfl) (fun _ _ h => h) (fun _ => rfl)) ?_
          refine VSteps.cons (VStep.mkN Grw.refl (dg := 27) rfl rfl (by kernel_rfl) (fun _ _ h => h) (fun _ => rfl)) ?_
          refine VSteps.cons (VStep.mkN Grw.refl (dg := 27) rfl rfl (by kernel_rfl) (fun _ _ h => h) (fun _ => rfl)) ?_
          refine VSteps.cons (VStep.mkN Grw.refl (dg := 27) rfl rfl (by kernel_rfl) (fun _ _ h => h) (fun _ => rfl)) ?_
          refine VSteps.cons (VStep.mkN Grw.refl (dg := 27) rfl rfl (by kernel_rfl) (fun _ _ h => h) (fun _ => rfl)) ?_
          refine VSteps.cons (VStep.mk Grw.trans rfl rfl fun t V hout hE hdep K hK => ?_) ?_
          · skip
            have t27 := by_is (W := V) (hdep 8 27 (by kernel_rfl))
            have t35 := by_is (W := V) (hdep 16 35 (by kernel_rfl))
            clear hout hdep
            go_simp
            exact hK.out _ _ (Grw.refl _) rfl
          refine VSteps.cons (VStep.mk Grw.trans rfl rfl fun t V hout hE hdep K hK => ?_) ?_
          · skip
            have t36 := by_is (W := V) (hdep 17 36 (by kernel_rfl))
            clear hout hdep
            go_simp
            exact hK.out _ _ (Grw.refl _) rfl
          refine VSteps.cons (VStep.mkN Grw.refl (dg := 37) rfl rfl (by kernel_rfl) (fun _ _ h => h) (fun _ => rfl)) ?_
          refine VSteps.cons (VStep.mkN Grw.refl (dg := 37) rfl rfl (by kernel_rfl) (fun _ _ h => h) (fun _ => rfl)) ?_
          refine VSteps.cons (VStep.mkN Grw.refl (dg := 37) rfl rfl (by kernel_rfl) (fun _ _ h => h) (fun _ => rfl)) ?_
          refine VSteps.cons (VStep.mkN Grw.refl (dg := 37) rfl rfl (by kernel_rfl) (fun _ _ h => h) (fun _ => rfl)) ?_
          refine VSteps.cons (VStep.mkN Grw.refl (dg := 37) rfl rfl (by kernel_rfl) (fun _ _ h => h) (fun _ => rfl)) ?_
          refine VSteps.cons (VStep.mkN Grw.refl (dg := 37) rfl rfl (by kernel_rfl) (fun _ _ h => h) (fun _ => rfl)) ?_
          refine VSteps.cons (VStep.mkN Grw.refl (dg := 37) rfl rfl (by kernel_rfl) (fun _ _ h => h) (fun _ => rfl)) ?_
          refine VSteps.cons (VStep.mkN Grw.refl (dg := 37) rfl rfl (by kernel_rfl) (fun _ _ h => h) (fun _ => rfl)) ?_
          refine VSteps.cons (VStep.mkN Grw.refl (dg := 37) rfl rfl (by kernel_rfl) (fun _ _ h => h) (fun _ => rfl)) ?_
          refine VSteps.cons (VStep.mk Grw.trans rfl rfl fun t V hout hE hdep K hK => ?_) ?_
          · skip
            have t37 := by_is (W := V) (hdep 18 37 (by kernel_rfl))
            have t46 := by_is (W := V) (hdep 27 46 (by kernel_rfl))
            clear hout hdep
            go_simp
            exact hK.out _ _ (Grw.refl _) rfl
          exact VSteps.nil (by decide)
        · intro f W hE hF
          have f19 : f 19 = _ := hF 0 19 (by kernel_rfl)
          have f20 : f 20 = _ := hF 1 20 (by kernel_rfl)
          have f21 : f 21 = _ := hF 2 21 (by kernel_rfl)
          have f22 : f 22 = _ := hF 3 22 (by kernel_rfl)
          have f23 : f 23 = _ := hF 4 23 (by kernel_rfl)
          have f24 : f 24 = _ := hF 5 24 (by kernel_rfl)
          have f25 : f 25 = _ := hF 6 25 (by kernel_rfl)
          have f26 : f 26 = _ := hF 7 26 (by kernel_rfl)
          have f27 : f 27 = _ := hF 8 27 (by kernel_rfl)
          have f28 : f 28 = _ := hF 9 28 (by kernel_rfl)
          have f29 : f 29 = _ := hF 10 29 (by kernel_rfl)
          have f30 : f 30 = _ := hF 11 30 (by kernel_rfl)
          have f31 : f 31 = _ := hF 12 31 (by kernel_rfl)
          have f32 : f 32 = _ := hF 13 32 (by kernel_rfl)
          have f33 : f 33 = _ := hF 14 33 (by kernel_rfl)
          have f34 : f 34 = _ := hF 15 34 (by kernel_rfl)
          have f35 : f 35 = _ := hF 16 35 (by kernel_rfl)
          have f36 : f 36 = _ := hF 17 36 (by kernel_rfl)
          have f37 : f 37 = _ := hF 18 37 (by kernel_rfl)
          have f38 : f 38 = _ := hF 19 38 (by kernel_rfl)
          have f39 : f 39 = _ := hF 20 39 (by kernel_rfl)
          have f40 : f 40 = _ := hF 21 40 (by kernel_rfl)
          have f41 : f 41 = _ := hF 22 41 (by kernel_rfl)
          have f42 : f 42 = _ := hF 23 42 (by kernel_rfl)
          have f43 : f 43 = _ := hF 24 43 (by kernel_rfl)
          have f44 : f 44 = _ := hF 25 44 (by kernel_rfl)
          have f45 : f 45 = _ := hF 26 45 (by kernel_rfl)
          have f46 : f 46 = _ := hF 27 46 (by kernel_rfl)
          have f47 : f 47 = _ := hF 28 47 (by kernel_rfl)
          simp only [setAllV, List.map_cons, List.map_nil, List.set_cons_succ, List.set_cons_zero, f19, f20, f21, f22, f23, f24, f25, f26, f27, f28, f29, f30, f31, f32, f33, f34, f35, f36, f37, f38, f39, f40, f41, f42, f43, f44, f45, f46, f47]
          clear hF f19 f20 f21 f22 f23 f24 f25 f26 f27 f28 f29 f30 f31 f32 f33 f34 f35 f36 f37 f38 f39 f40 f41 f42 f43 f44 f45 f46 f47
          have HBE := Lib.hid (HBW.out.trans (Below.mono hE (by have := HBW.out.size; omega)))
          clear hE
          go_wp2
          go_ret
          exact ⟨⟨false, rfl, fun h => (by cases h), fun h => absurd h HBAD.out⟩, HBE.out⟩
      have k1 : (xs[k].fr != ys[k].fr) = false := by simp [h1]
      by_cases h2 : xs[k].to = ys[k].to
      case neg =>
        have k2' : (xs[k].to != ys[k].to) = true := by simpa using h2
        have HBAD : Hid (¬ xs = ys) := Lib.hid fun h => h2 (by subst h; rfl)
        clear h1 h2
        apply wp_region_vals (by kernel_rfl) Grw (Grw.drew _) [19, 20, 21, 22, 23, 24, 25, 26, 27, 28, 29, 30, 31, 32, 33, 34, 35, 36, 37, 38, 39, 40, 41, 42, 43, 44, 45, 46, 47] [Is _, Is _, Is _, Is _, Is _, Is _, Is _, Is _, Is _, Is _, Is _, Is _, Is _, Is _, Is _, Is _, Is _, Is _, Is _, Is _, Is _, Is _, Is _, Is _, Is _, Is _, Is _, Is _, Is _] (stb_cons (Stb.is) (stb_cons (Stb.is) (stb_cons (Stb.is) (stb_cons (Stb.is) (stb_cons (Stb.is) (stb_cons (Stb.is) (stb_cons (Stb.is) (stb_cons (Stb.is) (stb_cons (Stb.is) (stb_cons (Stb.is) (stb_cons (Stb.is) (stb_cons (Stb.is) (stb_cons (Stb.is) (stb_cons (Stb.is) (stb_cons (Stb.is) (stb_cons (Stb.is) (stb_cons (Stb.is) (stb_cons (Stb.is) (stb_cons (Stb.is) (stb_cons (Stb.is) (stb_cons (Stb.is) (stb_cons (Stb.is) (stb_cons (Stb.is) (stb_cons (Stb.is) (stb_cons (Stb.is) (stb_cons (Stb.is) (stb_cons (Stb.is) (stb_cons (Stb.is) (stb_cons (Stb.is) stb_nil))))))))))))))))))))))))))))) (by kernel_rfl) (by kernel_rfl) (by kernel_rfl)
        · refine VSteps.cons (VStep.mk Grw.trans rfl rfl fun t V hout hE hdep K hK => ?_) ?_
          · skip
            have t6 : t[6]? = some _ := hout 6 (by kernel_rfl)
            clear hout hdep
            go_simp
            exact hK.out _ _ (Grw.refl _) rfl
          refine VSteps.cons (VStep.mk Grw.trans rfl rfl fun t V hout hE hdep K hK => ?_) ?_
          · skip
            have t19 := by_is (W := V) (hdep 0 19 (by kernel_rfl))
            clear hout hdep
            obtain ⟨k0, k1, k2, kl⟩ := (VB.out.keep hE).cells
            go_simp
            exact hK.out _ _ (Grw.refl _) rfl
          refine VSteps.cons (VStep.mk Grw.trans rfl rfl fun t V hout hE hdep K hK => ?_) ?_
          · skip
            have t1 : t[1]? = some _ := hout 1 (by kernel_rfl)
            clear hout hdep
            go_simp
            exact hK.out _ _ (Grw.refl _) rfl
          refine VSteps.cons (VStep.mk Grw.trans rfl rfl fun t V hout hE hdep K hK => ?_) ?_
          · skip
            have t5 : t[5]? = some _ := hout 5 (by kernel_rfl)
            clear hout hdep
            go_simp
            exact hK.out _ _ (Grw.refl _) rfl
          refine VSteps.cons (VStep.mk Grw.trans rfl rfl fun t V hout hE hdep K hK => ?_) ?_
          · skip
            have t21 := by_is (W := V) (hdep 2 21 (by kernel_rfl))
            have t22 := by_is (W := V) (hdep 3 22 (by kernel_rfl))
            clear hout hdep
            go_simp
            exact hK.out _ _ (Grw.refl _) rfl
          refine VSteps.cons (VStep.mk Grw.trans rfl rfl fun t V hout hE hdep K hK => ?_) ?_
          · skip
            have t23 := by_is (W := V) (hdep 4 23 (by kernel_rfl))
            clear hout hdep
            go_simp
            exact hK.out _ _ (Grw.refl _) rfl
          refine VSteps.cons (VStep.mk Grw.trans rfl rfl fun t V hout hE hdep K hK => ?_) ?_
          · skip
            have t24 := by_is (W := V) (hdep 5 24 (by kernel_rfl))
            clear hout hdep
            obtain ⟨z0, z1, z2, zl⟩ := HY.out V (HBW.out.trans (Below.mono hE (by have := HBW.out.size; omega)))
            go_simp
            exact hK.out _ _ (Grw.refl _) rfl
          refine VSteps.cons (VStep.mk Grw.trans rfl rfl fun t V hout hE hdep K hK => ?_) ?_
          · skip
            have t20 := by_is (W := V) (hdep 1 20 (by kernel_rfl))
            have t25 := by_is (W := V) (hdep 6 25 (by kernel_rfl))
            clear hout hdep
            go_simp
            exact hK.out _ _ (Grw.refl _) rfl
          refine VSteps.cons (VStep.mk Grw.trans rfl rfl fun t V hout hE hdep K hK => ?_) ?_
          · skip
            have t26 := by_is (W := V) (hdep 7 26 (by kernel_rfl))
            clear hout hdep
            go_simp
            exact hK.out _ _ (Grw.refl _) rfl
          refine VSteps.cons (VStep.mkG Grw.trans (dg := 27) rfl rfl (by kernel_rfl) (fun _ _ h => h) fun t V hout hE hdep K hK => ?_) ?_
          · skip
            have t6 : t[6]? = some _ := hout 6 (by kernel_rfl)
            clear hout hdep
            go_simp
            exact hK.out _ _ (Grw.refl _) rfl
          refine VSteps.cons (VStep.mkG Grw.trans (dg := 27) rfl rfl (by kernel_rfl) (fun _ _ h => h) fun t V hout hE hdep K hK => ?_) ?_
          · skip
            have t28 := by_is (W := V) (hdep 9 28 (by kernel_rfl))
            clear hout hdep
            obtain ⟨k0, k1, k2, kl⟩ := (VB.out.keep hE).cells
            go_simp
            exact hK.out _ _ (Grw.refl _) rfl
          refine VSteps.cons (VStep.mkG Grw.trans (dg := 27) rfl rfl (by kernel_rfl) (fun _ _ h => h) fun t V hout hE hdep K hK => ?_) ?_
          · skip
            have t1 : t[1]? = some _ := hout 1 (by kernel_rfl)
            clear hout hdep
            go_simp
            exact hK.out _ _ (Grw.refl _) rfl
          refine VSteps.cons (VStep.mkG Grw.trans (dg := 27) rfl rfl (by kernel_rfl) (fun _ _ h => h) fun t V hout hE hdep K hK => ?_) ?_
          · skip
            have t5 : t[5]? = some _ := hout 5 (by kernel_rfl)
            clear hout hdep
            go_simp
            exact hK.out _ _ (Grw.refl _) rfl
          refine VSteps.cons (VStep.mkG Grw.trans (dg := 27) rfl rfl (by kernel_rfl) (fun _ _ h => h) fun t V hout hE hdep K hK => ?_) ?_
          · skip
            have t30 := by_is (W := V) (hdep 11 30 (by kernel_rfl))
            have t31 := by_is (W := V) (hdep 12 31 (by kernel_rfl))
            clear hout hdep
            go_simp
            exact hK.out _ _ (Grw.refl _) rfl
          refine VSteps.cons (VStep.mkG Grw.trans (dg := 27) rfl rfl (by kernel_rfl) (fun _ _ h => h) fun t V hout hE hdep K hK => ?_) ?_
          · skip
            have t32 := by_is (W := V) (hdep 13 32 (by kernel_rfl))
            clear hout hdep
            go_simp
            exact hK.out _ _ (Grw.refl _) rfl
          refine VSteps.cons (VStep.mkG Grw.trans (dg := 27) rfl rfl (by kernel_rfl) (fun _ _ h => h) fun t V hout hE hdep K hK => ?_) ?_
          · skip
            have t33 := by_is (W := V) (hdep 14 33 (by kernel_rfl))
            clear hout hdep
            obtain ⟨z0, z1, z2, zl⟩ := HY.out V (HBW.out.trans (Below.mono hE (by have := HBW.out.size; omega)))
            go_simp
            exact hK.out _ _ (Grw.refl _) rfl
          refine VSteps.cons (VStep.mkG Grw.trans (dg := 27) rfl rfl (by kernel_rfl) (fun _ _ h => h) fun t V hout hE hdep K hK => ?_) ?_
          · skip
            have t29 := by_is (W := V) (hdep 10 29 (by kernel_rfl))
            have t34 := by_is (W := V) (hdep 15 34 (by kernel_rfl))
            clear hout hdep
            go_simp
            exact hK.out _ _ (Grw.refl _) rfl
          refine VSteps.cons (VStep.mk Grw.trans rfl rfl fun t V hout hE hdep K hK => ?_) ?_
          · skip
            have t27 := by_is (W := V) (hdep 8 27 (by kernel_rfl))
            have t35 := by_is (W := V) (hdep 16 35 (by kernel_rfl))
            clear hout hdep
            go_simp
            exact hK.out _ _ (Grw.refl _) rfl
          refine VSteps.cons (VStep.mk Grw.trans rfl rfl fun t V hout hE hdep K hK => ?_) ?_
          · skip
            have t36 := by_is (W := V) (hdep 17 36 (by kernel_rfl))
            clear hout hdep
            go_simp
            exact hK.out _ _ (Grw.refl _) rfl
          refine VSteps.cons (VStep.mkN Grw.refl (dg := 37) rfl rfl (by kernel_rfl) (fun _ _ h => h) (fun _ => rfl)) ?_
          refine VSteps.cons (VStep.mkN Grw.refl (dg := 37) rfl rfl (by kernel_rfl) (fun _ _ h => h) (fun _ => rfl)) ?_
          refine VSteps.cons (VStep.mkN Grw.refl (dg := 37) rfl rfl (by kernel_rfl) (fun _ _ h => h) (fun _ => rfl)) ?_
          refine VSteps.cons (VStep.mkN Grw.refl (dg := 37) rfl rfl (by kernel_rfl) (fun _ _ h => h) (fun _ => rfl)) ?_
          refine VSteps.cons (VStep.mkN Grw.refl (dg := 37) rfl rfl (by kernel_rfl) (fun _ _ h => h) (fun _ => rfl)) ?_
          refine VSteps.cons (VStep.mkN Grw.refl (dg := 37) rfl rfl (by kernel_rfl) (fun _ _ h => h) (fun _ => rfl)) ?_
          refine VSteps.cons (VStep.mkN Grw.refl (dg := 37) rfl rfl (by kernel_rfl) (fun _ _ h => h) (fun _ => rfl)) ?_
          refine VSteps.cons (VStep.mkN Grw.refl (dg := 37) rfl rfl (by kernel_rfl) (fun _ _ h => h) (fun _ => rfl)) ?_
          refine VSteps.cons (VStep.mkN Grw.refl (dg := 37) rfl rfl (by kernel_rfl) (fun _ _ h => h) (fun _ => rfl)) ?_
          refine VSteps.cons (VStep.mk Grw.trans rfl rfl fun t V hout hE hdep K hK => ?_) ?_
          · skip
            have t37 := by_is (W := V) (hdep 18 37 (by kernel_rfl))
            have t46 := by_is (W := V) (hdep 27 46 (by kernel_rfl))
            clear hout hdep
            go_simp
            exact hK.out _ _ (Grw.refl _) rfl
          exact VSteps.nil (by decide)
        · intro f W hE hF
          have f19 : f 19 = _ := hF 0 19 (by kernel_rfl)
          have f20 : f 20 = _ := hF 1 20 (by kernel_rfl)
          have f21 : f 21 = _ := hF 2 21 (by kernel_rfl)
          have f22 : f 22 = _ := hF 3 22 (by kernel_rfl)
          have f23 : f 23 = _ := hF 4 23 (by kernel_rfl)
          have f24 : f 24 = _ := hF 5 24 (by kernel_rfl)
          have f25 : f 25 = _ := hF 6 25 (by kernel_rfl)
          have f26 : f 26 = _ := hF 7 26 (by kernel_rfl)
          have f27 : f 27 = _ := hF 8 27 (by kernel_rfl)
          have f28 : f 28 = _ := hF 9 28 (by kernel_rfl)
          have f29 : f 29 = _ := hF 10 29 (by kernel_rfl)
          have f30 : f 30 = _ := hF 11 30 (by kernel_rfl)
          have f31 : f 31 = _ := hF 12 31 (by kernel_rfl)
          have f32 : f 32 = _ := hF 13 32 (by kernel_rfl)
          have f33 : f 33 = _ := hF 14 33 (by kernel_rfl)
          have f34 : f 34 = _ := hF 15 34 (by kernel_rfl)
          have f35 : f 35 = _ := hF 16 35 (by kernel_rfl)
          have f36 : f 36 = _ := hF 17 36 (by kernel_rfl)
          have f37 : f 37 = _ := hF 18 37 (by kernel_rfl)
          have f38 : f 38 = _ := hF 19 38 (by kernel_rfl)
          have f39 : f 39 = _ := hF 20 39 (by kernel_rfl)
          have f40 : f 40 = _ := hF 21 40 (by kernel_rfl)
          have f41 : f 41 = _ := hF 22 41 (by kernel_rfl)
          have f42 : f 42 = _ := hF 23 42 (by kernel_rfl)
          have f43 : f 43 = _ := hF 24 43 (by kernel_rfl)
          have f44 : f 44 = _ := hF 25 44 (by kernel_rfl)
          have f45 : f 45 = _ := hF 26 45 (by kernel_rfl)
          have f46 : f 46 = _ := hF 27 46 (by kernel_rfl)
          have f47 : f 47 = _ := hF 28 47 (by kernel_rfl)
          simp only [setAllV, List.map_cons, List.map_nil, List.set_cons_succ, List.set_cons_zero, f19, f20, f21, f22, f23, f24, f25, f26, f27, f28, f29, f30, f31, f32, f33, f34, f35, f36, f37, f38, f39, f40, f41, f42, f43, f44, f45, f46, f47]
          clear hF f19 f20 f21 f22 f23 f24 f25 f26 f27 f28 f29 f30 f31 f32 f33 f34 f35 f36 f37 f38 f39 f40 f41 f42 f43 f44 f45 f46 f47
          have HBE := Lib.hid (HBW.out.trans (Below.mono hE (by have := HBW.out.size; omega)))
          clear hE
          go_wp2
          go_ret
          exact ⟨⟨false, rfl, fun h => (by cases h), fun h => absurd h HBAD.out⟩, HBE.out⟩
      have k2' : (xs[k].to != ys[k].to) = false := by simp [h2]
      by_cases h3 : xs[k].slots = ys[k].slots
      case neg =>
        have HSM := Lib.hid h3
        have HBAD : Hid (¬ xs = ys) := Lib.hid fun h => h3 (by subst h; rfl)
        clear h1 h2 h3
        apply wp_region_vals (by kernel_rfl) Grw (Grw.drew _) [19, 20, 21, 22, 23, 24, 25, 26, 27, 28, 29, 30, 31, 32, 33, 34, 35, 36, 37, 38, 39, 40, 41, 42, 43, 44, 45, 46, 47] [Is _, Is _, Is _, Is _, Is _, Is _, Is _, Is _, Is _, Is _, Is _, Is _, Is _, Is _, Is _, Is _, Is _, Is _, Is _, Is _, Is _, Is _, Is _, Is _, Is _, Is _, Is (.bool false), Is _, Is _] (stb_cons (Stb.is) (stb_cons (Stb.is) (stb_cons (Stb.is) (stb_cons (Stb.is) (stb_cons (Stb.is) (stb_cons (Stb.is) (stb_cons (Stb.is) (stb_cons (Stb.is) (stb_cons (Stb.is) (stb_cons (Stb.is) (stb_cons (Stb.is) (stb_cons (Stb.is) (stb_cons (Stb.is) (stb_cons (Stb.is) (stb_cons (Stb.is) (stb_cons (Stb.is) (stb_cons (Stb.is) (stb_cons (Stb.is) (stb_cons (Stb.is) (stb_cons (Stb.is) (stb_cons (Stb.is) (stb_cons (Stb.is) (stb_cons (Stb.is) (stb_cons (Stb.is) (stb_cons (Stb.is) (stb_cons (Stb.is) (stb_cons (Stb.is) (stb_cons (Stb.is) (stb_cons (Stb.is) stb_nil))))))))))))))))))))))))))))) (by kernel_rfl) (by kernel_rfl) (by kernel_rfl)
        · refine VSteps.cons (VStep.mk Grw.trans rfl rfl fun t V hout hE hdep K hK => ?_) ?_
          · skip
            have t6 : t[6]? = some _ := hout 6 (by kernel_rfl)
            clear hout hdep
            go_simp
            exact hK.out _ _ (Grw.refl _) rfl
          refine VSteps.cons (VStep.mk Grw.trans rfl rfl fun t V hout hE hdep K hK => ?_) ?_
          · skip
            have t19 := by_is (W := V) (hdep 0 19 (by kernel_rfl))
            clear hout hdep
            obtain ⟨k0, k1, k2, kl⟩ := (VB.out.keep hE).cells
            go_simp
            exact hK.out _ _ (Grw.refl _) rfl
          refine VSteps.cons (VStep.mk Grw.trans rfl rfl fun t V hout hE hdep K hK => ?_) ?_
          · skip
            have t1 : t[1]? = some _ := hout 1 (by kernel_rfl)
            clear hout hdep
            go_simp
            exact hK.out _ _ (Grw.refl _) rfl
          refine VSteps.cons (VStep.mk Grw.trans rfl rfl fun t V hout hE hdep K hK => ?_) ?_
          · skip
            have t5 : t[5]? = some _ := hout 5 (by kernel_rfl)
            clear hout hdep
            go_simp
            exact hK.out _ _ (Grw.refl _) rfl
          refine VSteps.cons (VStep.mk Grw.trans rfl rfl fun t V hout hE hdep K hK => ?_) ?_
          · skip
            have t21 := by_is (W := V) (hdep 2 21 (by kernel_rfl))
            have t22 := by_is (W := V) (hdep 3 22 (by kernel_rfl))
            clear hout hdep
            go_simp
            exact hK.out _ _ (Grw.refl _) rfl
          refine VSteps.cons (VStep.mk Grw.trans rfl rfl fun t V hout hE hdep K hK => ?_) ?_
          · skip
            have t23 := by_is (W := V) (hdep 4 23 (by kernel_rfl))
            clear hout hdep
            go_simp
            exact hK.out _ _ (Grw.refl _) rfl
          refine VSteps.cons (VStep.mk Grw.trans rfl rfl fun t V hout hE hdep K hK => ?_) ?_
          · skip
            have t24 := by_is (W := V) (hdep 5 24 (by kernel_rfl))
            clear hout hdep
            obtain ⟨z0, z1, z2, zl⟩ := HY.out V (HBW.out.trans (Below.mono hE (by have := HBW.out.size; omega)))
            go_simp
            exact hK.out _ _ (Grw.refl _) rfl
          refine VSteps.cons (VStep.mk Grw.trans rfl rfl fun t V hout hE hdep K hK => ?_) ?_
          · skip
            have t20 := by_is (W := V) (hdep 1 20 (by kernel_rfl))
            have t25 := by_is (W := V) (hdep 6 25 (by kernel_rfl))
            clear hout hdep
            go_simp
            exact hK.out _ _ (Grw.refl _) rfl
          refine VSteps.cons (VStep.mk Grw.trans rfl rfl fun t V hout hE hdep K hK => ?_) ?_
          · skip
            have t26 := by_is (W := V) (hdep 7 26 (by kernel_rfl))
            clear hout hdep
            go_simp
            exact hK.out _ _ (Grw.refl _) rfl
          refine VSteps.cons (VStep.mkG Grw.trans (dg := 27) rfl rfl (by kernel_rfl) (fun _ _ h => h) fun t V hout hE hdep K hK => ?_) ?_
          · skip
            have t6 : t[6]? = some _ := hout 6 (by kernel_rfl)
            clear hout hdep
            go_simp
            exact hK.out _ _ (Grw.refl _) rfl
          refine VSteps.cons (VStep.mkG Grw.trans (dg := 27) rfl rfl (by kernel_rfl) (fun _ _ h => h) fun t V hout hE hdep K hK => ?_) ?_
          · skip
            have t28 := by_is (W := V) (hdep 9 28 (by kernel_rfl))
            clear hout hdep
            obtain ⟨k0, k1, k2, kl⟩ := (VB.out.keep hE).cells
            go_simp
            exact hK.out _ _ (Grw.refl _) rfl
          refine VSteps.cons (VStep.mkG Grw.trans (dg := 27) rfl rfl (by kernel_rfl) (fun _ _ h => h) fun t V hout hE hdep K hK => ?_) ?_
          · skip
            have t1 : t[1]? = some _ := hout 1 (by kernel_rfl)
            clear hout hdep
            go_simp
            exact hK.out _ _ (Grw.refl _) rfl
          refine VSteps.cons (VStep.mkG Grw.trans (dg := 27) rfl rfl (by kernel_rfl) (fun _ _ h => h) fun t V hout hE hdep K hK => ?_) ?_
          · skip
            have t5 : t[5]? = some _ := hout 5 (by kernel_rfl)
            clear hout hdep
            go_simp
            exact hK.out _ _ (Grw.refl _) rfl
          refine VSteps.cons (VStep.mkG Grw.trans (dg := 27) rfl rfl (by kernel_rfl) (fun _ _ h => h) fun t V hout hE hdep K hK => ?_) ?_
          · skip
            have t30 := by_is (W := V) (hdep 11 30 (by kernel_rfl))
            have t31 := by_is (W := V) (hdep 12 31 (by kernel_rfl))
            clear hout hdep
            go_simp
            exact hK.out _ _ (Grw.refl _) rfl
          refine VSteps.cons (VStep.mkG Grw.trans (dg := 27) rfl rfl (by kernel_rfl) (fun _ _ h => h) fun t V hout hE hdep K hK => ?_) ?_
          · skip
            have t32 := by_is (W := V) (hdep 13 32 (by kernel_rfl))
            clear hout hdep
            go_simp
            exact hK.out _ _ (Grw.refl _) rfl
          refine VSteps.cons (VStep.mkG Grw.trans (dg := 27) rfl rfl (by kernel_rfl) (fun _ _ h => h) fun t V hout hE hdep K hK => ?_) ?_
          · skip
            have t33 := by_is (W := V) (hdep 14 33 (by kernel_rfl))
            clear hout hdep
            obtain ⟨z0, z1, z2, zl⟩ := HY.out V (HBW.out.trans (Below.mono hE (by have := HBW.out.size; omega)))
            go_simp
            exact hK.out _ _ (Grw.refl _) rfl
          refine VSteps.cons (VStep.mkG Grw.trans (dg := 27) rfl rfl (by kernel_rfl) (fun _ _ h => h) fun t V hout hE hdep K hK => ?_) ?_
          · skip
            have t29 := by_is (W := V) (hdep 10 29 (by kernel_rfl))
            have t34 := by_is (W := V) (hdep 15 34 (by kernel_rfl))
            clear hout hdep
            go_simp
            exact hK.out _ _ (Grw.refl _) rfl
          refine VSteps.cons (VStep.mk Grw.trans rfl rfl fun t V hout hE hdep K hK => ?_) ?_
          · skip
            have t27 := by_is (W := V) (hdep 8 27 (by kernel_rfl))
            have t35 := by_is (W := V) (hdep 16 35 (by kernel_rfl))
            clear hout hdep
            go_simp
            exact hK.out _ _ (Grw.refl _) rfl
          refine VSteps.cons (VStep.mk Grw.trans rfl rfl fun t V hout hE hdep K hK => ?_) ?_
          · skip
            have t36 := by_is (W := V) (hdep 17 36 (by kernel_rfl))
            clear hout hdep
            go_simp
            exact hK.out _ _ (Grw.refl _) rfl
          refine VSteps.cons (VStep.mkG Grw.trans (dg := 37) rfl rfl (by kernel_rfl) (fun _ _ h => h) fun t V hout hE hdep K hK => ?_) ?_
          · skip
            have t6 : t[6]? = some _ := hout 6 (by kernel_rfl)
            clear hout hdep
            go_simp
            exact hK.out _ _ (Grw.refl _) rfl
          refine VSteps.cons (VStep.mkG Grw.trans (dg := 37) rfl rfl (by kernel_rfl) (fun _ _ h => h) fun t V hout hE hdep K hK => ?_) ?_
          · skip
            have t38 := by_is (W := V) (hdep 19 38 (by kernel_rfl))
            clear hout hdep
            obtain ⟨k0, k1, k2, kl⟩ := (VB.out.keep hE).cells
            go_simp
            exact hK.out _ _ (Grw.refl _) rfl
          refine VSteps.cons (VStep.mkG Grw.trans (dg := 37) rfl rfl (by kernel_rfl) (fun _ _ h => h) fun t V hout hE hdep K hK => ?_) ?_
          · skip
            have t1 : t[1]? = some _ := hout 1 (by kernel_rfl)
            clear hout hdep
            go_simp
            exact hK.out _ _ (Grw.refl _) rfl
          refine VSteps.cons (VStep.mkG Grw.trans (dg := 37) rfl rfl (by kernel_rfl) (fun _ _ h => h) fun t V hout hE hdep K hK => ?_) ?_
          · skip
            have t5 : t[5]? = some _ := hout 5 (by kernel_rfl)
            clear hout hdep
            go_simp
            exact hK.out _ _ (Grw.refl _) rfl
          refine VSteps.cons (VStep.mkG Grw.trans (dg := 37) rfl rfl (by kernel_rfl) (fun _ _ h => h) fun t V hout hE hdep K hK => ?_) ?_
          · skip
            have t40 := by_is (W := V) (hdep 21 40 (by kernel_rfl))
            have t41 := by_is (W := V) (hdep 22 41 (by kernel_rfl))
            clear hout hdep
            go_simp
            exact hK.out _ _ (Grw.refl _) rfl
          refine VSteps.cons (VStep.mkG Grw.trans (dg := 37) rfl rfl (by kernel_rfl) (fun _ _ h => h) fun t V hout hE hdep K hK => ?_) ?_
          · skip
            have t42 := by_is (W := V) (hdep 23 42 (by kernel_rfl))
            clear hout hdep
            go_simp
            exact hK.out _ _ (Grw.refl _) rfl
          refine VSteps.cons (VStep.mkG Grw.trans (dg := 37) rfl rfl (by kernel_rfl) (fun _ _ h => h) fun t V hout hE hdep K hK => ?_) ?_
          · skip
            have t43 := by_is (W := V) (hdep 24 43 (by kernel_rfl))
            clear hout hdep
            obtain ⟨z0, z1, z2, zl⟩ := HY.out V (HBW.out.trans (Below.mono hE (by have := HBW.out.size; omega)))
            go_simp
            exact hK.out _ _ (Grw.refl _) rfl
          refine VSteps.cons (VStep.mkG Grw.trans (dg := 37) rfl rfl (by kernel_rfl) (fun _ _ h => h) fun t V hout hE hdep K hK => ?_) ?_
          · skip
            have t39 := by_is (W := V) (hdep 20 39 (by kernel_rfl))
            have t44 := by_is (W := V) (hdep 25 44 (by kernel_rfl))
            clear hout hdep
            go_simp
            have hw5 := HBW.out.trans (Below.mono hE (by have := HBW.out.size; omega))
            refine (sint_any _ _ _ _ _ (HRS.out.below hw5) (HRY.out.below hw5)).mono ?_
            rintro e W5 ⟨⟨x, rfl, hx⟩, hb5⟩
            obtain rfl : x = false := by cases x with | false => rfl | true => exact absurd (hx.1 rfl) HSM.out
            go_simp
            exact hK.out _ _ hb5 rfl
          refine VSteps.cons (VStep.mkG Grw.trans (dg := 37) rfl rfl (by kernel_rfl) (fun _ _ h => h) fun t V hout hE hdep K hK => ?_) ?_
          · skip
            have t45 := by_is (W := V) (hdep 26 45 (by kernel_rfl))
            clear hout hdep
            go_simp
            exact hK.out _ _ (Grw.refl _) rfl
          refine VSteps.cons (VStep.mk Grw.trans rfl rfl fun t V hout hE hdep K hK => ?_) ?_
          · skip
            have t37 := by_is (W := V) (hdep 18 37 (by kernel_rfl))
            have t46 := by_is (W := V) (hdep 27 46 (by kernel_rfl))
            clear hout hdep
            go_simp
            exact hK.out _ _ (Grw.refl _) rfl
          exact VSteps.nil (by decide)
        · intro f W hE hF
          have f19 : f 19 = _ := hF 0 19 (by kernel_rfl)
          have f20 : f 20 = _ := hF 1 20 (by kernel_rfl)
          have f21 : f 21 = _ := hF 2 21 (by kernel_rfl)
          have f22 : f 22 = _ := hF 3 22 (by kernel_rfl)
          have f23 : f 23 = _ := hF 4 23 (by kernel_rfl)
          have f24 : f 24 = _ := hF 5 24 (by kernel_rfl)
          have f25 : f 25 = _ := hF 6 25 (by kernel_rfl)
          have f26 : f 26 = _ := hF 7 26 (by kernel_rfl)
          have f27 : f 27 = _ := hF 8 27 (by kernel_rfl)
          have f28 : f 28 = _ := hF 9 28 (by kernel_rfl)
          have f29 : f 29 = _ := hF 10 29 (by kernel_rfl)
          have f30 : f 30 = _ := hF 11 30 (by kernel_rfl)
          have f31 : f 31 = _ := hF 12 31 (by kernel_rfl)
          have f32 : f 32 = _ := hF 13 32 (by kernel_rfl)
          have f33 : f 33 = _ := hF 14 33 (by kernel_rfl)
          have f34 : f 34 = _ := hF 15 34 (by kernel_rfl)
          have f35 : f 35 = _ := hF 16 35 (by kernel_rfl)
          have f36 : f 36 = _ := hF 17 36 (by kernel_rfl)
          have f37 : f 37 = _ := hF 18 37 (by kernel_rfl)
          have f38 : f 38 = _ := hF 19 38 (by kernel_rfl)
          have f39 : f 39 = _ := hF 20 39 (by kernel_rfl)
          have f40 : f 40 = _ := hF 21 40 (by kernel_rfl)
          have f41 : f 41 = _ := hF 22 41 (by kernel_rfl)
          have f42 : f 42 = _ := hF 23 42 (by kernel_rfl)
          have f43 : f 43 = _ := hF 24 43 (by kernel_rfl)
          have f44 : f 44 = _ := hF 25 44 (by kernel_rfl)
          have f45 : f 45 = _ := hF 26 45 (by kernel_rfl)
          have f46 : f 46 = _ := hF 27 46 (by kernel_rfl)
          have f47 : f 47 = _ := hF 28 47 (by kernel_rfl)
          simp only [setAllV, List.map_cons, List.map_nil, List.set_cons_succ, List.set_cons_zero, f19, f20, f21, f22, f23, f24, f25, f26, f27, f28, f29, f30, f31, f32, f33, f34, f35, f36, f37, f38, f39, f40, f41, f42, f43, f44, f45, f46, f47]
          clear hF f19 f20 f21 f22 f23 f24 f25 f26 f27 f28 f29 f30 f31 f32 f33 f34 f35 f36 f37 f38 f39 f40 f41 f42 f43 f44 f45 f46 f47
          have HBE := Lib.hid (HBW.out.trans (Below.mono hE (by have := HBW.out.size; omega)))
          clear hE
          go_wp2
          go_ret
          exact ⟨⟨false, rfl, fun h => (by cases h), fun h => absurd h HBAD.out⟩, HBE.out⟩
      have HSM := Lib.hid h3
      have HEQ := Lib.hid (st_ext h1 h2 h3)
      clear h1 h2 h3
      apply wp_region_vals (by kernel_rfl) Grw (Grw.drew _) [19, 20, 21, 22, 23, 24, 25, 26, 27, 28, 29, 30, 31, 32, 33, 34, 35, 36, 37, 38, 39, 40, 41, 42, 43, 44, 45, 46, 47] [Is _, Is _, Is _, Is _, Is _, Is _, Is _, Is _, Is _, Is _, Is _, Is _, Is _, Is _, Is _, Is _, Is _, Is _, Is _, Is _, Is _, Is _, Is _, Is _, Is _, Is _, Is (.bool true), Is _, Is _] (stb_cons (Stb.is) (stb_cons (Stb.is) (stb_cons (Stb.is) (stb_cons (Stb.is) (stb_cons (Stb.is) (stb_cons (Stb.is) (stb_cons (Stb.is) (stb_cons (Stb.is) (stb_cons (Stb.is) (stb_cons (Stb.is) (stb_cons (Stb.is) (stb_cons (Stb.is) (stb_cons (Stb.is) (stb_cons (Stb.is) (stb_cons (Stb.is) (stb_cons (Stb.is) (stb_cons (Stb.is) (stb_cons (Stb.is) (stb_cons (Stb.is) (stb_cons (Stb.is) (stb_cons (Stb.is) (stb_cons (Stb.is) (stb_cons (Stb.is) (stb_cons (Stb.is) (stb_cons (Stb.is) (stb_cons (Stb.is) (stb_cons (Stb.is) (stb_cons (Stb.is) (stb_cons (Stb.is) stb_nil))))))))))))))))))))))))))))) (by kernel_rfl) (by kernel_rfl) (by kernel_rfl)
      · refine VSteps.cons (VStep.mk Grw.trans rfl rfl fun t V hout hE hdep K hK => ?_) ?_
        · skip
          have t6 : t[6]? = some _ := hout 6 (by kernel_rfl)
          clear hout hdep
          go_simp
          exact hK.out _ _ (Grw.refl _) rfl
        refine VSteps.cons (VStep.mk Grw.trans rfl rfl fun t V hout hE hdep K hK => ?_) ?_
        · skip
          have t19 := by_is (W := V) (hdep 0 19 (by kernel_rfl))
          clear hout hdep
          obtain ⟨k0, k1, k2, kl⟩ := (VB.out.keep hE).cells
          go_simp
          exact hK.out _ _ (Grw.refl _) rfl
        refine VSteps.cons (VStep.mk Grw.trans rfl rfl fun t V hout hE hdep K hK => ?_) ?_
        · skip
          have t1 : t[1]? = some _ := hout 1 (by kernel_rfl)
          clear hout hdep
          go_simp
          exact hK.out _ _ (Grw.refl _) rfl
        refine VSteps.cons (VStep.mk Grw.trans rfl rfl fun t V hout hE hdep K hK => ?_) ?_
        · skip
          have t5 : t[5]? = some _ := hout 5 (by kernel_rfl)
          clear hout hdep
          go_simp
          exact hK.out _ _ (Grw.refl _) rfl
        refine VSteps.cons (VStep.mk Grw.trans rfl rfl fun t V hout hE hdep K hK => ?_) ?_
        · skip
          have t21 := by_is (W := V) (hdep 2 21 (by kernel_rfl))
          have t22 := by_is (W := V) (hdep 3 22 (by kernel_rfl))
          clear hout hdep
          go_simp
          exact hK.out _ _ (Grw.refl _) rfl
        refine VSteps.cons (VStep.mk Grw.trans rfl rfl fun t V hout hE hdep K hK => ?_) ?_
        · skip
          have t23 := by_is (W := V) (hdep 4 23 (by kernel_rfl))
          clear hout hdep
          go_simp
          exact hK.out _ _ (Grw.refl _) rfl
        refine VSteps.cons (VStep.mk Grw.trans rfl rfl fun t V hout hE hdep K hK => ?_) ?_
        · skip
          have t24 := by_is (W := V) (hdep 5 24 (by kernel_rfl))
          clear hout hdep
          obtain ⟨z0, z1, z2, zl⟩ := HY.out V (HBW.out.trans (Below.mono hE (by have := HBW.out.size; omega)))
          go_simp
          exact hK.out _ _ (Grw.refl _) rfl
        refine VSteps.cons (VStep.mk Grw.trans rfl rfl fun t V hout hE hdep K hK => ?_) ?_
        · skip
          have t20 := by_is (W := V) (hdep 1 20 (by kernel_rfl))
          have t25 := by_is (W := V) (hdep 6 25 (by kernel_rfl))
          clear hout hdep
          go_simp
          exact hK.out _ _ (Grw.refl _) rfl
        refine VSteps.cons (VStep.mk Grw.trans rfl rfl fun t V hout hE hdep K hK => ?_) ?_
        · skip
          have t26 := by_is (W := V) (hdep 7 26 (by kernel_rfl))
          clear hout hdep
          go_simp
          exact hK.out _ _ (Grw.refl _) rfl
        refine VSteps.cons (VStep.mkG Grw.trans (dg := 27) rfl rfl (by kernel_rfl) (fun _ _ h => h) fun t V hout hE hdep K hK => ?_) ?_
        · skip
          have t6 : t[6]? = some _ := hout 6 (by kernel_rfl)
          clear hout hdep
          go_simp
          exact hK.out _ _ (Grw.refl _) rfl
        refine VSteps.cons (VStep.mkG Grw.trans (dg := 27) rfl rfl (by kernel_rfl) (fun _ _ h => h) fun t V hout hE hdep K hK => ?_) ?_
        · skip
          have t28 := by_is (W := V) (hdep 9 28 (by kernel_rfl))
          clear hout hdep
          obtain ⟨k0, k1, k2, kl⟩ := (VB.out.keep hE).cells
          go_simp
          exact hK.out _ _ (Grw.refl _) rfl
        refine VSteps.cons (VStep.mkG Grw.trans (dg := 27) rfl rfl (by kernel_rfl) (fun _ _ h => h) fun t V hout hE hdep K hK => ?_) ?_
        · skip
          have t1 : t[1]? = some _ := hout 1 (by kernel_rfl)
          clear hout hdep
          go_simp
          exact hK.out _ _ (Grw.refl _) rfl
        refine VSteps.cons (VStep.mkG Grw.trans (dg := 27) rfl rfl (by kernel_rfl) (fun _ _ h => h) fun t V hout hE hdep K hK => ?_) ?_
        · skip
          have t5 : t[5]? = some _ := hout 5 (by kernel_rfl)
          clear hout hdep
          go_simp
          exact hK.out _ _ (Grw.refl _) rfl
        refine VSteps.cons (VStep.mkG Grw.trans (dg := 27) rfl rfl (by kernel_rfl) (fun _ _ h => h) fun t V hout hE hdep K hK => ?_) ?_
        · skip
          have t30 := by_is (W := V) (hdep 11 30 (by kernel_rfl))
          have t31 := by_is (W := V) (hdep 12 31 (by kernel_rfl))
          clear hout hdep
          go_simp
          exact hK.out _ _ (Grw.refl _) rfl
        refine VSteps.cons (VStep.mkG Grw.trans (dg := 27) rfl rfl (by kernel_rfl) (fun _ _ h => h) fun t V hout hE hdep K hK => ?_) ?_
        · skip
          have t32 := by_is (W := V) (hdep 13 32 (by kernel_rfl))
          clear hout hdep
          go_simp
          exact hK.out _ _ (Grw.refl _) rfl
        refine VSteps.cons (VStep.mkG Grw.trans (dg := 27) rfl rfl (by kernel_rfl) (fun _ _ h => h) fun t V hout hE hdep K hK => ?_) ?_
        · skip
          have t33 := by_is (W := V) (hdep 14 33 (by kernel_rfl))
          clear hout hdep
          obtain ⟨z0, z1, z2, zl⟩ := HY.out V (HBW.out.trans (Below.mono hE (by have := HBW.out.size; omega)))
          go_simp
          exact hK.out _ _ (Grw.refl _) rfl
        refine VSteps.cons (VStep.mkG Grw.trans (dg := 27) rfl rfl (by kernel_rfl) (fun _ _ h => h) fun t V hout hE hdep K hK => ?_) ?_
        · skip
          have t29 := by_is (W := V) (hdep 10 29 (by kernel_rfl))
          have t34 := by_is (W := V) (hdep 15 34 (by kernel_rfl))
          clear hout hdep
          go_simp
          exact hK.out _ _ (Grw.refl _) rfl
        refine VSteps.cons (VStep.mk Grw.trans rfl rfl fun t V hout hE hdep K hK => ?_) ?_
        · skip
          have t27 := by_is (W := V) (hdep 8 27 (by kernel_rfl))
          have t35 := by_is (W := V) (hdep 16 35 (by kernel_rfl))
          clear hout hdep
          go_simp
          exact hK.out _ _ (Grw.refl _) rfl
        refine VSteps.cons (VStep.mk Grw.trans rfl rfl fun t V hout hE hdep K hK => ?_) ?_
        · skip
          have t36 := by_is (W := V) (hdep 17 36 (by kernel_rfl))
          clear hout hdep
          go_simp
          exact hK.out _ _ (Grw.refl _) rfl
        refine VSteps.cons (VStep.mkG Grw.trans (dg := 37) rfl rfl (by kernel_rfl) (fun _ _ h => h) fun t V hout hE hdep K hK => ?_) ?_
        · skip
          have t6 : t[6]? = some _ := hout 6 (by kernel_rfl)
          clear hout hdep
          go_simp
          exact hK.out _ _ (Grw.refl _) rfl
        refine VSteps.cons (VStep.mkG Grw.trans (dg := 37) rfl rfl (by kernel_rfl) (fun _ _ h => h) fun t V hout hE hdep K hK => ?_) ?_
        · skip
          have t38 := by_is (W := V) (hdep 19 38 (by kernel_rfl))
          clear hout hdep
          obtain ⟨k0, k1, k2, kl⟩ := (VB.out.keep hE).cells
          go_simp
          exact hK.out _ _ (Grw.refl _) rfl
        refine VSteps.cons (VStep.mkG Grw.trans (dg := 37) rfl rfl (by kernel_rfl) (fun _ _ h => h) fun t V hout hE hdep K hK => ?_) ?_
        · skip
          have t1 : t[1]? = some _ := hout 1 (by kernel_rfl)
          clear hout hdep
          go_simp
          exact hK.out _ _ (Grw.refl _) rfl
        refine VSteps.cons (VStep.mkG Grw.trans (dg := 37) rfl rfl (by kernel_rfl) (fun _ _ h => h) fun t V hout hE hdep K hK => ?_) ?_
        · skip
          have t5 : t[5]? = some _ := hout 5 (by kernel_rfl)
          clear hout hdep
          go_simp
          exact hK.out _ _ (Grw.refl _) rfl
        refine VSteps.cons (VStep.mkG Grw.trans (dg := 37) rfl rfl (by kernel_rfl) (fun _ _ h => h) fun t V hout hE hdep K hK => ?_) ?_
        · skip
          have t40 := by_is (W := V) (hdep 21 40 (by kernel_rfl))
          have t41 := by_is (W := V) (hdep 22 41 (by kernel_rfl))
          clear hout hdep
          go_simp
          exact hK.out _ _ (Grw.refl _) rfl
        refine VSteps.cons (VStep.mkG Grw.trans (dg := 37) rfl rfl (by kernel_rfl) (fun _ _ h => h) fun t V hout hE hdep K hK => ?_) ?_
        · skip
          have t42 := by_is (W := V) (hdep 23 42 (by kernel_rfl))
          clear hout hdep
          go_simp
          exact hK.out _ _ (Grw.refl _) rfl
        refine VSteps.cons (VStep.mkG Grw.trans (dg := 37) rfl rfl (by kernel_rfl) (fun _ _ h => h) fun t V hout hE hdep K hK => ?_) ?_
        · skip
          have t43 := by_is (W := V) (hdep 24 43 (by kernel_rfl))
          clear hout hdep
          obtain ⟨z0, z1, z2, zl⟩ := HY.out V (HBW.out.trans (Below.mono hE (by have := HBW.out.size; omega)))
          go_simp
          exact hK.out _ _ (Grw.refl _) rfl
        refine VSteps.cons (VStep.mkG Grw.trans (dg := 37) rfl rfl (by kernel_rfl) (fun _ _ h => h) fun t V hout hE hdep K hK => ?_) ?_
        · skip
          have t39 := by_is (W := V) (hdep 20 39 (by kernel_rfl))
          have t44 := by_is (W := V) (hdep 25 44 (by kernel_rfl))
          clear hout hdep
          go_simp
          have hw5 := HBW.out.trans (Below.mono hE (by have := HBW.out.size; omega))
          refine (sint_any _ _ _ _ _ (HRS.out.below hw5) (HRY.out.below hw5)).mono ?_
          rintro e W5 ⟨⟨x, rfl, hx⟩, hb5⟩
          obtain rfl : x = true := hx.2 HSM.out
          go_simp
          exact hK.out _ _ hb5 rfl
        refine VSteps.cons (VStep.mkG Grw.trans (dg := 37) rfl rfl (by kernel_rfl) (fun _ _ h => h) fun t V hout hE hdep K hK => ?_) ?_
        · skip
          have t45 := by_is (W := V) (hdep 26 45 (by kernel_rfl))
          clear hout hdep
          go_simp
          exact hK.out _ _ (Grw.refl _) rfl
        refine VSteps.cons (VStep.mk Grw.trans rfl rfl fun t V hout hE hdep K hK => ?_) ?_
        · skip
          have t37 := by_is (W := V) (hdep 18 37 (by kernel_rfl))
          have t46 := by_is (W := V) (hdep 27 46 (by kernel_rfl))
          clear hout hdep
          go_simp
          exact hK.out _ _ (Grw.refl _) rfl
        exact VSteps.nil (by decide)
      · intro f W hE hF
        have f19 : f 19 = _ := hF 0 19 (by kernel_rfl)
        have f20 : f 20 = _ := hF 1 20 (by kernel_rfl)
        have f21 : f 21 = _ := hF 2 21 (by kernel_rfl)
        have f22 : f 22 = _ := hF 3 22 (by kernel_rfl)
        have f23 : f 23 = _ := hF 4 23 (by kernel_rfl)
        have f24 : f 24 = _ := hF 5 24 (by kernel_rfl)
        have f25 : f 25 = _ := hF 6 25 (by kernel_rfl)
        have f26 : f 26 = _ := hF 7 26 (by kernel_rfl)
        have f27 : f 27 = _ := hF 8 27 (by kernel_rfl)
        have f28 : f 28 = _ := hF 9 28 (by kernel_rfl)
        have f29 : f 29 = _ := hF 10 29 (by kernel_rfl)
        have f30 : f 30 = _ := hF 11 30 (by kernel_rfl)
        have f31 : f 31 = _ := hF 12 31 (by kernel_rfl)
        have f32 : f 32 = _ := hF 13 32 (by kernel_rfl)
        have f33 : f 33 = _ := hF 14 33 (by kernel_rfl)
        have f34 : f 34 = _ := hF 15 34 (by kernel_rfl)
        have f35 : f 35 = _ := hF 16 35 (by kernel_rfl)
        have f36 : f 36 = _ := hF 17 36 (by kernel_rfl)
        have f37 : f 37 = _ := hF 18 37 (by kernel_rfl)
        have f38 : f 38 = _ := hF 19 38 (by kernel_rfl)
        have f39 : f 39 = _ := hF 20 39 (by kernel_rfl)
        have f40 : f 40 = _ := hF 21 40 (by kernel_rfl)
        have f41 : f 41 = _ := hF 22 41 (by kernel_rfl)
        have f42 : f 42 = _ := hF 23 42 (by kernel_rfl)
        have f43 : f 43 = _ := hF 24 43 (by kernel_rfl)
        have f44 : f 44 = _ := hF 25 44 (by kernel_rfl)
        have f45 : f 45 = _ := hF 26 45 (by kernel_rfl)
        have f46 : f 46 = _ := hF 27 46 (by kernel_rfl)
        have f47 : f 47 = _ := hF 28 47 (by kernel_rfl)
        simp only [setAllV, List.map_cons, List.map_nil, List.set_cons_succ, List.set_cons_zero, f19, f20, f21, f22, f23, f24, f25, f26, f27, f28, f29, f30, f31, f32, f33, f34, f35, f36, f37, f38, f39, f40, f41, f42, f43, f44, f45, f46, f47]
        clear hF f19 f20 f21 f22 f23 f24 f25 f26 f27 f28 f29 f30 f31 f32 f33 f34 f35 f36 f37 f38 f39 f40 f41 f42 f43 f44 f45 f46 f47
        have HBE := Lib.hid (HBW.out.trans (Below.mono hE (by have := HBW.out.size; omega)))
        clear hE
        go_wp2
        go_roundw
        case rel => exact ⟨k + 1, by omega, by go_num, HBE.out, fun j h h' hj => sam_up HOK.out HEQ.out h h' hj⟩
        case measure => simp [intOf]; omega
    · have HALL : Hid (xs = ys) := Lib.hid (List.ext_getElem hln fun j h h' => HOK.out j h h' (by omega))
      go_wp2
      go_ret
      exact ⟨⟨true, rfl, fun _ => HALL.out, fun _ => rfl⟩, hbel⟩
end Go.Proofs.Ytchdmemgkegefaa
