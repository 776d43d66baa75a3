/- Which remembered sets are valid: what the program says. Condition: sets that read as a list. -/
import Derived.Test.YtchdmemgkegefaaSetC
import Derived.Test.YtchdmemgkegefaaRegU
import Derived.Deep.CutBlock
namespace Go.Proofs.Ytchdmemgkegefaa
open Go.RowKit
set_option linter.unusedVariables false

def FrOk (x : Int) : Prop := 0 ≤ x ∧ x < 64
/-- one pair comes before another one -/
def Bef (a b : St) : Prop := a.fr < b.fr ∨ (a.fr = b.fr ∧ a.to < b.to)
def SlotsOk (l : List Int) : Prop := ∃ h : 0 < l.length, 0 ≤ l[0] ∧ ∀ k (hk : k + 1 < l.length), l[k] < l[k + 1]
/-- set number i is as it must be -/
def StOk (xs : List St) (i : Nat) (h : i < xs.length) : Prop := FrOk xs[i].fr ∧ FrOk xs[i].to ∧ (∀ m (hm : m + 1 = i), Bef (xs[m]'(by omega)) xs[i]) ∧ SlotsOk xs[i].slots
/-- sets are valid -/
def SetsOk (xs : List St) : Prop := ∀ i (h : i < xs.length), StOk xs i h

theorem in_any (x : Int) (w : World) : Calls Try.prog 49 #[.int .i64 x] w fun e w' => RBs e (FrOk x) ∧ w = w' := by
  go_enter Try.func49, Try.ntmps49
  go_wp2
  all_goals go_ret
  all_goals refine ⟨⟨_, rfl, ?_⟩, rfl⟩
  all_goals unfold FrOk
  all_goals first | (simp_all; done) | (simp_all; omega) | (simp_all; intros; omega)
theorem cmp_any (a b : St) (ra rb : Option Addr) (la lb ca cb : Nat) (w : World) (h1 : FrOk a.fr) (h2 : FrOk a.to) (h3 : FrOk b.fr) (h4 : FrOk b.to) :
    Calls Try.prog 55 #[.agg #[.int .i64 a.fr, .int .i64 a.to, .slice ra la ca], .agg #[.int .i64 b.fr, .int .i64 b.to, .slice rb lb cb]] w fun e w' => (∃ x : Int, e = .returned (.int .i64 x) ∧ (0 ≤ x ↔ ¬ Bef a b) ∧ (x = 0 ↔ a.fr = b.fr ∧ a.to = b.to)) ∧ Below w.heap.size w w' := by
  obtain ⟨af, ta, sa⟩ := a
  obtain ⟨bf, bt, sb⟩ := b
  unfold FrOk at h1 h2 h3 h4
  unfold Bef
  dsimp only at *
  have hw1 : IntKind.i64.wrap (af - bf) = af - bf := IntWalk.i64_in _ (by omega)
  have hw2 : IntKind.i64.wrap (ta - bt) = ta - bt := IntWalk.i64_in _ (by omega)
  have hb : ∀ o1 o2, Below w.heap.size w ((w.alloc o1).alloc o2) := fun o1 o2 => ((Below.refl _ _).alloc (Nat.le_refl _) _).alloc (by simp) _
  have HB := Lib.hid hb
  clear hb
  by_cases he : af = bf
  · have k1 : (af != bf) = false := by simp [he]
    go_enter Try.func55, Try.ntmps55
    go_wp2
    go_ret
    exact ⟨⟨_, rfl, by omega, by omega⟩, HB.out _ _⟩
  · have k1 : (af != bf) = true := by simpa using he
    go_enter Try.func55, Try.ntmps55
    go_wp2
    go_ret
    exact ⟨⟨_, rfl, by omega, by omega⟩, HB.out _ _⟩

/-- the box of a set, and the world behind the entry -/
structure VbW (p : Nat) (x : St) (ra : Option Addr) (rc : Nat) (W : World) : Prop where
  box : W.heap[p]? = some (.cells #[.int .i64 x.fr, .int .i64 x.to, .slice ra x.slots.length rc] 77 (0, 0))
theorem VbW.keep {p : Nat} {x : St} {ra : Option Addr} {rc : Nat} {W W' : World} (h : VbW p x ra rc W) (hb : Below W.heap.size W W') : VbW p x ra rc W' := ⟨below_block hb (block_lt h.box) h.box⟩
theorem VbW.cells {p : Nat} {x : St} {ra : Option Addr} {rc : Nat} {W : World} (h : VbW p x ra rc W) : W.cell? ⟨p, 0, none⟩ = some (.int .i64 x.fr) ∧ W.cell? ⟨p, 1, none⟩ = some (.int .i64 x.to) ∧ W.cell? ⟨p, 2, none⟩ = some (.slice ra x.slots.length rc) ∧ p < W.heap.size :=
  ⟨by rw [cell_block h.box]; rfl, by rw [cell_block h.box]; rfl, by rw [cell_block h.box]; rfl, block_lt h.box⟩
def CmF (a b : St) : Value → World → Prop := fun v _ => ∃ x : Int, v = .int .i64 x ∧ (0 ≤ x ↔ ¬ Bef a b)
theorem CmF.stb {E : World → World → Prop} {a b : St} : Stb E (CmF a b) := fun _ _ _ _ h => h

set_option maxRecDepth 100000 in
set_option maxHeartbeats 8000000 in
theorem valid_any18 (v : Value) (xs : List St) (w : World) (hv : Rd setE w v xs) : Calls Try.prog 27 #[v] w fun e w' => RBs e (SetsOk xs) ∧ Below w.heap.size w w' := by
  obtain ⟨a, cap, rfl, hl, hm, _⟩ := id hv
  have HV := Lib.hid hv
  clear hv
  unfold maxLen at hm
  go_enter Try.func27, Try.ntmps27
  go_wp2_with fail
  go_loopw [8] (fun i wr => ∃ k : Nat, k ≤ xs.length ∧ i = .int .i64 k ∧ Below w.heap.size w wr ∧ ∀ j (h : j < xs.length), j < k → StOk xs j h) (fun i _ => xs.length - (intOf i).toNat)
  case atStart => exact ⟨0, by omega, rfl, Below.refl _ _, fun j _ h => absurd h (Nat.not_lt_zero _)⟩
  case round =>
    obtain ⟨k, hk, rfl, hbel, hok⟩ := hrel
    have HOK := Lib.hid hok
    clear hok
    by_cases hlt : k < xs.length
    · obtain ⟨b, off, rfl⟩ := rd_addr HV.out (by omega)
      obtain ⟨hq, ra, rc, x0, x1, x2, hrs⟩ := set_cells HV.out hlt
      have y0 : wr.cell? ⟨b, off + k * 3, none⟩ = some (.int .i64 xs[k].fr) := (hbel.cell (p := ⟨b, off + k * 3, none⟩) hq).trans x0
      have y1 : wr.cell? ⟨b, off + k * 3 + 1, none⟩ = some (.int .i64 xs[k].to) := (hbel.cell (p := ⟨b, off + k * 3 + 1, none⟩) hq).trans x1
      have y2 : wr.cell? ⟨b, off + k * 3 + 2, none⟩ = some (.slice ra xs[k].slots.length rc) := (hbel.cell (p := ⟨b, off + k * 3 + 2, none⟩) hq).trans x2
      have hq2 : b < wr.heap.size := Nat.lt_of_lt_of_le hq hbel.size
      have HRS := Lib.hid hrs
      have VB : Hid (VbW wr.heap.size xs[k] ra rc (wr.alloc (.cells #[.int .i64 xs[k].fr, .int .i64 xs[k].to, .slice ra xs[k].slots.length rc] 77))) := Lib.hid ⟨heap_alloc_new _ _⟩
      have HBW := Lib.hid (hbel.alloc hbel.size (.cells #[.int .i64 xs[k].fr, .int .i64 xs[k].to, .slice ra xs[k].slots.length rc] 77))
      have hbs := hbel.size
      clear x0 x1 x2 hrs hbel
      go_upto_region 4 with (fail)
      clear y0 y1 y2
      generalize wr.alloc (.cells #[.int .i64 xs[k].fr, .int .i64 xs[k].to, .slice ra xs[k].slots.length rc] 77) = W0 at *
      generalize wr.heap.size = p at *
      by_cases hf : FrOk xs[k].fr
      · have D1 : Hid (FrOk xs[k].fr) := Lib.hid hf
        by_cases ht : FrOk xs[k].to
        · have D2 : Hid (FrOk xs[k].to) := Lib.hid ht
          by_cases hk0 : k = 0
          · subst hk0
            clear hf ht
            by_cases hs0 : xs[0].slots.length = 0
            · have k41 : ((xs[0].slots.length : Int) == 0) = true := by rw [hs0]; rfl
              have HBAD : Hid (¬ SetsOk xs) := Lib.hid fun h => by obtain ⟨h1, _⟩ := (h (0) hlt).2.2.2; omega
              clear hs0
              go_wp2_with fail
              apply wp_region_vals (by kernel_rfl) Grw (Grw.drew _) [13, 14, 15, 16, 17, 18, 19, 20, 21, 22, 23, 24, 25, 26, 27, 28, 29, 30, 31, 32, 33, 34, 35, 36, 37, 38, 39, 40, 41, 42, 43, 44, 45, 46, 47, 48, 49] [Is _, Is _, Is (.bool true), Is _, Is _, Is _, Is _, Is (.bool true), Is _, Is _, Is _, Is _, Is _, Is _, Is _, Is _, Is _, Is _, Is _, Is _, Is _, Is _, Is _, Is _, Is _, Is _, Is _, Is _, Is _, Is _, Is _, Is _, Is _, Is _, Is _, Is _, Is _] (stb_cons (Stb.is) (stb_cons (Stb.is) (stb_cons (Stb.is) (stb_cons (Stb.is) (stb_cons (Stb.is) (stb_cons (Stb.is) (stb_cons (Stb.is) (stb_cons (Stb.is) (stb_cons (Stb.is) (stb_cons (Stb.is) (stb_cons (Stb.is) (stb_cons (Stb.is) (stb_cons (Stb.is) (stb_cons (Stb.is) (stb_cons (Stb.is) (stb_cons (Stb.is) (stb_cons (Stb.is) (stb_cons (Stb.is) (stb_cons (Stb.is) (stb_cons (Stb.is) (stb_cons (Stb.is) (stb_cons (Stb.is) (stb_cons (Stb.is) (stb_cons (Stb.is) (stb_cons (Stb.is) (stb_cons (Stb.is) (stb_cons (Stb.is) (stb_cons (Stb.is) (stb_cons (Stb.is) (stb_cons (Stb.is) (stb_cons (Stb.is) (stb_cons (Stb.is) (stb_cons (Stb.is) (stb_cons (Stb.is) (stb_cons (Stb.is) (stb_cons (Stb.is) (stb_cons (Stb.is) stb_nil))))))))))))))))))))))))))))))))))))) (by kernel_rfl) (by kernel_rfl) (by kernel_rfl)
              · refine VSteps.cons (VStep.mk Grw.trans rfl rfl fun t V hout hE hdep K hK => ?_) ?_
                · skip
                  have t4 : t[4]? = some _ := hout 4 (by kernel_rfl)
                  clear hout hdep
                  go_simp
                  exact hK.out _ _ (Grw.refl _) rfl
                refine VSteps.cons (VStep.mk Grw.trans rfl rfl fun t V hout hE hdep K hK => ?_) ?_
                · skip
                  have t13 := by_is (W := V) (hdep 0 13 (by kernel_rfl))
                  clear hout hdep
                  obtain ⟨k0, k1, k2, kl⟩ := (VB.out.keep hE).cells
                  go_simp
                  exact hK.out _ _ (Grw.refl _) rfl
                refine VSteps.cons (VStep.mk Grw.trans rfl rfl fun t V hout hE hdep K hK => ?_) ?_
                · skip
                  have t14 := by_is (W := V) (hdep 1 14 (by kernel_rfl))
                  clear hout hdep
                  go_simp
                  refine (in_any _ _).mono ?_
                  rintro e W5 ⟨⟨x, rfl, hx⟩, rfl⟩
                  obtain rfl : x = true := hx.2 D1.out
                  go_simp
                  exact hK.out _ _ (Grw.refl _) rfl
                refine VSteps.cons (VStep.mk Grw.trans rfl rfl fun t V hout hE hdep K hK => ?_) ?_
                · skip
                  have t15 := by_is (W := V) (hdep 2 15 (by kernel_rfl))
                  clear hout hdep
                  go_simp
                  exact hK.out _ _ (Grw.refl _) rfl
                refine VSteps.cons (VStep.mk Grw.trans rfl rfl fun t V hout hE hdep K hK => ?_) ?_
                · skip
                  have t16 := by_is (W := V) (hdep 3 16 (by kernel_rfl))
                  clear hout hdep
                  go_simp
                  exact hK.out _ _ (Grw.refl _) rfl
                refine VSteps.cons (VStep.mkG Grw.trans (dg := 17) rfl rfl (by kernel_rfl) (fun _ _ h => h) fun t V hout hE hdep K hK => ?_) ?_
                · skip
                  have t4 : t[4]? = some _ := hout 4 (by kernel_rfl)
                  clear hout hdep
                  go_simp
                  exact hK.out _ _ (Grw.refl _) rfl
                refine VSteps.cons (VStep.mkG Grw.trans (dg := 17) rfl rfl (by kernel_rfl) (fun _ _ h => h) fun t V hout hE hdep K hK => ?_) ?_
                · skip
                  have t18 := by_is (W := V) (hdep 5 18 (by kernel_rfl))
                  clear hout hdep
                  obtain ⟨k0, k1, k2, kl⟩ := (VB.out.keep hE).cells
                  go_simp
                  exact hK.out _ _ (Grw.refl _) rfl
                refine VSteps.cons (VStep.mkG Grw.trans (dg := 17) rfl rfl (by kernel_rfl) (fun _ _ h => h) fun t V hout hE hdep K hK => ?_) ?_
                · skip
                  have t19 := by_is (W := V) (hdep 6 19 (by kernel_rfl))
                  clear hout hdep
                  go_simp
                  refine (in_any _ _).mono ?_
                  rintro e W5 ⟨⟨x, rfl, hx⟩, rfl⟩
                  obtain rfl : x = true := hx.2 D2.out
                  go_simp
                  exact hK.out _ _ (Grw.refl _) rfl
                refine VSteps.cons (VStep.mkG Grw.trans (dg := 17) rfl rfl (by kernel_rfl) (fun _ _ h => h) fun t V hout hE hdep K hK => ?_) ?_
                · skip
                  have t20 := by_is (W := V) (hdep 7 20 (by kernel_rfl))
                  clear hout hdep
                  go_simp
                  exact hK.out _ _ (Grw.refl _) rfl
                refine VSteps.cons (VStep.mk Grw.trans rfl rfl fun t V hout hE hdep K hK => ?_) ?_
                · skip
                  have t17 := by_is (W := V) (hdep 4 17 (by kernel_rfl))
                  have t21 := by_is (W := V) (hdep 8 21 (by kernel_rfl))
                  clear hout hdep
                  go_simp
                  exact hK.out _ _ (Grw.refl _) rfl
                refine VSteps.cons (VStep.mk Grw.trans rfl rfl fun t V hout hE hdep K hK => ?_) ?_
                · skip
                  have t22 := by_is (W := V) (hdep 9 22 (by kernel_rfl))
                  clear hout hdep
                  go_simp
                  exact hK.out _ _ (Grw.refl _) rfl
                refine VSteps.cons (VStep.mkG Grw.trans (dg := 23) rfl rfl (by kernel_rfl) (fun _ _ h => h) fun t V hout hE hdep K hK => ?_) ?_
                · skip
                  have t3 : t[3]? = some _ := hout 3 (by kernel_rfl)
                  clear hout hdep
                  go_simp
                  exact hK.out _ _ (Grw.refl _) rfl
                refine VSteps.cons (VStep.mkG Grw.trans (dg := 23) rfl rfl (by kernel_rfl) (fun _ _ h => h) fun t V hout hE hdep K hK => ?_) ?_
                · skip
                  have t24 := by_is (W := V) (hdep 11 24 (by kernel_rfl))
                  clear hout hdep
                  go_simp
                  exact hK.out _ _ (Grw.refl _) rfl
                refine VSteps.cons (VStep.mkG Grw.trans (dg := 23) rfl rfl (by kernel_rfl) (fun _ _ h => h) fun t V hout hE hdep K hK => ?_) ?_
                · skip
                  have t25 := by_is (W := V) (hdep 12 25 (by kernel_rfl))
                  clear hout hdep
                  go_simp
                  exact hK.out _ _ (Grw.refl _) rfl
                refine VSteps.cons (VStep.mkN Grw.refl (dg := 26) rfl rfl (by kernel_rfl) (fun _ _ h => h) (fun _ => rfl)) ?_
                refine VSteps.cons (VStep.mkN Grw.refl (dg := 26) rfl rfl (by kernel_rfl) (fun _ _ h => h) (fun _ => rfl)) ?_
                refine VSteps.cons (VStep.mkN Grw.refl (dg := 26) rfl rfl (by kernel_rfl) (fun _ _ h => h) (fun _ => rfl)) ?_
                refine VSteps.cons (VStep.mkN Grw.refl (dg := 26) rfl rfl (by kernel_rfl) (fun _ _ h => h) (fun _ => rfl)) ?_
                refine VSteps.cons (VStep.mkN Grw.refl (dg := 26) rfl rfl (by kernel_rfl) (fun _ _ h => h) (fun _ => rfl)) ?_
                refine VSteps.cons (VStep.mkN Grw.refl (dg := 26) rfl rfl (by kernel_rfl) (fun _ _ h => h) (fun _ => rfl)) ?_
                refine VSteps.cons (VStep.mkN Grw.refl (dg := 26) rfl rfl (by kernel_rfl) (fun _ _ h => h) (fun _ => rfl)) ?_
                refine VSteps.cons (VStep.mkN Grw.refl (dg := 26) rfl rfl (by kernel_rfl) (fun _ _ h => h) (fun _ => rfl)) ?_
                refine VSteps.cons (VStep.mkG Grw.trans (dg := 23) rfl rfl (by kernel_rfl) (fun _ _ h => h) fun t V hout hE hdep K hK => ?_) ?_
                · skip
                  have t26 := by_is (W := V) (hdep 13 26 (by kernel_rfl))
                  have t34 := by_is (W := V) (hdep 21 34 (by kernel_rfl))
                  clear hout hdep
                  go_simp
                  exact hK.out _ _ (Grw.refl _) rfl
                refine VSteps.cons (VStep.mk Grw.trans rfl rfl fun t V hout hE hdep K hK => ?_) ?_
                · skip
                  have t23 := by_is (W := V) (hdep 10 23 (by kernel_rfl))
                  have t35 := by_is (W := V) (hdep 22 35 (by kernel_rfl))
                  clear hout hdep
                  go_simp
                  exact hK.out _ _ (Grw.refl _) rfl
                refine VSteps.cons (VStep.mk Grw.trans rfl rfl fun t V hout hE hdep K hK => ?_) ?_
                · skip
                  have t36 := by_is (W := V) (hdep 23 36 (by kernel_rfl))
                  clear hout hdep
                  go_simp
                  exact hK.out _ _ (Grw.refl _) rfl
                refine VSteps.cons (VStep.mkG Grw.trans (dg := 37) rfl rfl (by kernel_rfl) (fun _ _ h => h) fun t V hout hE hdep K hK => ?_) ?_
                · skip
                  have t4 : t[4]? = some _ := hout 4 (by kernel_rfl)
                  clear hout hdep
                  go_simp
                  exact hK.out _ _ (Grw.refl _) rfl
                refine VSteps.cons (VStep.mkG Grw.trans (dg := 37) rfl rfl (by kernel_rfl) (fun _ _ h => h) fun t V hout hE hdep K hK => ?_) ?_
                · skip
                  have t38 := by_is (W := V) (hdep 25 38 (by kernel_rfl))
                  clear hout hdep
                  obtain ⟨k0, k1, k2, kl⟩ := (VB.out.keep hE).cells
                  go_simp
                  exact hK.out _ _ (Grw.refl _) rfl
                refine VSteps.cons (VStep.mkG Grw.trans (dg := 37) rfl rfl (by kernel_rfl) (fun _ _ h => h) fun t V hout hE hdep K hK => ?_) ?_
                · skip
                  have t39 := by_is (W := V) (hdep 26 39 (by kernel_rfl))
                  clear hout hdep
                  go_simp
                  exact hK.out _ _ (Grw.refl _) rfl
                refine VSteps.cons (VStep.mkG Grw.trans (dg := 37) rfl rfl (by kernel_rfl) (fun _ _ h => h) fun t V hout hE hdep K hK => ?_) ?_
                · skip
                  have t40 := by_is (W := V) (hdep 27 40 (by kernel_rfl))
                  clear hout hdep
                  go_simp
                  exact hK.out _ _ (Grw.refl _) rfl
                refine VSteps.cons (VStep.mk Grw.trans rfl rfl fun t V hout hE hdep K hK => ?_) ?_
                · skip
                  have t37 := by_is (W := V) (hdep 24 37 (by kernel_rfl))
                  have t41 := by_is (W := V) (hdep 28 41 (by kernel_rfl))
                  clear hout hdep
                  go_simp
                  exact hK.out _ _ (Grw.refl _) rfl
                refine VSteps.cons (VStep.mk Grw.trans rfl rfl fun t V hout hE hdep K hK => ?_) ?_
                · skip
                  have t42 := by_is (W := V) (hdep 29 42 (by kernel_rfl))
                  clear hout hdep
                  go_simp
                  exact hK.out _ _ (Grw.refl _) rfl
                refine VSteps.cons (VStep.mkN Grw.refl (dg := 43) rfl rfl (by kernel_rfl) (fun _ _ h => h) (fun _ => rfl)) ?_
                refine VSteps.cons (VStep.mkN Grw.refl (dg := 43) rfl rfl (by kernel_rfl) (fun _ _ h => h) (fun _ => rfl)) ?_
                refine VSteps.cons (VStep.mkN Grw.refl (dg := 43) rfl rfl (by kernel_rfl) (fun _ _ h => h) (fun _ => rfl)) ?_
                refine VSteps.cons (VStep.mkN Grw.refl (dg := 43) rfl rfl (by kernel_rfl) (fun _ _ h => h) (fun _ => rfl)) ?_
                refine VSteps.cons (VStep.mkN Grw.refl (dg := 43) rfl rfl (by kernel_rfl) (fun _ _ h => h) (fun _ => rfl)) ?_
                refine VSteps.cons (VStep.mk Grw.trans rfl rfl fun t V hout hE hdep K hK => ?_) ?_
                · skip
                  have t43 := by_is (W := V) (hdep 30 43 (by kernel_rfl))
                  have t48 := by_is (W := V) (hdep 35 48 (by kernel_rfl))
                  clear hout hdep
                  go_simp
                  exact hK.out _ _ (Grw.refl _) rfl
                exact VSteps.nil (by decide)
              · intro f W hE hF
                have f13 : f 13 = _ := hF 0 13 (by kernel_rfl)
                have f14 : f 14 = _ := hF 1 14 (by kernel_rfl)
                have f15 : f 15 = _ := hF 2 15 (by kernel_rfl)
                have f16 : f 16 = _ := hF 3 16 (by kernel_rfl)
                have f17 : f 17 = _ := hF 4 17 (by kernel_rfl)
                have f18 : f 18 = _ := hF 5 18 (by kernel_rfl)
                have f19 : f 19 = _ := hF 6 19 (by kernel_rfl)
                have f20 : f 20 = _ := hF 7 20 (by kernel_rfl)
                have f21 : f 21 = _ := hF 8 21 (by kernel_rfl)
                have f22 : f 22 = _ := hF 9 22 (by kernel_rfl)
                have f23 : f 23 = _ := hF 10 23 (by kernel_rfl)
                have f24 : f 24 = _ := hF 11 24 (by kernel_rfl)
                have f25 : f 25 = _ := hF 12 25 (by kernel_rfl)
                have f26 : f 26 = _ := hF 13 26 (by kernel_rfl)
                have f27 : f 27 = _ := hF 14 27 (by kernel_rfl)
                have f28 : f 28 = _ := hF 15 28 (by kernel_rfl)
                have f29 : f 29 = _ := hF 16 29 (by kernel_rfl)
                have f30 : f 30 = _ := hF 17 30 (by kernel_rfl)
                have f31 : f 31 = _ := hF 18 31 (by kernel_rfl)
                have f32 : f 32 = _ := hF 19 32 (by kernel_rfl)
                have f33 : f 33 = _ := hF 20 33 (by kernel_rfl)
                have f34 : f 34 = _ := hF 21 34 (by kernel_rfl)
                have f35 : f 35 = _ := hF 22 35 (by kernel_rfl)
                have f36 : f 36 = _ := hF 23 36 (by kernel_rfl)
                have f37 : f 37 = _ := hF 24 37 (by kernel_rfl)
                have f38 : f 38 = _ := hF 25 38 (by kernel_rfl)
                have f39 : f 39 = _ := hF 26 39 (by kernel_rfl)
                have f40 : f 40 = _ := hF 27 40 (by kernel_rfl)
                have f41 : f 41 = _ := hF 28 41 (by kernel_rfl)
                have f42 : f 42 = _ := hF 29 42 (by kernel_rfl)
                have f43 : f 43 = _ := hF 30 43 (by kernel_rfl)
                have f44 : f 44 = _ := hF 31 44 (by kernel_rfl)
                have f45 : f 45 = _ := hF 32 45 (by kernel_rfl)
                have f46 : f 46 = _ := hF 33 46 (by kernel_rfl)
                have f47 : f 47 = _ := hF 34 47 (by kernel_rfl)
                have f48 : f 48 = _ := hF 35 48 (by kernel_rfl)
                have f49 : f 49 = _ := hF 36 49 (by kernel_rfl)
                simp only [setAllV, List.map_cons, List.map_nil, List.set_cons_succ, List.set_cons_zero, f13, f14, f15, f16, f17, f18, f19, f20, f21, f22, f23, f24, f25, f26, f27, f28, f29, f30, f31, f32, f33, f34, f35, f36, f37, f38, f39, f40, f41, f42, f43, f44, f45, f46, f47, f48, f49]
                clear hF f13 f14 f15 f16 f17 f18 f19 f20 f21 f22 f23 f24 f25 f26 f27 f28 f29 f30 f31 f32 f33 f34 f35 f36 f37 f38 f39 f40 f41 f42 f43 f44 f45 f46 f47 f48 f49
                have HBE := Lib.hid (HBW.out.trans (Below.mono hE (by have := HBW.out.size; omega)))
                clear hE
                go_wp2
                go_ret
                exact ⟨⟨false, rfl, fun h => (by cases h), fun h => absurd h HBAD.out⟩, HBE.out⟩
            · have k41 : ((xs[0].slots.length : Int) == 0) = false := beq_eq_false_iff_ne.2 (by omega)
              have hpos : (0 : Int) < xs[0].slots.length := by omega
              have hps : 0 < xs[0].slots.length := by omega
              have hsm : xs[0].slots.length ≤ 9223372036854775807 := by
                obtain ⟨_, _, _, g1, g2, _⟩ := HRS.out
                unfold maxLen at g2
                omega
              obtain ⟨sb, so, rfl⟩ := rd_addr HRS.out hps
              have HSC : Hid (∀ V, Below w.heap.size w V → ∀ t (h : t < xs[0].slots.length), V.cell? ⟨sb, so + t, none⟩ = some (.int .i64 (xs[0].slots[t])) ∧ sb < V.heap.size) := Lib.hid fun V hV t h => by
                obtain ⟨g1, g2⟩ := int_cells HRS.out h
                exact ⟨(hV.cell (p := ⟨sb, so + t, none⟩) g1).trans g2, Nat.lt_of_lt_of_le g1 hV.size⟩
              have HS0 : Hid (∀ V, Below w.heap.size w V → V.cell? ⟨sb, so, none⟩ = some (.int .i64 (xs[0].slots[0])) ∧ sb < V.heap.size) := Lib.hid fun V hV => HSC.out V hV 0 hps
              clear hs0
              by_cases h0 : xs[0].slots[0] < 0
              · have k48 : decide (xs[0].slots[0] < 0) = true := by simpa using h0
                have HBAD : Hid (¬ SetsOk xs) := Lib.hid fun h => by obtain ⟨h1, h2, _⟩ := (h (0) hlt).2.2.2; omega
                clear h0
                go_wp2_with fail
                apply wp_region_vals (by kernel_rfl) Grw (Grw.drew _) [13, 14, 15, 16, 17, 18, 19, 20, 21, 22, 23, 24, 25, 26, 27, 28, 29, 30, 31, 32, 33, 34, 35, 36, 37, 38, 39, 40, 41, 42, 43, 44, 45, 46, 47, 48, 49] [Is _, Is _, Is (.bool true), Is _, Is _, Is _, Is _, Is (.bool true), Is _, Is _, Is _, Is _, Is _, Is _, Is _, Is _, Is _, Is _, Is _, Is _, Is _, Is _, Is _, Is _, Is _, Is _, Is _, Is _, Is _, Is _, Is _, Is _, Is _, Is _, Is _, Is _, Is _] (stb_cons (Stb.is) (stb_cons (Stb.is) (stb_cons (Stb.is) (stb_cons (Stb.is) (stb_cons (Stb.is) (stb_cons (Stb.is) (stb_cons (Stb.is) (stb_cons (Stb.is) (stb_cons (Stb.is) (stb_cons (Stb.is) (stb_cons (Stb.is) (stb_cons (Stb.is) (stb_cons (Stb.is) (stb_cons (Stb.is) (stb_cons (Stb.is) (stb_cons (Stb.is) (stb_cons (Stb.is) (stb_cons (Stb.is) (stb_cons (Stb.is) (stb_cons (Stb.is) (stb_cons (Stb.is) (stb_cons (Stb.is) (stb_cons (Stb.is) (stb_cons (Stb.is) (stb_cons (Stb.is) (stb_cons (Stb.is) (stb_cons (Stb.is) (stb_cons (Stb.is) (stb_cons (Stb.is) (stb_cons (Stb.is) (stb_cons (Stb.is) (stb_cons (Stb.is) (stb_cons (Stb.is) (stb_cons (Stb.is) (stb_cons (Stb.is) (stb_cons (Stb.is) (stb_cons (Stb.is) stb_nil))))))))))))))))))))))))))))))))))))) (by kernel_rfl) (by kernel_rfl) (by kernel_rfl)
                · refine VSteps.cons (VStep.mk Grw.trans rfl rfl fun t V hout hE hdep K hK => ?_) ?_
                  · skip
                    have t4 : t[4]? = some _ := hout 4 (by kernel_rfl)
                    clear hout hdep
                    go_simp
                    exact hK.out _ _ (Grw.refl _) rfl
                  refine VSteps.cons (VStep.mk Grw.trans rfl rfl fun t V hout hE hdep K hK => ?_) ?_
                  · skip
                    have t13 := by_is (W := V) (hdep 0 13 (by kernel_rfl))
                    clear hout hdep
                    obtain ⟨k0, k1, k2, kl⟩ := (VB.out.keep hE).cells
                    go_simp
                    exact hK.out _ _ (Grw.refl _) rfl
                  refine VSteps.cons (VStep.mk Grw.trans rfl rfl fun t V hout hE hdep K hK => ?_) ?_
                  · skip
                    have t14 := by_is (W := V) (hdep 1 14 (by kernel_rfl))
                    clear hout hdep
                    go_simp
                    refine (in_any _ _).mono ?_
                    rintro e W5 ⟨⟨x, rfl, hx⟩, rfl⟩
                    obtain rfl : x = true := hx.2 D1.out
                    go_simp
                    exact hK.out _ _ (Grw.refl _) rfl
                  refine VSteps.cons (VStep.mk Grw.trans rfl rfl fun t V hout hE hdep K hK => ?_) ?_
                  · skip
                    have t15 := by_is (W := V) (hdep 2 15 (by kernel_rfl))
                    clear hout hdep
                    go_simp
                    exact hK.out _ _ (Grw.refl _) rfl
                  refine VSteps.cons (VStep.mk Grw.trans rfl rfl fun t V hout hE hdep K hK => ?_) ?_
                  · skip
                    have t16 := by_is (W := V) (hdep 3 16 (by kernel_rfl))
                    clear hout hdep
                    go_simp
                    exact hK.out _ _ (Grw.refl _) rfl
                  refine VSteps.cons (VStep.mkG Grw.trans (dg := 17) rfl rfl (by kernel_rfl) (fun _ _ h => h) fun t V hout hE hdep K hK => ?_) ?_
                  · skip
                    have t4 : t[4]? = some _ := hout 4 (by kernel_rfl)
                    clear hout hdep
                    go_simp
                    exact hK.out _ _ (Grw.refl _) rfl
                  refine VSteps.cons (VStep.mkG Grw.trans (dg := 17) rfl rfl (by kernel_rfl) (fun _ _ h => h) fun t V hout hE hdep K hK => ?_) ?_
                  · skip
                    have t18 := by_is (W := V) (hdep 5 18 (by kernel_rfl))
                    clear hout hdep
                    obtain ⟨k0, k1, k2, kl⟩ := (VB.out.keep hE).cells
                    go_simp
                    exact hK.out _ _ (Grw.refl _) rfl
                  refine VSteps.cons (VStep.mkG Grw.trans (dg := 17) rfl rfl (by kernel_rfl) (fun _ _ h => h) fun t V hout hE hdep K hK => ?_) ?_
                  · skip
                    have t19 := by_is (W := V) (hdep 6 19 (by kernel_rfl))
                    clear hout hdep
                    go_simp
                    refine (in_any _ _).mono ?_
                    rintro e W5 ⟨⟨x, rfl, hx⟩, rfl⟩
                    obtain rfl : x = true := hx.2 D2.out
                    go_simp
                    exact hK.out _ _ (Grw.refl _) rfl
                  refine VSteps.cons (VStep.mkG Grw.trans (dg := 17) rfl rfl (by kernel_rfl) (fun _ _ h => h) fun t V hout hE hdep K hK => ?_) ?_
                  · skip
                    have t20 := by_is (W := V) (hdep 7 20 (by kernel_rfl))
                    clear hout hdep
                    go_simp
                    exact hK.out _ _ (Grw.refl _) rfl
                  refine VSteps.cons (VStep.mk Grw.trans rfl rfl fun t V hout hE hdep K hK => ?_) ?_
                  · skip
                    have t17 := by_is (W := V) (hdep 4 17 (by kernel_rfl))
                    have t21 := by_is (W := V) (hdep 8 21 (by kernel_rfl))
                    clear hout hdep
                    go_simp
                    exact hK.out _ _ (Grw.refl _) rfl
                  refine VSteps.cons (VStep.mk Grw.trans rfl rfl fun t V hout hE hdep K hK => ?_) ?_
                  · skip
                    have t22 := by_is (W := V) (hdep 9 22 (by kernel_rfl))
                    clear hout hdep
                    go_simp
                    exact hK.out _ _ (Grw.refl _) rfl
                  refine VSteps.cons (VStep.mkG Grw.trans (dg := 23) rfl rfl (by kernel_rfl) (fun _ _ h => h) fun t V hout hE hdep K hK => ?_) ?_
                  · skip
                    have t3 : t[3]? = some _ := hout 3 (by kernel_rfl)
                    clear hout hdep
                    go_simp
                    exact hK.out _ _ (Grw.refl _) rfl
                  refine VSteps.cons (VStep.mkG Grw.trans (dg := 23) rfl rfl (by kernel_rfl) (fun _ _ h => h) fun t V hout hE hdep K hK => ?_) ?_
                  · skip
                    have t24 := by_is (W := V) (hdep 11 24 (by kernel_rfl))
                    clear hout hdep
                    go_simp
                    exact hK.out _ _ (Grw.refl _) rfl
                  refine VSteps.cons (VStep.mkG Grw.trans (dg := 23) rfl rfl (by kernel_rfl) (fun _ _ h => h) fun t V hout hE hdep K hK => ?_) ?_
                  · skip
                    have t25 := by_is (W := V) (hdep 12 25 (by kernel_rfl))
                    clear hout hdep
                    go_simp
                    exact hK.out _ _ (Grw.refl _) rfl
                  refine VSteps.cons (VStep.mkN Grw.refl (dg := 26) rfl rfl (by kernel_rfl) (fun _ _ h => h) (fun _ => rfl)) ?_
                  refine VSteps.cons (VStep.mkN Grw.refl (dg := 26) rfl rfl (by kernel_rfl) (fun _ _ h => h) (fun _ => rfl)) ?_
                  refine VSteps.cons (VStep.mkN Grw.refl (dg := 26) rfl rfl (by kernel_rfl) (fun _ _ h => h) (fun _ => rfl)) ?_
                  refine VSteps.cons (VStep.mkN Grw.refl (dg := 26) rfl rfl (by kernel_rfl) (fun _ _ h => h) (fun _ => rfl)) ?_
                  refine VSteps.cons (VStep.mkN Grw.refl (dg := 26) rfl rfl (by kernel_rfl) (fun _ _ h => h) (fun _ => rfl)) ?_
                  refine VSteps.cons (VStep.mkN Grw.refl (dg := 26) rfl rfl (by kernel_rfl) (fun _ _ h => h) (fun _ => rfl)) ?_
                  refine VSteps.cons (VStep.mkN Grw.refl (dg := 26) rfl rfl (by kernel_rfl) (fun _ _ h => h) (fun _ => rfl)) ?_
                  refine VSteps.cons (VStep.mkN Grw.refl (dg := 26) rfl rfl (by kernel_rfl) (fun _ _ h => h) (fun _ => rfl)) ?_
                  refine VSteps.cons (VStep.mkG Grw.trans (dg := 23) rfl rfl (by kernel_rfl) (fun _ _ h => h) fun t V hout hE hdep K hK => ?_) ?_
                  · skip
                    have t26 := by_is (W := V) (hdep 13 26 (by kernel_rfl))
                    have t34 := by_is (W := V) (hdep 21 34 (by kernel_rfl))
                    clear hout hdep
                    go_simp
                    exact hK.out _ _ (Grw.refl _) rfl
                  refine VSteps.cons (VStep.mk Grw.trans rfl rfl fun t V hout hE hdep K hK => ?_) ?_
                  · skip
                    have t23 := by_is (W := V) (hdep 10 23 (by kernel_rfl))
                    have t35 := by_is (W := V) (hdep 22 35 (by kernel_rfl))
                    clear hout hdep
                    go_simp
                    exact hK.out _ _ (Grw.refl _) rfl
                  refine VSteps.cons (VStep.mk Grw.trans rfl rfl fun t V hout hE hdep K hK => ?_) ?_
                  · skip
                    have t36 := by_is (W := V) (hdep 23 36 (by kernel_rfl))
                    clear hout hdep
                    go_simp
                    exact hK.out _ _ (Grw.refl _) rfl
                  refine VSteps.cons (VStep.mkG Grw.trans (dg := 37) rfl rfl (by kernel_rfl) (fun _ _ h => h) fun t V hout hE hdep K hK => ?_) ?_
                  · skip
                    have t4 : t[4]? = some _ := hout 4 (by kernel_rfl)
                    clear hout hdep
                    go_simp
                    exact hK.out _ _ (Grw.refl _) rfl
                  refine VSteps.cons (VStep.mkG Grw.trans (dg := 37) rfl rfl (by kernel_rfl) (fun _ _ h => h) fun t V hout hE hdep K hK => ?_) ?_
                  · skip
                    have t38 := by_is (W := V) (hdep 25 38 (by kernel_rfl))
                    clear hout hdep
                    obtain ⟨k0, k1, k2, kl⟩ := (VB.out.keep hE).cells
                    go_simp
                    exact hK.out _ _ (Grw.refl _) rfl
                  refine VSteps.cons (VStep.mkG Grw.trans (dg := 37) rfl rfl (by kernel_rfl) (fun _ _ h => h) fun t V hout hE hdep K hK => ?_) ?_
                  · skip
                    have t39 := by_is (W := V) (hdep 26 39 (by kernel_rfl))
                    clear hout hdep
                    go_simp
                    exact hK.out _ _ (Grw.refl _) rfl
                  refine VSteps.cons (VStep.mkG Grw.trans (dg := 37) rfl rfl (by kernel_rfl) (fun _ _ h => h) fun t V hout hE hdep K hK => ?_) ?_
                  · skip
                    have t40 := by_is (W := V) (hdep 27 40 (by kernel_rfl))
                    clear hout hdep
                    go_simp
                    exact hK.out _ _ (Grw.refl _) rfl
                  refine VSteps.cons (VStep.mk Grw.trans rfl rfl fun t V hout hE hdep K hK => ?_) ?_
                  · skip
                    have t37 := by_is (W := V) (hdep 24 37 (by kernel_rfl))
                    have t41 := by_is (W := V) (hdep 28 41 (by kernel_rfl))
                    clear hout hdep
                    go_simp
                    exact hK.out _ _ (Grw.refl _) rfl
                  refine VSteps.cons (VStep.mk Grw.trans rfl rfl fun t V hout hE hdep K hK => ?_) ?_
                  · skip
                    have t42 := by_is (W := V) (hdep 29 42 (by kernel_rfl))
                    clear hout hdep
                    go_simp
                    exact hK.out _ _ (Grw.refl _) rfl
                  refine VSteps.cons (VStep.mkG Grw.trans (dg := 43) rfl rfl (by kernel_rfl) (fun _ _ h => h) fun t V hout hE hdep K hK => ?_) ?_
                  · skip
                    have t4 : t[4]? = some _ := hout 4 (by kernel_rfl)
                    clear hout hdep
                    go_simp
                    exact hK.out _ _ (Grw.refl _) rfl
                  refine VSteps.cons (VStep.mkG Grw.trans (dg := 43) rfl rfl (by kernel_rfl) (fun _ _ h => h) fun t V hout hE hdep K hK => ?_) ?_
                  · skip
                    have t44 := by_is (W := V) (hdep 31 44 (by kernel_rfl))
                    clear hout hdep
                    obtain ⟨k0, k1, k2, kl⟩ := (VB.out.keep hE).cells
                    go_simp
                    exact hK.out _ _ (Grw.refl _) rfl
                  refine VSteps.cons (VStep.mkG Grw.trans (dg := 43) rfl rfl (by kernel_rfl) (fun _ _ h => h) fun t V hout hE hdep K hK => ?_) ?_
                  · skip
                    have t45 := by_is (W := V) (hdep 32 45 (by kernel_rfl))
                    clear hout hdep
                    go_simp
                    exact hK.out _ _ (Grw.refl _) rfl
                  refine VSteps.cons (VStep.mkG Grw.trans (dg := 43) rfl rfl (by kernel_rfl) (fun _ _ h => h) fun t V hout hE hdep K hK => ?_) ?_
                  · skip
                    have t46 := by_is (W := V) (hdep 33 46 (by kernel_rfl))
                    clear hout hdep
                    obtain ⟨s0, sl⟩ := HS0.out V (HBW.out.trans (Below.mono hE (by have := HBW.out.size; omega)))
                    go_simp
                    exact hK.out _ _ (Grw.refl _) rfl
                  refine VSteps.cons (VStep.mkG Grw.trans (dg := 43) rfl rfl (by kernel_rfl) (fun _ _ h => h) fun t V hout hE hdep K hK => ?_) ?_
                  · skip
                    have t47 := by_is (W := V) (hdep 34 47 (by kernel_rfl))
                    clear hout hdep
                    go_simp
                    exact hK.out _ _ (Grw.refl _) rfl
                  refine VSteps.cons (VStep.mk Grw.trans rfl rfl fun t V hout hE hdep K hK => ?_) ?_
                  · skip
                    have t43 := by_is (W := V) (hdep 30 43 (by kernel_rfl))
                    have t48 := by_is (W := V) (hdep 35 48 (by kernel_rfl))
                    clear hout hdep
                    go_simp
                    exact hK.out _ _ (Grw.refl _) rfl
                  exact VSteps.nil (by decide)
                · intro f W hE hF
                  have f13 : f 13 = _ := hF 0 13 (by kernel_rfl)
                  have f14 : f 14 = _ := hF 1 14 (by kernel_rfl)
                  have f15 : f 15 = _ := hF 2 15 (by kernel_rfl)
                  have f16 : f 16 = _ := hF 3 16 (by kernel_rfl)
                  have f17 : f 17 = _ := hF 4 17 (by kernel_rfl)
                  have f18 : f 18 = _ := hF 5 18 (by kernel_rfl)
                  have f19 : f 19 = _ := hF 6 19 (by kernel_rfl)
                  have f20 : f 20 = _ := hF 7 20 (by kernel_rfl)
                  have f21 : f 21 = _ := hF 8 21 (by kernel_rfl)
                  have f22 : f 22 = _ := hF 9 22 (by kernel_rfl)
                  have f23 : f 23 = _ := hF 10 23 (by kernel_rfl)
                  have f24 : f 24 = _ := hF 11 24 (by kernel_rfl)
                  have f25 : f 25 = _ := hF 12 25 (by kernel_rfl)
                  have f26 : f 26 = _ := hF 13 26 (by kernel_rfl)
                  have f27 : f 27 = _ := hF 14 27 (by kernel_rfl)
                  have f28 : f 28 = _ := hF 15 28 (by kernel_rfl)
                  have f29 : f 29 = _ := hF 16 29 (by kernel_rfl)
                  have f30 : f 30 = _ := hF 17 30 (by kernel_rfl)
                  have f31 : f 31 = _ := hF 18 31 (by kernel_rfl)
                  have f32 : f 32 = _ := hF 19 32 (by kernel_rfl)
                  have f33 : f 33 = _ := hF 20 33 (by kernel_rfl)
                  have f34 : f 34 = _ := hF 21 34 (by kernel_rfl)
                  have f35 : f 35 = _ := hF 22 35 (by kernel_rfl)
                  have f36 : f 36 = _ := hF 23 36 (by kernel_rfl)
                  have f37 : f 37 = _ := hF 24 37 (by kernel_rfl)
                  have f38 : f 38 = _ := hF 25 38 (by kernel_rfl)
                  have f39 : f 39 = _ := hF 26 39 (by kernel_rfl)
                  have f40 : f 40 = _ := hF 27 40 (by kernel_rfl)
                  have f41 : f 41 = _ := hF 28 41 (by kernel_rfl)
                  have f42 : f 42 = _ := hF 29 42 (by kernel_rfl)
                  have f43 : f 43 = _ := hF 30 43 (by kernel_rfl)
                  have f44 : f 44 = _ := hF 31 44 (by kernel_rfl)
                  have f45 : f 45 = _ := hF 32 45 (by kernel_rfl)
                  have f46 : f 46 = _ := hF 33 46 (by kernel_rfl)
                  have f47 : f 47 = _ := hF 34 47 (by kernel_rfl)
                  have f48 : f 48 = _ := hF 35 48 (by kernel_rfl)
                  have f49 : f 49 = _ := hF 36 49 (by kernel_rfl)
                  simp only [setAllV, List.map_cons, List.map_nil, List.set_cons_succ, List.set_cons_zero, f13, f14, f15, f16, f17, f18, f19, f20, f21, f22, f23, f24, f25, f26, f27, f28, f29, f30, f31, f32, f33, f34, f35, f36, f37, f38, f39, f40, f41, f42, f43, f44, f45, f46, f47, f48, f49]
                  clear hF f13 f14 f15 f16 f17 f18 f19 f20 f21 f22 f23 f24 f25 f26 f27 f28 f29 f30 f31 f32 f33 f34 f35 f36 f37 f38 f39 f40 f41 f42 f43 f44 f45 f46 f47 f48 f49
                  have HBE := Lib.hid (HBW.out.trans (Below.mono hE (by have := HBW.out.size; omega)))
                  clear hE
                  go_wp2
                  go_ret
                  exact ⟨⟨false, rfl, fun h => (by cases h), fun h => absurd h HBAD.out⟩, HBE.out⟩
              · have k48 : decide (xs[0].slots[0] < 0) = false := by simpa using h0
                have H0 : Hid (0 ≤ xs[0].slots[0]) := Lib.hid (by omega)
                clear h0
                go_wp2_with fail
                apply wp_region_vals (by kernel_rfl) Grw (Grw.drew _) [13, 14, 15, 16, 17, 18, 19, 20, 21, 22, 23, 24, 25, 26, 27, 28, 29, 30, 31, 32, 33, 34, 35, 36, 37, 38, 39, 40, 41, 42, 43, 44, 45, 46, 47, 48, 49] [Is _, Is _, Is (.bool true), Is _, Is _, Is _, Is _, Is (.bool true), Is _, Is _, Is _, Is _, Is _, Is _, Is _, Is _, Is _, Is _, Is _, Is _, Is _, Is _, Is _, Is _, Is _, Is _, Is _, Is _, Is _, Is _, Is _, Is _, Is _, Is _, Is _, Is _, Is _] (stb_cons (Stb.is) (stb_cons (Stb.is) (stb_cons (Stb.is) (stb_cons (Stb.is) (stb_cons (Stb.is) (stb_cons (Stb.is) (stb_cons (Stb.is) (stb_cons (Stb.is) (stb_cons (Stb.is) (stb_cons (Stb.is) (stb_cons (Stb.is) (stb_cons (Stb.is) (stb_cons (Stb.is) (stb_cons (Stb.is) (stb_cons (Stb.is) (stb_cons (Stb.is) (stb_cons (Stb.is) (stb_cons (Stb.is) (stb_cons (Stb.is) (stb_cons (Stb.is) (stb_cons (Stb.is) (stb_cons (Stb.is) (stb_cons (Stb.is) (stb_cons (Stb.is) (stb_cons (Stb.is) (stb_cons (Stb.is) (stb_cons (Stb.is) (stb_cons (Stb.is) (stb_cons (Stb.is) (stb_cons (Stb.is) (stb_cons (Stb.is) (stb_cons (Stb.is) (stb_cons (Stb.is) (stb_cons (Stb.is) (stb_cons (Stb.is) (stb_cons (Stb.is) (stb_cons (Stb.is) stb_nil))))))))))))))))))))))))))))))))))))) (by kernel_rfl) (by kernel_rfl) (by kernel_rfl)
                · refine VSteps.cons (VStep.mk Grw.trans rfl rfl fun t V hout hE hdep K hK => ?_) ?_
                  · skip
                    have t4 : t[4]? = some _ := hout 4 (by kernel_rfl)
                    clear hout hdep
                    go_simp
                    exact hK.out _ _ (Grw.refl _) rfl
                  refine VSteps.cons (VStep.mk Grw.trans rfl rfl fun t V hout hE hdep K hK => ?_) ?_
                  · skip
                    have t13 := by_is (W := V) (hdep 0 13 (by kernel_rfl))
                    clear hout hdep
                    obtain ⟨k0, k1, k2, kl⟩ := (VB.out.keep hE).cells
                    go_simp
                    exact hK.out _ _ (Grw.refl _) rfl
                  refine VSteps.cons (VStep.mk Grw.trans rfl rfl fun t V hout hE hdep K hK => ?_) ?_
                  · skip
                    have t14 := by_is (W := V) (hdep 1 14 (by kernel_rfl))
                    clear hout hdep
                    go_simp
                    refine (in_any _ _).mono ?_
                    rintro e W5 ⟨⟨x, rfl, hx⟩, rfl⟩
                    obtain rfl : x = true := hx.2 D1.out
                    go_simp
                    exact hK.out _ _ (Grw.refl _) rfl
                  refine VSteps.cons (VStep.mk Grw.trans rfl rfl fun t V hout hE hdep K hK => ?_) ?_
                  · skip
                    have t15 := by_is (W := V) (hdep 2 15 (by kernel_rfl))
                    clear hout hdep
                    go_simp
                    exact hK.out _ _ (Grw.refl _) rfl
                  refine VSteps.cons (VStep.mk Grw.trans rfl rfl fun t V hout hE hdep K hK => ?_) ?_
                  · skip
                    have t16 := by_is (W := V) (hdep 3 16 (by kernel_rfl))
                    clear hout hdep
                    go_simp
                    exact hK.out _ _ (Grw.refl _) rfl
                  refine VSteps.cons (VStep.mkG Grw.trans (dg := 17) rfl rfl (by kernel_rfl) (fun _ _ h => h) fun t V hout hE hdep K hK => ?_) ?_
                  · skip
                    have t4 : t[4]? = some _ := hout 4 (by kernel_rfl)
                    clear hout hdep
                    go_simp
                    exact hK.out _ _ (Grw.refl _) rfl
                  refine VSteps.cons (VStep.mkG Grw.trans (dg := 17) rfl rfl (by kernel_rfl) (fun _ _ h => h) fun t V hout hE hdep K hK => ?_) ?_
                  · skip
                    have t18 := by_is (W := V) (hdep 5 18 (by kernel_rfl))
                    clear hout hdep
                    obtain ⟨k0, k1, k2, kl⟩ := (VB.out.keep hE).cells
                    go_simp
                    exact hK.out _ _ (Grw.refl _) rfl
                  refine VSteps.cons (VStep.mkG Grw.trans (dg := 17) rfl rfl (by kernel_rfl) (fun _ _ h => h) fun t V hout hE hdep K hK => ?_) ?_
                  · skip
                    have t19 := by_is (W := V) (hdep 6 19 (by kernel_rfl))
                    clear hout hdep
                    go_simp
                    refine (in_any _ _).mono ?_
                    rintro e W5 ⟨⟨x, rfl, hx⟩, rfl⟩
                    obtain rfl : x = true := hx.2 D2.out
                    go_simp
                    exact hK.out _ _ (Grw.refl _) rfl
                  refine VSteps.cons (VStep.mkG Grw.trans (dg := 17) rfl rfl (by kernel_rfl) (fun _ _ h => h) fun t V hout hE hdep K hK => ?_) ?_
                  · skip
                    have t20 := by_is (W := V) (hdep 7 20 (by kernel_rfl))
                    clear hout hdep
                    go_simp
                    exact hK.out _ _ (Grw.refl _) rfl
                  refine VSteps.cons (VStep.mk Grw.trans rfl rfl fun t V hout hE hdep K hK => ?_) ?_
                  · skip
                    have t17 := by_is (W := V) (hdep 4 17 (by kernel_rfl))
                    have t21 := by_is (W := V) (hdep 8 21 (by kernel_rfl))
                    clear hout hdep
                    go_simp
                    exact hK.out _ _ (Grw.refl _) rfl
                  refine VSteps.cons (VStep.mk Grw.trans rfl rfl fun t V hout hE hdep K hK => ?_) ?_
                  · skip
                    have t22 := by_is (W := V) (hdep 9 22 (by kernel_rfl))
                    clear hout hdep
                    go_simp
                    exact hK.out _ _ (Grw.refl _) rfl
                  refine VSteps.cons (VStep.mkG Grw.trans (dg := 23) rfl rfl (by kernel_rfl) (fun _ _ h => h) fun t V hout hE hdep K hK => ?_) ?_
                  · skip
                    have t3 : t[3]? = some _ := hout 3 (by kernel_rfl)
                    clear hout hdep
                    go_simp
                    exact hK.out _ _ (Grw.refl _) rfl
                  refine VSteps.cons (VStep.mkG Grw.trans (dg := 23) rfl rfl (by kernel_rfl) (fun _ _ h => h) fun t V hout hE hdep K hK => ?_) ?_
                  · skip
                    have t24 := by_is (W := V) (hdep 11 24 (by kernel_rfl))
                    clear hout hdep
                    go_simp
                    exact hK.out _ _ (Grw.refl _) rfl
                  refine VSteps.cons (VStep.mkG Grw.trans (dg := 23) rfl rfl (by kernel_rfl) (fun _ _ h => h) fun t V hout hE hdep K hK => ?_) ?_
                  · skip
                    have t25 := by_is (W := V) (hdep 12 25 (by kernel_rfl))
                    clear hout hdep
                    go_simp
                    exact hK.out _ _ (Grw.refl _) rfl
                  refine VSteps.cons (VStep.mkN Grw.refl (dg := 26) rfl rfl (by kernel_rfl) (fun _ _ h => h) (fun _ => rfl)) ?_
                  refine VSteps.cons (VStep.mkN Grw.refl (dg := 26) rfl rfl (by kernel_rfl) (fun _ _ h => h) (fun _ => rfl)) ?_
                  refine VSteps.cons (VStep.mkN Grw.refl (dg := 26) rfl rfl (by kernel_rfl) (fun _ _ h => h) (fun _ => rfl)) ?_
                  refine VSteps.cons (VStep.mkN Grw.refl (dg := 26) rfl rfl (by kernel_rfl) (fun _ _ h => h) (fun _ => rfl)) ?_
                  refine VSteps.cons (VStep.mkN Grw.refl (dg := 26) rfl rfl (by kernel_rfl) (fun _ _ h => h) (fun _ => rfl)) ?_
                  refine VSteps.cons (VStep.mkN Grw.refl (dg := 26) rfl rfl (by kernel_rfl) (fun _ _ h => h) (fun _ => rfl)) ?_
                  refine VSteps.cons (VStep.mkN Grw.refl (dg := 26) rfl rfl (by kernel_rfl) (fun _ _ h => h) (fun _ => rfl)) ?_
                  refine VSteps.cons (VStep.mkN Grw.refl (dg := 26) rfl rfl (by kernel_rfl) (fun _ _ h => h) (fun _ => rfl)) ?_
                  refine VSteps.cons (VStep.mkG Grw.trans (dg := 23) rfl rfl (by kernel_rfl) (fun _ _ h => h) fun t V hout hE hdep K hK => ?_) ?_
                  · skip
                    have t26 := by_is (W := V) (hdep 13 26 (by kernel_rfl))
                    have t34 := by_is (W := V) (hdep 21 34 (by kernel_rfl))
                    clear hout hdep
                    go_simp
                    exact hK.out _ _ (Grw.refl _) rfl
                  refine VSteps.cons (VStep.mk Grw.trans rfl rfl fun t V hout hE hdep K hK => ?_) ?_
                  · skip
                    have t23 := by_is (W := V) (hdep 10 23 (by kernel_rfl))
                    have t35 := by_is (W := V) (hdep 22 35 (by kernel_rfl))
                    clear hout hdep
                    go_simp
                    exact hK.out _ _ (Grw.refl _) rfl
                  refine VSteps.cons (VStep.mk Grw.trans rfl rfl fun t V hout hE hdep K hK => ?_) ?_
                  · skip
                    have t36 := by_is (W := V) (hdep 23 36 (by kernel_rfl))
                    clear hout hdep
                    go_simp
                    exact hK.out _ _ (Grw.refl _) rfl
                  refine VSteps.cons (VStep.mkG Grw.trans (dg := 37) rfl rfl (by kernel_rfl) (fun _ _ h => h) fun t V hout hE hdep K hK => ?_) ?_
                  · skip
                    have t4 : t[4]? = some _ := hout 4 (by kernel_rfl)
                    clear hout hdep
                    go_simp
                    exact hK.out _ _ (Grw.refl _) rfl
                  refine VSteps.cons (VStep.mkG Grw.trans (dg := 37) rfl rfl (by kernel_rfl) (fun _ _ h => h) fun t V hout hE hdep K hK => ?_) ?_
                  · skip
                    have t38 := by_is (W := V) (hdep 25 38 (by kernel_rfl))
                    clear hout hdep
                    obtain ⟨k0, k1, k2, kl⟩ := (VB.out.keep hE).cells
                    go_simp
                    exact hK.out _ _ (Grw.refl _) rfl
                  refine VSteps.cons (VStep.mkG Grw.trans (dg := 37) rfl rfl (by kernel_rfl) (fun _ _ h => h) fun t V hout hE hdep K hK => ?_) ?_
                  · skip
                    have t39 := by_is (W := V) (hdep 26 39 (by kernel_rfl))
                    clear hout hdep
                    go_simp
                    exact hK.out _ _ (Grw.refl _) rfl
                  refine VSteps.cons (VStep.mkG Grw.trans (dg := 37) rfl rfl (by kernel_rfl) (fun _ _ h => h) fun t V hout hE hdep K hK => ?_) ?_
                  · skip
                    have t40 := by_is (W := V) (hdep 27 40 (by kernel_rfl))
                    clear hout hdep
                    go_simp
                    exact hK.out _ _ (Grw.refl _) rfl
                  refine VSteps.cons (VStep.mk Grw.trans rfl rfl fun t V hout hE hdep K hK => ?_) ?_
                  · skip
                    have t37 := by_is (W := V) (hdep 24 37 (by kernel_rfl))
                    have t41 := by_is (W := V) (hdep 28 41 (by kernel_rfl))
                    clear hout hdep
                    go_simp
                    exact hK.out _ _ (Grw.refl _) rfl
                  refine VSteps.cons (VStep.mk Grw.trans rfl rfl fun t V hout hE hdep K hK => ?_) ?_
                  · skip
                    have t42 := by_is (W := V) (hdep 29 42 (by kernel_rfl))
                    clear hout hdep
                    go_simp
                    exact hK.out _ _ (Grw.refl _) rfl
                  refine VSteps.cons (VStep.mkG Grw.trans (dg := 43) rfl rfl (by kernel_rfl) (fun _ _ h => h) fun t V hout hE hdep K hK => ?_) ?_
                  · skip
                    have t4 : t[4]? = some _ := hout 4 (by kernel_rfl)
                    clear hout hdep
                    go_simp
                    exact hK.out _ _ (Grw.refl _) rfl
                  refine VSteps.cons (VStep.mkG Grw.trans (dg := 43) rfl rfl (by kernel_rfl) (fun _ _ h => h) fun t V hout hE hdep K hK => ?_) ?_
                  · skip
                    have t44 := by_is (W := V) (hdep 31 44 (by kernel_rfl))
                    clear hout hdep
                    obtain ⟨k0, k1, k2, kl⟩ := (VB.out.keep hE).cells
                    go_simp
                    exact hK.out _ _ (Grw.refl _) rfl
                  refine VSteps.cons (VStep.mkG Grw.trans (dg := 43) rfl rfl (by kernel_rfl) (fun _ _ h => h) fun t V hout hE hdep K hK => ?_) ?_
                  · skip
                    have t45 := by_is (W := V) (hdep 32 45 (by kernel_rfl))
                    clear hout hdep
                    go_simp
                    exact hK.out _ _ (Grw.refl _) rfl
                  refine VSteps.cons (VStep.mkG Grw.trans (dg := 43) rfl rfl (by kernel_rfl) (fun _ _ h => h) fun t V hout hE hdep K hK => ?_) ?_
                  · skip
                    have t46 := by_is (W := V) (hdep 33 46 (by kernel_rfl))
                    clear hout hdep
                    obtain ⟨s0, sl⟩ := HS0.out V (HBW.out.trans (Below.mono hE (by have := HBW.out.size; omega)))
                    go_simp
                    exact hK.out _ _ (Grw.refl _) rfl
                  refine VSteps.cons (VStep.mkG Grw.trans (dg := 43) rfl rfl (by kernel_rfl) (fun _ _ h => h) fun t V hout hE hdep K hK => ?_) ?_
                  · skip
                    have t47 := by_is (W := V) (hdep 34 47 (by kernel_rfl))
                    clear hout hdep
                    go_simp
                    exact hK.out _ _ (Grw.refl _) rfl
                  refine VSteps.cons (VStep.mk Grw.trans rfl rfl fun t V hout hE hdep K hK => ?_) ?_
                  · skip
                    have t43 := by_is (W := V) (hdep 30 43 (by kernel_rfl))
                    have t48 := by_is (W := V) (hdep 35 48 (by kernel_rfl))
                    clear hout hdep
                    go_simp
                    exact hK.out _ _ (Grw.refl _) rfl
                  exact VSteps.nil (by decide)
                · intro f W hE hF
                  have f13 : f 13 = _ := hF 0 13 (by kernel_rfl)
                  have f14 : f 14 = _ := hF 1 14 (by kernel_rfl)
                  have f15 : f 15 = _ := hF 2 15 (by kernel_rfl)
                  have f16 : f 16 = _ := hF 3 16 (by kernel_rfl)
                  have f17 : f 17 = _ := hF 4 17 (by kernel_rfl)
                  have f18 : f 18 = _ := hF 5 18 (by kernel_rfl)
                  have f19 : f 19 = _ := hF 6 19 (by kernel_rfl)
                  have f20 : f 20 = _ := hF 7 20 (by kernel_rfl)
                  have f21 : f 21 = _ := hF 8 21 (by kernel_rfl)
                  have f22 : f 22 = _ := hF 9 22 (by kernel_rfl)
                  have f23 : f 23 = _ := hF 10 23 (by kernel_rfl)
                  have f24 : f 24 = _ := hF 11 24 (by kernel_rfl)
                  have f25 : f 25 = _ := hF 12 25 (by kernel_rfl)
                  have f26 : f 26 = _ := hF 13 26 (by kernel_rfl)
                  have f27 : f 27 = _ := hF 14 27 (by kernel_rfl)
                  have f28 : f 28 = _ := hF 15 28 (by kernel_rfl)
                  have f29 : f 29 = _ := hF 16 29 (by kernel_rfl)
                  have f30 : f 30 = _ := hF 17 30 (by kernel_rfl)
                  have f31 : f 31 = _ := hF 18 31 (by kernel_rfl)
                  have f32 : f 32 = _ := hF 19 32 (by kernel_rfl)
                  have f33 : f 33 = _ := hF 20 33 (by kernel_rfl)
                  have f34 : f 34 = _ := hF 21 34 (by kernel_rfl)
                  have f35 : f 35 = _ := hF 22 35 (by kernel_rfl)
                  have f36 : f 36 = _ := hF 23 36 (by kernel_rfl)
                  have f37 : f 37 = _ := hF 24 37 (by kernel_rfl)
                  have f38 : f 38 = _ := hF 25 38 (by kernel_rfl)
                  have f39 : f 39 = _ := hF 26 39 (by kernel_rfl)
                  have f40 : f 40 = _ := hF 27 40 (by kernel_rfl)
                  have f41 : f 41 = _ := hF 28 41 (by kernel_rfl)
                  have f42 : f 42 = _ := hF 29 42 (by kernel_rfl)
                  have f43 : f 43 = _ := hF 30 43 (by kernel_rfl)
                  have f44 : f 44 = _ := hF 31 44 (by kernel_rfl)
                  have f45 : f 45 = _ := hF 32 45 (by kernel_rfl)
                  have f46 : f 46 = _ := hF 33 46 (by kernel_rfl)
                  have f47 : f 47 = _ := hF 34 47 (by kernel_rfl)
                  have f48 : f 48 = _ := hF 35 48 (by kernel_rfl)
                  have f49 : f 49 = _ := hF 36 49 (by kernel_rfl)
                  simp only [setAllV, List.map_cons, List.map_nil, List.set_cons_succ, List.set_cons_zero, f13, f14, f15, f16, f17, f18, f19, f20, f21, f22, f23, f24, f25, f26, f27, f28, f29, f30, f31, f32, f33, f34, f35, f36, f37, f38, f39, f40, f41, f42, f43, f44, f45, f46, f47, f48, f49]
                  clear hF f13 f14 f15 f16 f17 f18 f19 f20 f21 f22 f23 f24 f25 f26 f27 f28 f29 f30 f31 f32 f33 f34 f35 f36 f37 f38 f39 f40 f41 f42 f43 f44 f45 f46 f47 f48 f49
                  have HBE := Lib.hid (HBW.out.trans (Below.mono hE (by have := HBW.out.size; omega)))
                  have VBE := Lib.hid (VB.out.keep hE)
                  clear hE
                  go_wp2_with fail
                  go_loopw [5] (fun i w5 => ∃ j : Nat, 1 ≤ j ∧ j ≤ xs[0].slots.length ∧ i = .int .i64 j ∧ Below w.heap.size w w5 ∧ VbW p xs[0] (some ⟨sb, so, none⟩) rc w5 ∧ ∀ t (h : t + 1 < xs[0].slots.length), t + 1 < j → xs[0].slots[t] < xs[0].slots[t + 1]) (fun i _ => xs[0].slots.length - (intOf i).toNat)
                  case atStart => exact ⟨1, by omega, by omega, rfl, HBE.out, VBE.out, fun t h h2 => by omega⟩
                  case round =>
                    obtain ⟨j, hj1, hj, rfl, hb5, hvb, hasc⟩ := hrel
                    have HASC := Lib.hid hasc
                    obtain ⟨q0, q1, q2, ql⟩ := hvb.cells
                    have HVB := Lib.hid hvb
                    have HB5 := Lib.hid hb5
                    clear hvb hasc HBE VBE
                    by_cases hj3 : j < xs[0].slots.length
                    · obtain ⟨t, rfl⟩ : ∃ t, j = t + 1 := ⟨j - 1, by omega⟩
                      obtain ⟨s1, sl⟩ := HSC.out _ hb5 (t + 1) hj3
                      obtain ⟨s0, _⟩ := HSC.out _ hb5 t (by omega)
                      have s1' : wr.cell? ⟨sb, so + t + 1, none⟩ = some (.int .i64 (xs[0].slots[t + 1])) := s1
                      have ht1 : (t : Int) < xs[0].slots.length := by omega
                      have ht2 : (t : Int) + 1 < xs[0].slots.length := by omega
                      have hw : IntKind.i64.wrap ((t : Int) + 1 - 1) = t := by rw [IntWalk.i64_in _ (by omega)]; omega
                      have hw2 : IntKind.i64.wrap (t : Int) = t := IntWalk.i64_in _ (by omega)
                      clear hb5
                      by_cases hle : xs[0].slots[t + 1] ≤ xs[0].slots[t]
                      · have kle : decide (xs[0].slots[t + 1] ≤ xs[0].slots[t]) = true := by simpa using hle
                        have HBAD : Hid (¬ SetsOk xs) := Lib.hid fun h => by obtain ⟨_, _, h3⟩ := (h (0) hlt).2.2.2; have := h3 t hj3; omega
                        clear hle
                        go_wp2_with fail
                        go_quiet (fail)
                        go_wp2
                        go_ret
                        exact ⟨⟨false, rfl, fun h => (by cases h), fun h => absurd h HBAD.out⟩, HB5.out.trans ⟨rfl, rfl, rfl, Nat.le_refl _, fun _ _ => rfl⟩⟩
                      · have kle : decide (xs[0].slots[t + 1] ≤ xs[0].slots[t]) = false := by simpa using hle
                        have HLT : Hid (xs[0].slots[t] < xs[0].slots[t + 1]) := Lib.hid (by omega)
                        clear hle
                        go_wp2_with fail
                        go_quiet (fail)
                        go_wp2
                        go_roundw
                        case rel => exact ⟨t + 1 + 1, by omega, by omega, by go_num, HB5.out.trans ⟨rfl, rfl, rfl, Nat.le_refl _, fun _ _ => rfl⟩, HVB.out.keep ⟨rfl, rfl, rfl, Nat.le_refl _, fun _ _ => rfl⟩, fun t' h1 h2 => by
                          by_cases e : t' = t
                          · subst e; exact HLT.out
                          · exact HASC.out t' h1 (by omega)⟩
                        case measure => simp [intOf]; omega
                    · have HST : Hid (StOk xs (0) hlt) := Lib.hid ⟨D1.out, D2.out, fun m hm => by omega, hps, H0.out, fun t h => HASC.out t h (by omega)⟩
                      clear hb5
                      go_wp2
                      go_roundw
                      case rel => exact ⟨0 + 1, by omega, by go_num, HB5.out, fun j' h1 h2 => by
                        by_cases e : j' = 0
                        · subst e; exact HST.out
                        · exact HOK.out j' h1 (by omega)⟩
                      case measure => simp [intOf]; omega
          · obtain ⟨m, rfl⟩ : ∃ m, k = m + 1 := ⟨k - 1, by omega⟩
            clear hk0 hf ht
            have hml : m < xs.length := by omega
            obtain ⟨_, pra, prc, w0, w1, w2, hrs2⟩ := set_cells HV.out hml
            have HPV : Hid (∀ V, Below w.heap.size w V → V.cell? ⟨b, off + m * 3, none⟩ = some (.int .i64 xs[m].fr) ∧ V.cell? ⟨b, off + m * 3 + 1, none⟩ = some (.int .i64 xs[m].to) ∧ V.cell? ⟨b, off + m * 3 + 2, none⟩ = some (.slice pra xs[m].slots.length prc) ∧ b < V.heap.size) := Lib.hid fun V hV =>
              ⟨(hV.cell (p := ⟨b, off + m * 3, none⟩) hq).trans w0, (hV.cell (p := ⟨b, off + m * 3 + 1, none⟩) hq).trans w1, (hV.cell (p := ⟨b, off + m * 3 + 2, none⟩) hq).trans w2, Nat.lt_of_lt_of_le hq hV.size⟩
            have HF1 : Hid (FrOk xs[m].fr) := Lib.hid (HOK.out m hml (by omega)).1
            have HF2 : Hid (FrOk xs[m].to) := Lib.hid (HOK.out m hml (by omega)).2.1
            have HF3 : Hid (FrOk xs[m + 1].fr) := D1
            have HF4 : Hid (FrOk xs[m + 1].to) := D2
            have kk : decide ((0 : Int) < (m : Int) + 1) = true := decide_eq_true (by omega)
            have hwm : IntKind.i64.wrap (m : Int) = m := IntWalk.i64_in _ (by omega)
            have hmi : (m : Int) < xs.length := by omega
            clear w0 w1 w2 hrs2
            by_cases hbf : Bef xs[m] xs[m + 1]
            · have HBF := Lib.hid hbf
              clear hbf
              by_cases hs0 : xs[m + 1].slots.length = 0
              · have k41 : ((xs[m + 1].slots.length : Int) == 0) = true := by rw [hs0]; rfl
                have HBAD : Hid (¬ SetsOk xs) := Lib.hid fun h => by obtain ⟨h1, _⟩ := (h (m + 1) hlt).2.2.2; omega
                clear hs0
                go_wp2_with fail
                apply wp_region_vals (by kernel_rfl) Grw (Grw.drew _) [13, 14, 15, 16, 17, 18, 19, 20, 21, 22, 23, 24, 25, 26, 27, 28, 29, 30, 31, 32, 33, 34, 35, 36, 37, 38, 39, 40, 41, 42, 43, 44, 45, 46, 47, 48, 49] [Is _, Is _, Is (.bool true), Is _, Is _, Is _, Is _, Is (.bool true), Is _, Is _, Is _, Is _, Is _, Is _, Is _, Is _, Is _, Is _, Is _, Is _, (CmF (xs[m]) (xs[m + 1])), Is (.bool false), Is _, Is _, Is _, Is _, Is _, Is _, Is _, Is _, Is _, Is _, Is _, Is _, Is _, Is _, Is _] (stb_cons (Stb.is) (stb_cons (Stb.is) (stb_cons (Stb.is) (stb_cons (Stb.is) (stb_cons (Stb.is) (stb_cons (Stb.is) (stb_cons (Stb.is) (stb_cons (Stb.is) (stb_cons (Stb.is) (stb_cons (Stb.is) (stb_cons (Stb.is) (stb_cons (Stb.is) (stb_cons (Stb.is) (stb_cons (Stb.is) (stb_cons (Stb.is) (stb_cons (Stb.is) (stb_cons (Stb.is) (stb_cons (Stb.is) (stb_cons (Stb.is) (stb_cons (Stb.is) (stb_cons (CmF.stb) (stb_cons (Stb.is) (stb_cons (Stb.is) (stb_cons (Stb.is) (stb_cons (Stb.is) (stb_cons (Stb.is) (stb_cons (Stb.is) (stb_cons (Stb.is) (stb_cons (Stb.is) (stb_cons (Stb.is) (stb_cons (Stb.is) (stb_cons (Stb.is) (stb_cons (Stb.is) (stb_cons (Stb.is) (stb_cons (Stb.is) (stb_cons (Stb.is) (stb_cons (Stb.is) stb_nil))))))))))))))))))))))))))))))))))))) (by kernel_rfl) (by kernel_rfl) (by kernel_rfl)
                · refine VSteps.cons (VStep.mk Grw.trans rfl rfl fun t V hout hE hdep K hK => ?_) ?_
                  · skip
                    have t4 : t[4]? = some _ := hout 4 (by kernel_rfl)
                    clear hout hdep
                    go_simp
                    exact hK.out _ _ (Grw.refl _) rfl
                  refine VSteps.cons (VStep.mk Grw.trans rfl rfl fun t V hout hE hdep K hK => ?_) ?_
                  · skip
                    have t13 := by_is (W := V) (hdep 0 13 (by kernel_rfl))
                    clear hout hdep
                    obtain ⟨k0, k1, k2, kl⟩ := (VB.out.keep hE).cells
                    go_simp
                    exact hK.out _ _ (Grw.refl _) rfl
                  refine VSteps.cons (VStep.mk Grw.trans rfl rfl fun t V hout hE hdep K hK => ?_) ?_
                  · skip
                    have t14 := by_is (W := V) (hdep 1 14 (by kernel_rfl))
                    clear hout hdep
                    go_simp
                    refine (in_any _ _).mono ?_
                    rintro e W5 ⟨⟨x, rfl, hx⟩, rfl⟩
                    obtain rfl : x = true := hx.2 D1.out
                    go_simp
                    exact hK.out _ _ (Grw.refl _) rfl
                  refine VSteps.cons (VStep.mk Grw.trans rfl rfl fun t V hout hE hdep K hK => ?_) ?_
                  · skip
                    have t15 := by_is (W := V) (hdep 2 15 (by kernel_rfl))
                    clear hout hdep
                    go_simp
                    exact hK.out _ _ (Grw.refl _) rfl
                  refine VSteps.cons (VStep.mk Grw.trans rfl rfl fun t V hout hE hdep K hK => ?_) ?_
                  · skip
                    have t16 := by_is (W := V) (hdep 3 16 (by kernel_rfl))
                    clear hout hdep
                    go_simp
                    exact hK.out _ _ (Grw.refl _) rfl
                  refine VSteps.cons (VStep.mkG Grw.trans (dg := 17) rfl rfl (by kernel_rfl) (fun _ _ h => h) fun t V hout hE hdep K hK => ?_) ?_
                  · skip
                    have t4 : t[4]? = some _ := hout 4 (by kernel_rfl)
                    clear hout hdep
                    go_simp
                    exact hK.out _ _ (Grw.refl _) rfl
                  refine VSteps.cons (VStep.mkG Grw.trans (dg := 17) rfl rfl (by kernel_rfl) (fun _ _ h => h) fun t V hout hE hdep K hK => ?_) ?_
                  · skip
                    have t18 := by_is (W := V) (hdep 5 18 (by kernel_rfl))
                    clear hout hdep
                    obtain ⟨k0, k1, k2, kl⟩ := (VB.out.keep hE).cells
                    go_simp
                    exact hK.out _ _ (Grw.refl _) rfl
                  refine VSteps.cons (VStep.mkG Grw.trans (dg := 17) rfl rfl (by kernel_rfl) (fun _ _ h => h) fun t V hout hE hdep K hK => ?_) ?_
                  · skip
                    have t19 := by_is (W := V) (hdep 6 19 (by kernel_rfl))
                    clear hout hdep
                    go_simp
                    refine (in_any _ _).mono ?_
                    rintro e W5 ⟨⟨x, rfl, hx⟩, rfl⟩
                    obtain rfl : x = true := hx.2 D2.out
                    go_simp
                    exact hK.out _ _ (Grw.refl _) rfl
                  refine VSteps.cons (VStep.mkG Grw.trans (dg := 17) rfl rfl (by kernel_rfl) (fun _ _ h => h) fun t V hout hE hdep K hK => ?_) ?_
                  · skip
                    have t20 := by_is (W := V) (hdep 7 20 (by kernel_rfl))
                    clear hout hdep
                    go_simp
                    exact hK.out _ _ (Grw.refl _) rfl
                  refine VSteps.cons (VStep.mk Grw.trans rfl rfl fun t V hout hE hdep K hK => ?_) ?_
                  · skip
                    have t17 := by_is (W := V) (hdep 4 17 (by kernel_rfl))
                    have t21 := by_is (W := V) (hdep 8 21 (by kernel_rfl))
                    clear hout hdep
                    go_simp
                    exact hK.out _ _ (Grw.refl _) rfl
                  refine VSteps.cons (VStep.mk Grw.trans rfl rfl fun t V hout hE hdep K hK => ?_) ?_
                  · skip
                    have t22 := by_is (W := V) (hdep 9 22 (by kernel_rfl))
                    clear hout hdep
                    go_simp
                    exact hK.out _ _ (Grw.refl _) rfl
                  refine VSteps.cons (VStep.mkG Grw.trans (dg := 23) rfl rfl (by kernel_rfl) (fun _ _ h => h) fun t V hout hE hdep K hK => ?_) ?_
                  · skip
                    have t3 : t[3]? = some _ := hout 3 (by kernel_rfl)
                    clear hout hdep
                    go_simp
                    exact hK.out _ _ (Grw.refl _) rfl
                  refine VSteps.cons (VStep.mkG Grw.trans (dg := 23) rfl rfl (by kernel_rfl) (fun _ _ h => h) fun t V hout hE hdep K hK => ?_) ?_
                  · skip
                    have t24 := by_is (W := V) (hdep 11 24 (by kernel_rfl))
                    clear hout hdep
                    go_simp
                    exact hK.out _ _ (Grw.refl _) rfl
                  refine VSteps.cons (VStep.mkG Grw.trans (dg := 23) rfl rfl (by kernel_rfl) (fun _ _ h => h) fun t V hout hE hdep K hK => ?_) ?_
                  · skip
                    have t25 := by_is (W := V) (hdep 12 25 (by kernel_rfl))
                    clear hout hdep
                    go_simp
                    exact hK.out _ _ (Grw.refl _) rfl
                  refine VSteps.cons (VStep.mkG Grw.trans (dg := 26) rfl rfl (by kernel_rfl) (fun _ _ h => h) fun t V hout hE hdep K hK => ?_) ?_
                  · skip
                    have t0 : t[0]? = some _ := hout 0 (by kernel_rfl)
                    clear hout hdep
                    go_simp
                    exact hK.out _ _ (Grw.refl _) rfl
                  refine VSteps.cons (VStep.mkG Grw.trans (dg := 26) rfl rfl (by kernel_rfl) (fun _ _ h => h) fun t V hout hE hdep K hK => ?_) ?_
                  · skip
                    have t3 : t[3]? = some _ := hout 3 (by kernel_rfl)
                    clear hout hdep
                    go_simp
                    exact hK.out _ _ (Grw.refl _) rfl
                  refine VSteps.cons (VStep.mkG Grw.trans (dg := 26) rfl rfl (by kernel_rfl) (fun _ _ h => h) fun t V hout hE hdep K hK => ?_) ?_
                  · skip
                    have t28 := by_is (W := V) (hdep 15 28 (by kernel_rfl))
                    clear hout hdep
                    go_simp
                    exact hK.out _ _ (Grw.refl _) rfl
                  refine VSteps.cons (VStep.mkG Grw.trans (dg := 26) rfl rfl (by kernel_rfl) (fun _ _ h => h) fun t V hout hE hdep K hK => ?_) ?_
                  · skip
                    have t27 := by_is (W := V) (hdep 14 27 (by kernel_rfl))
                    have t29 := by_is (W := V) (hdep 16 29 (by kernel_rfl))
                    clear hout hdep
                    go_simp
                    exact hK.out _ _ (Grw.refl _) rfl
                  refine VSteps.cons (VStep.mkG Grw.trans (dg := 26) rfl rfl (by kernel_rfl) (fun _ _ h => h) fun t V hout hE hdep K hK => ?_) ?_
                  · skip
                    have t30 := by_is (W := V) (hdep 17 30 (by kernel_rfl))
                    clear hout hdep
                    obtain ⟨p0, p1, p2, pl⟩ := HPV.out V (HBW.out.trans (Below.mono hE (by have := HBW.out.size; omega)))
                    go_simp
                    exact hK.out _ _ (Grw.refl _) rfl
                  refine VSteps.cons (VStep.mkG Grw.trans (dg := 26) rfl rfl (by kernel_rfl) (fun _ _ h => h) fun t V hout hE hdep K hK => ?_) ?_
                  · skip
                    have t4 : t[4]? = some _ := hout 4 (by kernel_rfl)
                    clear hout hdep
                    obtain ⟨k0, k1, k2, kl⟩ := (VB.out.keep hE).cells
                    go_simp
                    exact hK.out _ _ (Grw.refl _) rfl
                  refine VSteps.cons (VStep.mkG Grw.trans (dg := 26) rfl rfl (by kernel_rfl) (fun _ _ h => h) fun t V hout hE hdep K hK => ?_) ?_
                  · skip
                    have t31 := by_is (W := V) (hdep 18 31 (by kernel_rfl))
                    have t32 := by_is (W := V) (hdep 19 32 (by kernel_rfl))
                    clear hout hdep
                    go_simp
                    refine (cmp_any (xs[m]) (xs[m + 1]) _ _ _ _ _ _ _ HF1.out HF2.out HF3.out HF4.out).mono ?_
                    rintro e W5 ⟨⟨x, rfl, hx, _⟩, hb5⟩
                    go_simp
                    exact hK.out _ _ hb5 ⟨x, rfl, hx⟩
                  refine VSteps.cons (VStep.mkG Grw.trans (dg := 26) rfl rfl (by kernel_rfl) (fun _ _ h => h) fun t V hout hE hdep K hK => ?_) ?_
                  · skip
                    obtain ⟨v33, t33, e33⟩ := hdep 20 33 (by kernel_rfl)
                    clear hout hdep
                    obtain ⟨x, rfl, hx⟩ := e33
                    have hx0 : decide (0 ≤ x) = false := by simp; exact Int.not_le.1 (fun h => hx.1 h HBF.out)
                    clear hx
                    go_simp
                    exact hK.out _ _ (Grw.refl _) rfl
                  refine VSteps.cons (VStep.mkG Grw.trans (dg := 23) rfl rfl (by kernel_rfl) (fun _ _ h => h) fun t V hout hE hdep K hK => ?_) ?_
                  · skip
                    have t26 := by_is (W := V) (hdep 13 26 (by kernel_rfl))
                    have t34 := by_is (W := V) (hdep 21 34 (by kernel_rfl))
                    clear hout hdep
                    go_simp
                    exact hK.out _ _ (Grw.refl _) rfl
                  refine VSteps.cons (VStep.mk Grw.trans rfl rfl fun t V hout hE hdep K hK => ?_) ?_
                  · skip
                    have t23 := by_is (W := V) (hdep 10 23 (by kernel_rfl))
                    have t35 := by_is (W := V) (hdep 22 35 (by kernel_rfl))
                    clear hout hdep
                    go_simp
                    exact hK.out _ _ (Grw.refl _) rfl
                  refine VSteps.cons (VStep.mk Grw.trans rfl rfl fun t V hout hE hdep K hK => ?_) ?_
                  · skip
                    have t36 := by_is (W := V) (hdep 23 36 (by kernel_rfl))
                    clear hout hdep
                    go_simp
                    exact hK.out _ _ (Grw.refl _) rfl
                  refine VSteps.cons (VStep.mkG Grw.trans (dg := 37) rfl rfl (by kernel_rfl) (fun _ _ h => h) fun t V hout hE hdep K hK => ?_) ?_
                  · skip
                    have t4 : t[4]? = some _ := hout 4 (by kernel_rfl)
                    clear hout hdep
                    go_simp
                    exact hK.out _ _ (Grw.refl _) rfl
                  refine VSteps.cons (VStep.mkG Grw.trans (dg := 37) rfl rfl (by kernel_rfl) (fun _ _ h => h) fun t V hout hE hdep K hK => ?_) ?_
                  · skip
                    have t38 := by_is (W := V) (hdep 25 38 (by kernel_rfl))
                    clear hout hdep
                    obtain ⟨k0, k1, k2, kl⟩ := (VB.out.keep hE).cells
                    go_simp
                    exact hK.out _ _ (Grw.refl _) rfl
                  refine VSteps.cons (VStep.mkG Grw.trans (dg := 37) rfl rfl (by kernel_rfl) (fun _ _ h => h) fun t V hout hE hdep K hK => ?_) ?_
                  · skip
                    have t39 := by_is (W := V) (hdep 26 39 (by kernel_rfl))
                    clear hout hdep
                    go_simp
                    exact hK.out _ _ (Grw.refl _) rfl
                  refine VSteps.cons (VStep.mkG Grw.trans (dg := 37) rfl rfl (by kernel_rfl) (fun _ _ h => h) fun t V hout hE hdep K hK => ?_) ?_
                  · skip
                    have t40 := by_is (W := V) (hdep 27 40 (by kernel_rfl))
                    clear hout hdep
                    go_simp
                    exact hK.out _ _ (Grw.refl _) rfl
                  refine VSteps.cons (VStep.mk Grw.trans rfl rfl fun t V hout hE hdep K hK => ?_) ?_
                  · skip
                    have t37 := by_is (W := V) (hdep 24 37 (by kernel_rfl))
                    have t41 := by_is (W := V) (hdep 28 41 (by kernel_rfl))
                    clear hout hdep
                    go_simp
                    exact hK.out _ _ (Grw.refl _) rfl
                  refine VSteps.cons (VStep.mk Grw.trans rfl rfl fun t V hout hE hdep K hK => ?_) ?_
                  · skip
                    have t42 := by_is (W := V) (hdep 29 42 (by kernel_rfl))
                    clear hout hdep
                    go_simp
                    exact hK.out _ _ (Grw.refl _) rfl
                  refine VSteps.cons (VStep.mkN Grw.refl (dg := 43) rfl rfl (by kernel_rfl) (fun _ _ h => h) (fun _ => rfl)) ?_
                  refine VSteps.cons (VStep.mkN Grw.refl (dg := 43) rfl rfl (by kernel_rfl) (fun _ _ h => h) (fun _ => rfl)) ?_
                  refine VSteps.cons (VStep.mkN Grw.refl (dg := 43) rfl rfl (by kernel_rfl) (fun _ _ h => h) (fun _ => rfl)) ?_
                  refine VSteps.cons (VStep.mkN Grw.refl (dg := 43) rfl rfl (by kernel_rfl) (fun _ _ h => h) (fun _ => rfl)) ?_
                  refine VSteps.cons (VStep.mkN Grw.refl (dg := 43) rfl rfl (by kernel_rfl) (fun _ _ h => h) (fun _ => rfl)) ?_
                  refine VSteps.cons (VStep.mk Grw.trans rfl rfl fun t V hout hE hdep K hK => ?_) ?_
                  · skip
                    have t43 := by_is (W := V) (hdep 30 43 (by kernel_rfl))
                    have t48 := by_is (W := V) (hdep 35 48 (by kernel_rfl))
                    clear hout hdep
                    go_simp
                    exact hK.out _ _ (Grw.refl _) rfl
                  exact VSteps.nil (by decide)
                · intro f W hE hF
                  have f13 : f 13 = _ := hF 0 13 (by kernel_rfl)
                  have f14 : f 14 = _ := hF 1 14 (by kernel_rfl)
                  have f15 : f 15 = _ := hF 2 15 (by kernel_rfl)
                  have f16 : f 16 = _ := hF 3 16 (by kernel_rfl)
                  have f17 : f 17 = _ := hF 4 17 (by kernel_rfl)
                  have f18 : f 18 = _ := hF 5 18 (by kernel_rfl)
                  have f19 : f 19 = _ := hF 6 19 (by kernel_rfl)
                  have f20 : f 20 = _ := hF 7 20 (by kernel_rfl)
                  have f21 : f 21 = _ := hF 8 21 (by kernel_rfl)
                  have f22 : f 22 = _ := hF 9 22 (by kernel_rfl)
                  have f23 : f 23 = _ := hF 10 23 (by kernel_rfl)
                  have f24 : f 24 = _ := hF 11 24 (by kernel_rfl)
                  have f25 : f 25 = _ := hF 12 25 (by kernel_rfl)
                  have f26 : f 26 = _ := hF 13 26 (by kernel_rfl)
                  have f27 : f 27 = _ := hF 14 27 (by kernel_rfl)
                  have f28 : f 28 = _ := hF 15 28 (by kernel_rfl)
                  have f29 : f 29 = _ := hF 16 29 (by kernel_rfl)
                  have f30 : f 30 = _ := hF 17 30 (by kernel_rfl)
                  have f31 : f 31 = _ := hF 18 31 (by kernel_rfl)
                  have f32 : f 32 = _ := hF 19 32 (by kernel_rfl)
                  have f33 := hF 20 33 (by kernel_rfl)
                  have f34 : f 34 = _ := hF 21 34 (by kernel_rfl)
                  have f35 : f 35 = _ := hF 22 35 (by kernel_rfl)
                  have f36 : f 36 = _ := hF 23 36 (by kernel_rfl)
                  have f37 : f 37 = _ := hF 24 37 (by kernel_rfl)
                  have f38 : f 38 = _ := hF 25 38 (by kernel_rfl)
                  have f39 : f 39 = _ := hF 26 39 (by kernel_rfl)
                  have f40 : f 40 = _ := hF 27 40 (by kernel_rfl)
                  have f41 : f 41 = _ := hF 28 41 (by kernel_rfl)
                  have f42 : f 42 = _ := hF 29 42 (by kernel_rfl)
                  have f43 : f 43 = _ := hF 30 43 (by kernel_rfl)
                  have f44 : f 44 = _ := hF 31 44 (by kernel_rfl)
                  have f45 : f 45 = _ := hF 32 45 (by kernel_rfl)
                  have f46 : f 46 = _ := hF 33 46 (by kernel_rfl)
                  have f47 : f 47 = _ := hF 34 47 (by kernel_rfl)
                  have f48 : f 48 = _ := hF 35 48 (by kernel_rfl)
                  have f49 : f 49 = _ := hF 36 49 (by kernel_rfl)
                  simp only [setAllV, List.map_cons, List.map_nil, List.set_cons_succ, List.set_cons_zero, f13, f14, f15, f16, f17, f18, f19, f20, f21, f22, f23, f24, f25, f26, f27, f28, f29, f30, f31, f32, f34, f35, f36, f37, f38, f39, f40, f41, f42, f43, f44, f45, f46, f47, f48, f49]
                  clear hF f13 f14 f15 f16 f17 f18 f19 f20 f21 f22 f23 f24 f25 f26 f27 f28 f29 f30 f31 f32 f34 f35 f36 f37 f38 f39 f40 f41 f42 f43 f44 f45 f46 f47 f48 f49
                  generalize f 33 = v33 at *
                  have HBE := Lib.hid (HBW.out.trans (Below.mono hE (by have := HBW.out.size; omega)))
                  clear hE
                  go_wp2
                  go_ret
                  exact ⟨⟨false, rfl, fun h => (by cases h), fun h => absurd h HBAD.out⟩, HBE.out⟩
              · have k41 : ((xs[m + 1].slots.length : Int) == 0) = false := beq_eq_false_iff_ne.2 (by omega)
                have hpos : (0 : Int) < xs[m + 1].slots.length := by omega
                have hps : 0 < xs[m + 1].slots.length := by omega
                have hsm : xs[m + 1].slots.length ≤ 9223372036854775807 := by
                  obtain ⟨_, _, _, g1, g2, _⟩ := HRS.out
                  unfold maxLen at g2
                  omega
                obtain ⟨sb, so, rfl⟩ := rd_addr HRS.out hps
                have HSC : Hid (∀ V, Below w.heap.size w V → ∀ t (h : t < xs[m + 1].slots.length), V.cell? ⟨sb, so + t, none⟩ = some (.int .i64 (xs[m + 1].slots[t])) ∧ sb < V.heap.size) := Lib.hid fun V hV t h => by
                  obtain ⟨g1, g2⟩ := int_cells HRS.out h
                  exact ⟨(hV.cell (p := ⟨sb, so + t, none⟩) g1).trans g2, Nat.lt_of_lt_of_le g1 hV.size⟩
                have HS0 : Hid (∀ V, Below w.heap.size w V → V.cell? ⟨sb, so, none⟩ = some (.int .i64 (xs[m + 1].slots[0])) ∧ sb < V.heap.size) := Lib.hid fun V hV => HSC.out V hV 0 hps
                clear hs0
                by_cases h0 : xs[m + 1].slots[0] < 0
                · have k48 : decide (xs[m + 1].slots[0] < 0) = true := by simpa using h0
                  have HBAD : Hid (¬ SetsOk xs) := Lib.hid fun h => by obtain ⟨h1, h2, _⟩ := (h (m + 1) hlt).2.2.2; omega
                  clear h0
                  go_wp2_with fail
                  apply wp_region_vals (by kernel_rfl) Grw (Grw.drew _) [13, 14, 15, 16, 17, 18, 19, 20, 21, 22, 23, 24, 25, 26, 27, 28, 29, 30, 31, 32, 33, 34, 35, 36, 37, 38, 39, 40, 41, 42, 43, 44, 45, 46, 47, 48, 49] [Is _, Is _, Is (.bool true), Is _, Is _, Is _, Is _, Is (.bool true), Is _, Is _, Is _, Is _, Is _, Is _, Is _, Is _, Is _, Is _, Is _, Is _, (CmF (xs[m]) (xs[m + 1])), Is (.bool false), Is _, Is _, Is _, Is _, Is _, Is _, Is _, Is _, Is _, Is _, Is _, Is _, Is _, Is _, Is _] (stb_cons (Stb.is) (stb_cons (Stb.is) (stb_cons (Stb.is) (stb_cons (Stb.is) (stb_cons (Stb.is) (stb_cons (Stb.is) (stb_cons (Stb.is) (stb_cons (Stb.is) (stb_cons (Stb.is) (stb_cons (Stb.is) (stb_cons (Stb.is) (stb_cons (Stb.is) (stb_cons (Stb.is) (stb_cons (Stb.is) (stb_cons (Stb.is) (stb_cons (Stb.is) (stb_cons (Stb.is) (stb_cons (Stb.is) (stb_cons (Stb.is) (stb_cons (Stb.is) (stb_cons (CmF.stb) (stb_cons (Stb.is) (stb_cons (Stb.is) (stb_cons (Stb.is) (stb_cons (Stb.is) (stb_cons (Stb.is) (stb_cons (Stb.is) (stb_cons (Stb.is) (stb_cons (Stb.is) (stb_cons (Stb.is) (stb_cons (Stb.is) (stb_cons (Stb.is) (stb_cons (Stb.is) (stb_cons (Stb.is) (stb_cons (Stb.is) (stb_cons (Stb.is) (stb_cons (Stb.is) stb_nil))))))))))))))))))))))))))))))))))))) (by kernel_rfl) (by kernel_rfl) (by kernel_rfl)
                  · refine VSteps.cons (VStep.mk Grw.trans rfl rfl fun t V hout hE hdep K hK => ?_) ?_
                    · skip
                      have t4 : t[4]? = some _ := hout 4 (by kernel_rfl)
                      clear hout hdep
                      go_simp
                      exact hK.out _ _ (Grw.refl _) rfl
                    refine VSteps.cons (VStep.mk Grw.trans rfl rfl fun t V hout hE hdep K hK => ?_) ?_
                    · skip
                      have t13 := by_is (W := V) (hdep 0 13 (by kernel_rfl))
                      clear hout hdep
                      obtain ⟨k0, k1, k2, kl⟩ := (VB.out.keep hE).cells
                      go_simp
                      exact hK.out _ _ (Grw.refl _) rfl
                    refine VSteps.cons (VStep.mk Grw.trans rfl rfl fun t V hout hE hdep K hK => ?_) ?_
                    · skip
                      have t14 := by_is (W := V) (hdep 1 14 (by kernel_rfl))
                      clear hout hdep
                      go_simp
                      refine (in_any _ _).mono ?_
                      rintro e W5 ⟨⟨x, rfl, hx⟩, rfl⟩
                      obtain rfl : x = true := hx.2 D1.out
                      go_simp
                      exact hK.out _ _ (Grw.refl _) rfl
                    refine VSteps.cons (VStep.mk Grw.trans rfl rfl fun t V hout hE hdep K hK => ?_) ?_
                    · skip
                      have t15 := by_is (W := V) (hdep 2 15 (by kernel_rfl))
                      clear hout hdep
                      go_simp
                      exact hK.out _ _ (Grw.refl _) rfl
                    refine VSteps.cons (VStep.mk Grw.trans rfl rfl fun t V hout hE hdep K hK => ?_) ?_
                    · skip
                      have t16 := by_is (W := V) (hdep 3 16 (by kernel_rfl))
                      clear hout hdep
                      go_simp
                      exact hK.out _ _ (Grw.refl _) rfl
                    refine VSteps.cons (VStep.mkG Grw.trans (dg := 17) rfl rfl (by kernel_rfl) (fun _ _ h => h) fun t V hout hE hdep K hK => ?_) ?_
                    · skip
                      have t4 : t[4]? = some _ := hout 4 (by kernel_rfl)
                      clear hout hdep
                      go_simp
                      exact hK.out _ _ (Grw.refl _) rfl
                    refine VSteps.cons (VStep.mkG Grw.trans (dg := 17) rfl rfl (by kernel_rfl) (fun _ _ h => h) fun t V hout hE hdep K hK => ?_) ?_
                    · skip
                      have t18 := by_is (W := V) (hdep 5 18 (by kernel_rfl))
                      clear hout hdep
                      obtain ⟨k0, k1, k2, kl⟩ := (VB.out.keep hE).cells
                      go_simp
                      exact hK.out _ _ (Grw.refl _) rfl
                    refine VSteps.cons (VStep.mkG Grw.trans (dg := 17) rfl rfl (by kernel_rfl) (fun _ _ h => h) fun t V hout hE hdep K hK => ?_) ?_
                    · skip
                      have t19 := by_is (W := V) (hdep 6 19 (by kernel_rfl))
                      clear hout hdep
                      go_simp
                      refine (in_any _ _).mono ?_
                      rintro e W5 ⟨⟨x, rfl, hx⟩, rfl⟩
                      obtain rfl : x = true := hx.2 D2.out
                      go_simp
                      exact hK.out _ _ (Grw.refl _) rfl
                    refine VSteps.cons (VStep.mkG Grw.trans (dg := 17) rfl rfl (by kernel_rfl) (fun _ _ h => h) fun t V hout hE hdep K hK => ?_) ?_
                    · skip
                      have t20 := by_is (W := V) (hdep 7 20 (by kernel_rfl))
                      clear hout hdep
                      go_simp
                      exact hK.out _ _ (Grw.refl _) rfl
                    refine VSteps.cons (VStep.mk Grw.trans rfl rfl fun t V hout hE hdep K hK => ?_) ?_
                    · skip
                      have t17 := by_is (W := V) (hdep 4 17 (by kernel_rfl))
                      have t21 := by_is (W := V) (hdep 8 21 (by kernel_rfl))
                      clear hout hdep
                      go_simp
                      exact hK.out _ _ (Grw.refl _) rfl
                    refine VSteps.cons (VStep.mk Grw.trans rfl rfl fun t V hout hE hdep K hK => ?_) ?_
                    · skip
                      have t22 := by_is (W := V) (hdep 9 22 (by kernel_rfl))
                      clear hout hdep
                      go_simp
                      exact hK.out _ _ (Grw.refl _) rfl
                    refine VSteps.cons (VStep.mkG Grw.trans (dg := 23) rfl rfl (by kernel_rfl) (fun _ _ h => h) fun t V hout hE hdep K hK => ?_) ?_
                    · skip
                      have t3 : t[3]? = some _ := hout 3 (by kernel_rfl)
                      clear hout hdep
                      go_simp
                      exact hK.out _ _ (Grw.refl _) rfl
                    refine VSteps.cons (VStep.mkG Grw.trans (dg := 23) rfl rfl (by kernel_rfl) (fun _ _ h => h) fun t V hout hE hdep K hK => ?_) ?_
                    · skip
                      have t24 := by_is (W := V) (hdep 11 24 (by kernel_rfl))
                      clear hout hdep
                      go_simp
                      exact hK.out _ _ (Grw.refl _) rfl
                    refine VSteps.cons (VStep.mkG Grw.trans (dg := 23) rfl rfl (by kernel_rfl) (fun _ _ h => h) fun t V hout hE hdep K hK => ?_) ?_
                    · skip
                      have t25 := by_is (W := V) (hdep 12 25 (by kernel_rfl))
                      clear hout hdep
                      go_simp
                      exact hK.out _ _ (Grw.refl _) rfl
                    refine VSteps.cons (VStep.mkG Grw.trans (dg := 26) rfl rfl (by kernel_rfl) (fun _ _ h => h) fun t V hout hE hdep K hK => ?_) ?_
                    · skip
                      have t0 : t[0]? = some _ := hout 0 (by kernel_rfl)
                      clear hout hdep
                      go_simp
                      exact hK.out _ _ (Grw.refl _) rfl
                    refine VSteps.cons (VStep.mkG Grw.trans (dg := 26) rfl rfl (by kernel_rfl) (fun _ _ h => h) fun t V hout hE hdep K hK => ?_) ?_
                    · skip
                      have t3 : t[3]? = some _ := hout 3 (by kernel_rfl)
                      clear hout hdep
                      go_simp
                      exact hK.out _ _ (Grw.refl _) rfl
                    refine VSteps.cons (VStep.mkG Grw.trans (dg := 26) rfl rfl (by kernel_rfl) (fun _ _ h => h) fun t V hout hE hdep K hK => ?_) ?_
                    · skip
                      have t28 := by_is (W := V) (hdep 15 28 (by kernel_rfl))
                      clear hout hdep
                      go_simp
                      exact hK.out _ _ (Grw.refl _) rfl
                    refine VSteps.cons (VStep.mkG Grw.trans (dg := 26) rfl rfl (by kernel_rfl) (fun _ _ h => h) fun t V hout hE hdep K hK => ?_) ?_
                    · skip
                      have t27 := by_is (W := V) (hdep 14 27 (by kernel_rfl))
                      have t29 := by_is (W := V) (hdep 16 29 (by kernel_rfl))
                      clear hout hdep
                      go_simp
                      exact hK.out _ _ (Grw.refl _) rfl
                    refine VSteps.cons (VStep.mkG Grw.trans (dg := 26) rfl rfl (by kernel_rfl) (fun _ _ h => h) fun t V hout hE hdep K hK => ?_) ?_
                    · skip
                      have t30 := by_is (W := V) (hdep 17 30 (by kernel_rfl))
                      clear hout hdep
                      obtain ⟨p0, p1, p2, pl⟩ := HPV.out V (HBW.out.trans (Below.mono hE (by have := HBW.out.size; omega)))
                      go_simp
                      exact hK.out _ _ (Grw.refl _) rfl
                    refine VSteps.cons (VStep.mkG Grw.trans (dg := 26) rfl rfl (by kernel_rfl) (fun _ _ h => h) fun t V hout hE hdep K hK => ?_) ?_
                    · skip
                      have t4 : t[4]? = some _ := hout 4 (by kernel_rfl)
                      clear hout hdep
                      obtain ⟨k0, k1, k2, kl⟩ := (VB.out.keep hE).cells
                      go_simp
                      exact hK.out _ _ (Grw.refl _) rfl
                    refine VSteps.cons (VStep.mkG Grw.trans (dg := 26) rfl rfl (by kernel_rfl) (fun _ _ h => h) fun t V hout hE hdep K hK => ?_) ?_
                    · skip
                      have t31 := by_is (W := V) (hdep 18 31 (by kernel_rfl))
                      have t32 := by_is (W := V) (hdep 19 32 (by kernel_rfl))
                      clear hout hdep
                      go_simp
                      refine (cmp_any (xs[m]) (xs[m + 1]) _ _ _ _ _ _ _ HF1.out HF2.out HF3.out HF4.out).mono ?_
                      rintro e W5 ⟨⟨x, rfl, hx, _⟩, hb5⟩
                      go_simp
                      exact hK.out _ _ hb5 ⟨x, rfl, hx⟩
                    refine VSteps.cons (VStep.mkG Grw.trans (dg := 26) rfl rfl (by kernel_rfl) (fun _ _ h => h) fun t V hout hE hdep K hK => ?_) ?_
                    · skip
                      obtain ⟨v33, t33, e33⟩ := hdep 20 33 (by kernel_rfl)
                      clear hout hdep
                      obtain ⟨x, rfl, hx⟩ := e33
                      have hx0 : decide (0 ≤ x) = false := by simp; exact Int.not_le.1 (fun h => hx.1 h HBF.out)
                      clear hx
                      go_simp
                      exact hK.out _ _ (Grw.refl _) rfl
                    refine VSteps.cons (VStep.mkG Grw.trans (dg := 23) rfl rfl (by kernel_rfl) (fun _ _ h => h) fun t V hout hE hdep K hK => ?_) ?_
                    · skip
                      have t26 := by_is (W := V) (hdep 13 26 (by kernel_rfl))
                      have t34 := by_is (W := V) (hdep 21 34 (by kernel_rfl))
                      clear hout hdep
                      go_simp
                      exact hK.out _ _ (Grw.refl _) rfl
                    refine VSteps.cons (VStep.mk Grw.trans rfl rfl fun t V hout hE hdep K hK => ?_) ?_
                    · skip
                      have t23 := by_is (W := V) (hdep 10 23 (by kernel_rfl))
                      have t35 := by_is (W := V) (hdep 22 35 (by kernel_rfl))
                      clear hout hdep
                      go_simp
                      exact hK.out _ _ (Grw.refl _) rfl
                    refine VSteps.cons (VStep.mk Grw.trans rfl rfl fun t V hout hE hdep K hK => ?_) ?_
                    · skip
                      have t36 := by_is (W := V) (hdep 23 36 (by kernel_rfl))
                      clear hout hdep
                      go_simp
                      exact hK.out _ _ (Grw.refl _) rfl
                    refine VSteps.cons (VStep.mkG Grw.trans (dg := 37) rfl rfl (by kernel_rfl) (fun _ _ h => h) fun t V hout hE hdep K hK => ?_) ?_
                    · skip
                      have t4 : t[4]? = some _ := hout 4 (by kernel_rfl)
                      clear hout hdep
                      go_simp
                      exact hK.out _ _ (Grw.refl _) rfl
                    refine VSteps.cons (VStep.mkG Grw.trans (dg := 37) rfl rfl (by kernel_rfl) (fun _ _ h => h) fun t V hout hE hdep K hK => ?_) ?_
                    · skip
                      have t38 := by_is (W := V) (hdep 25 38 (by kernel_rfl))
                      clear hout hdep
                      obtain ⟨k0, k1, k2, kl⟩ := (VB.out.keep hE).cells
                      go_simp
                      exact hK.out _ _ (Grw.refl _) rfl
                    refine VSteps.cons (VStep.mkG Grw.trans (dg := 37) rfl rfl (by kernel_rfl) (fun _ _ h => h) fun t V hout hE hdep K hK => ?_) ?_
                    · skip
                      have t39 := by_is (W := V) (hdep 26 39 (by kernel_rfl))
                      clear hout hdep
                      go_simp
                      exact hK.out _ _ (Grw.refl _) rfl
                    refine VSteps.cons (VStep.mkG Grw.trans (dg := 37) rfl rfl (by kernel_rfl) (fun _ _ h => h) fun t V hout hE hdep K hK => ?_) ?_
                    · skip
                      have t40 := by_is (W := V) (hdep 27 40 (by kernel_rfl))
                      clear hout hdep
                      go_simp
                      exact hK.out _ _ (Grw.refl _) rfl
                    refine VSteps.cons (VStep.mk Grw.trans rfl rfl fun t V hout hE hdep K hK => ?_) ?_
                    · skip
                      have t37 := by_is (W := V) (hdep 24 37 (by kernel_rfl))
                      have t41 := by_is (W := V) (hdep 28 41 (by kernel_rfl))
                      clear hout hdep
                      go_simp
                      exact hK.out _ _ (Grw.refl _) rfl
                    refine VSteps.cons (VStep.mk Grw.trans rfl rfl fun t V hout hE hdep K hK => ?_) ?_
                    · skip
                      have t42 := by_is (W := V) (hdep 29 42 (by kernel_rfl))
                      clear hout hdep
                      go_simp
                      exact hK.out _ _ (Grw.refl _) rfl
                    refine VSteps.cons (VStep.mkG Grw.trans (dg := 43) rfl rfl (by kernel_rfl) (fun _ _ h => h) fun t V hout hE hdep K hK => ?_) ?_
                    · skip
                      have t4 : t[4]? = some _ := hout 4 (by kernel_rfl)
                      clear hout hdep
                      go_simp
                      exact hK.out _ _ (Grw.refl _) rfl
                    refine VSteps.cons (VStep.mkG Grw.trans (dg := 43) rfl rfl (by kernel_rfl) (fun _ _ h => h) fun t V hout hE hdep K hK => ?_) ?_
                    · skip
                      have t44 := by_is (W := V) (hdep 31 44 (by kernel_rfl))
                      clear hout hdep
                      obtain ⟨k0, k1, k2, kl⟩ := (VB.out.keep hE).cells
                      go_simp
                      exact hK.out _ _ (Grw.refl _) rfl
                    refine VSteps.cons (VStep.mkG Grw.trans (dg := 43) rfl rfl (by kernel_rfl) (fun _ _ h => h) fun t V hout hE hdep K hK => ?_) ?_
                    · skip
                      have t45 := by_is (W := V) (hdep 32 45 (by kernel_rfl))
                      clear hout hdep
                      go_simp
                      exact hK.out _ _ (Grw.refl _) rfl
                    refine VSteps.cons (VStep.mkG Grw.trans (dg := 43) rfl rfl (by kernel_rfl) (fun _ _ h => h) fun t V hout hE hdep K hK => ?_) ?_
                    · skip
                      have t46 := by_is (W := V) (hdep 33 46 (by kernel_rfl))
                      clear hout hdep
                      obtain ⟨s0, sl⟩ := HS0.out V (HBW.out.trans (Below.mono hE (by have := HBW.out.size; omega)))
                      go_simp
                      exact hK.out _ _ (Grw.refl _) rfl
                    refine VSteps.cons (VStep.mkG Grw.trans (dg := 43) rfl rfl (by kernel_rfl) (fun _ _ h => h) fun t V hout hE hdep K hK => ?_) ?_
                    · skip
                      have t47 := by_is (W := V) (hdep 34 47 (by kernel_rfl))
                      clear hout hdep
                      go_simp
                      exact hK.out _ _ (Grw.refl _) rfl
                    refine VSteps.cons (VStep.mk Grw.trans rfl rfl fun t V hout hE hdep K hK => ?_) ?_
                    · skip
                      have t43 := by_is (W := V) (hdep 30 43 (by kernel_rfl))
                      have t48 := by_is (W := V) (hdep 35 48 (by kernel_rfl))
                      clear hout hdep
                      go_simp
                      exact hK.out _ _ (Grw.refl _) rfl
                    exact VSteps.nil (by decide)
                  · intro f W hE hF
                    have f13 : f 13 = _ := hF 0 13 (by kernel_rfl)
                    have f14 : f 14 = _ := hF 1 14 (by kernel_rfl)
                    have f15 : f 15 = _ := hF 2 15 (by kernel_rfl)
                    have f16 : f 16 = _ := hF 3 16 (by kernel_rfl)
                    have f17 : f 17 = _ := hF 4 17 (by kernel_rfl)
                    have f18 : f 18 = _ := hF 5 18 (by kernel_rfl)
                    have f19 : f 19 = _ := hF 6 19 (by kernel_rfl)
                    have f20 : f 20 = _ := hF 7 20 (by kernel_rfl)
                    have f21 : f 21 = _ := hF 8 21 (by kernel_rfl)
                    have f22 : f 22 = _ := hF 9 22 (by kernel_rfl)
                    have f23 : f 23 = _ := hF 10 23 (by kernel_rfl)
                    have f24 : f 24 = _ := hF 11 24 (by kernel_rfl)
                    have f25 : f 25 = _ := hF 12 25 (by kernel_rfl)
                    have f26 : f 26 = _ := hF 13 26 (by kernel_rfl)
                    have f27 : f 27 = _ := hF 14 27 (by kernel_rfl)
                    have f28 : f 28 = _ := hF 15 28 (by kernel_rfl)
                    have f29 : f 29 = _ := hF 16 29 (by kernel_rfl)
                    have f30 : f 30 = _ := hF 17 30 (by kernel_rfl)
                    have f31 : f 31 = _ := hF 18 31 (by kernel_rfl)
                    have f32 : f 32 = _ := hF 19 32 (by kernel_rfl)
                    have f33 := hF 20 33 (by kernel_rfl)
                    have f34 : f 34 = _ := hF 21 34 (by kernel_rfl)
                    have f35 : f 35 = _ := hF 22 35 (by kernel_rfl)
                    have f36 : f 36 = _ := hF 23 36 (by kernel_rfl)
                    have f37 : f 37 = _ := hF 24 37 (by kernel_rfl)
                    have f38 : f 38 = _ := hF 25 38 (by kernel_rfl)
                    have f39 : f 39 = _ := hF 26 39 (by kernel_rfl)
                    have f40 : f 40 = _ := hF 27 40 (by kernel_rfl)
                    have f41 : f 41 = _ := hF 28 41 (by kernel_rfl)
                    have f42 : f 42 = _ := hF 29 42 (by kernel_rfl)
                    have f43 : f 43 = _ := hF 30 43 (by kernel_rfl)
                    have f44 : f 44 = _ := hF 31 44 (by kernel_rfl)
                    have f45 : f 45 = _ := hF 32 45 (by kernel_rfl)
                    have f46 : f 46 = _ := hF 33 46 (by kernel_rfl)
                    have f47 : f 47 = _ := hF 34 47 (by kernel_rfl)
                    have f48 : f 48 = _ := hF 35 48 (by kernel_rfl)
                    have f49 : f 49 = _ := hF 36 49 (by kernel_rfl)
                    simp only [setAllV, List.map_cons, List.map_nil, List.set_cons_succ, List.set_cons_zero, f13, f14, f15, f16, f17, f18, f19, f20, f21, f22, f23, f24, f25, f26, f27, f28, f29, f30, f31, f32, f34, f35, f36, f37, f38, f39, f40, f41, f42, f43, f44, f45, f46, f47, f48, f49]
                    clear hF f13 f14 f15 f16 f17 f18 f19 f20 f21 f22 f23 f24 f25 f26 f27 f28 f29 f30 f31 f32 f34 f35 f36 f37 f38 f39 f40 f41 f42 f43 f44 f45 f46 f47 f48 f49
                    generalize f 33 = v33 at *
                    have HBE := Lib.hid (HBW.out.trans (Below.mono hE (by have := HBW.out.size; omega)))
                    clear hE
                    go_wp2
                    go_ret
                    exact ⟨⟨false, rfl, fun h => (by cases h), fun h => absurd h HBAD.out⟩, HBE.out⟩
                · have k48 : decide (xs[m + 1].slots[0] < 0) = false := by simpa using h0
                  have H0 : Hid (0 ≤ xs[m + 1].slots[0]) := Lib.hid (by omega)
                  clear h0
                  go_wp2_with fail
                  apply wp_region_vals (by kernel_rfl) Grw (Grw.drew _) [13, 14, 15, 16, 17, 18, 19, 20, 21, 22, 23, 24, 25, 26, 27, 28, 29, 30, 31, 32, 33, 34, 35, 36, 37, 38, 39, 40, 41, 42, 43, 44, 45, 46, 47, 48, 49] [Is _, Is _, Is (.bool true), Is _, Is _, Is _, Is _, Is (.bool true), Is _, Is _, Is _, Is _, Is _, Is _, Is _, Is _, Is _, Is _, Is _, Is _, (CmF (xs[m]) (xs[m + 1])), Is (.bool false), Is _, Is _, Is _, Is _, Is _, Is _, Is _, Is _, Is _, Is _, Is _, Is _, Is _, Is _, Is _] (stb_cons (Stb.is) (stb_cons (Stb.is) (stb_cons (Stb.is) (stb_cons (Stb.is) (stb_cons (Stb.is) (stb_cons (Stb.is) (stb_cons (Stb.is) (stb_cons (Stb.is) (stb_cons (Stb.is) (stb_cons (Stb.is) (stb_cons (Stb.is) (stb_cons (Stb.is) (stb_cons (Stb.is) (stb_cons (Stb.is) (stb_cons (Stb.is) (stb_cons (Stb.is) (stb_cons (Stb.is) (stb_cons (Stb.is) (stb_cons (Stb.is) (stb_cons (Stb.is) (stb_cons (CmF.stb) (stb_cons (Stb.is) (stb_cons (Stb.is) (stb_cons (Stb.is) (stb_cons (Stb.is) (stb_cons (Stb.is) (stb_cons (Stb.is) (stb_cons (Stb.is) (stb_cons (Stb.is) (stb_cons (Stb.is) (stb_cons (Stb.is) (stb_cons (Stb.is) (stb_cons (Stb.is) (stb_cons (Stb.is) (stb_cons (Stb.is) (stb_cons (Stb.is) (stb_cons (Stb.is) stb_nil))))))))))))))))))))))))))))))))))))) (by kernel_rfl) (by kernel_rfl) (by kernel_rfl)
                  · refine VSteps.cons (VStep.mk Grw.trans rfl rfl fun t V hout hE hdep K hK => ?_) ?_
                    · skip
                      have t4 : t[4]? = some _ := hout 4 (by kernel_rfl)
                      clear hout hdep
                      go_simp
                      exact hK.out _ _ (Grw.refl _) rfl
                    refine VSteps.cons (VStep.mk Grw.trans rfl rfl fun t V hout hE hdep K hK => ?_) ?_
                    · skip
                      have t13 := by_is (W := V) (hdep 0 13 (by kernel_rfl))
                      clear hout hdep
                      obtain ⟨k0, k1, k2, kl⟩ := (VB.out.keep hE).cells
                      go_simp
                      exact hK.out _ _ (Grw.refl _) rfl
                    refine VSteps.cons (VStep.mk Grw.trans rfl rfl fun t V hout hE hdep K hK => ?_) ?_
                    · skip
                      have t14 := by_is (W := V) (hdep 1 14 (by kernel_rfl))
                      clear hout hdep
                      go_simp
                      refine (in_any _ _).mono ?_
                      rintro e W5 ⟨⟨x, rfl, hx⟩, rfl⟩
                      obtain rfl : x = true := hx.2 D1.out
                      go_simp
                      exact hK.out _ _ (Grw.refl _) rfl
                    refine VSteps.cons (VStep.mk Grw.trans rfl rfl fun t V hout hE hdep K hK => ?_) ?_
                    · skip
                      have t15 := by_is (W := V) (hdep 2 15 (by kernel_rfl))
                      clear hout hdep
                      go_simp
                      exact hK.out _ _ (Grw.refl _) rfl
                    refine VSteps.cons (VStep.mk Grw.trans rfl rfl fun t V hout hE hdep K hK => ?_) ?_
                    · skip
                      have t16 := by_is (W := V) (hdep 3 16 (by kernel_rfl))
                      clear hout hdep
                      go_simp
                      exact hK.out _ _ (Grw.refl _) rfl
                    refine VSteps.cons (VStep.mkG Grw.trans (dg := 17) rfl rfl (by kernel_rfl) (fun _ _ h => h) fun t V hout hE hdep K hK => ?_) ?_
                    · skip
                      have t4 : t[4]? = some _ := hout 4 (by kernel_rfl)
                      clear hout hdep
                      go_simp
                      exact hK.out _ _ (Grw.refl _) rfl
                    refine VSteps.cons (VStep.mkG Grw.trans (dg := 17) rfl rfl (by kernel_rfl) (fun _ _ h => h) fun t V hout hE hdep K hK => ?_) ?_
                    · skip
                      have t18 := by_is (W := V) (hdep 5 18 (by kernel_rfl))
                      clear hout hdep
                      obtain ⟨k0, k1, k2, kl⟩ := (VB.out.keep hE).cells
                      go_simp
                      exact hK.out _ _ (Grw.refl _) rfl
                    refine VSteps.cons (VStep.mkG Grw.trans (dg := 17) rfl rfl (by kernel_rfl) (fun _ _ h => h) fun t V hout hE hdep K hK => ?_) ?_
                    · skip
                      have t19 := by_is (W := V) (hdep 6 19 (by kernel_rfl))
                      clear hout hdep
                      go_simp
                      refine (in_any _ _).mono ?_
                      rintro e W5 ⟨⟨x, rfl, hx⟩, rfl⟩
                      obtain rfl : x = true := hx.2 D2.out
                      go_simp
                      exact hK.out _ _ (Grw.refl _) rfl
                    refine VSteps.cons (VStep.mkG Grw.trans (dg := 17) rfl rfl (by kernel_rfl) (fun _ _ h => h) fun t V hout hE hdep K hK => ?_) ?_
                    · skip
                      have t20 := by_is (W := V) (hdep 7 20 (by kernel_rfl))
                      clear hout hdep
                      go_simp
                      exact hK.out _ _ (Grw.refl _) rfl
                    refine VSteps.cons (VStep.mk Grw.trans rfl rfl fun t V hout hE hdep K hK => ?_) ?_
                    · skip
                      have t17 := by_is (W := V) (hdep 4 17 (by kernel_rfl))
                      have t21 := by_is (W := V) (hdep 8 21 (by kernel_rfl))
                      clear hout hdep
                      go_simp
                      exact hK.out _ _ (Grw.refl _) rfl
                    refine VSteps.cons (VStep.mk Grw.trans rfl rfl fun t V hout hE hdep K hK => ?_) ?_
                    · skip
                      have t22 := by_is (W := V) (hdep 9 22 (by kernel_rfl))
                      clear hout hdep
                      go_simp
                      exact hK.out _ _ (Grw.refl _) rfl
                    refine VSteps.cons (VStep.mkG Grw.trans (dg := 23) rfl rfl (by kernel_rfl) (fun _ _ h => h) fun t V hout hE hdep K hK => ?_) ?_
                    · skip
                      have t3 : t[3]? = some _ := hout 3 (by kernel_rfl)
                      clear hout hdep
                      go_simp
                      exact hK.out _ _ (Grw.refl _) rfl
                    refine VSteps.cons (VStep.mkG Grw.trans (dg := 23) rfl rfl (by kernel_rfl) (fun _ _ h => h) fun t V hout hE hdep K hK => ?_) ?_
                    · skip
                      have t24 := by_is (W := V) (hdep 11 24 (by kernel_rfl))
                      clear hout hdep
                      go_simp
                      exact hK.out _ _ (Grw.refl _) rfl
                    refine VSteps.cons (VStep.mkG Grw.trans (dg := 23) rfl rfl (by kernel_rfl) (fun _ _ h => h) fun t V hout hE hdep K hK => ?_) ?_
                    · skip
                      have t25 := by_is (W := V) (hdep 12 25 (by kernel_rfl))
                      clear hout hdep
                      go_simp
                      exact hK.out _ _ (Grw.refl _) rfl
                    refine VSteps.cons (VStep.mkG Grw.trans (dg := 26) rfl rfl (by kernel_rfl) (fun _ _ h => h) fun t V hout hE hdep K hK => ?_) ?_
                    · skip
                      have t0 : t[0]? = some _ := hout 0 (by kernel_rfl)
                      clear hout hdep
                      go_simp
                      exact hK.out _ _ (Grw.refl _) rfl
                    refine VSteps.cons (VStep.mkG Grw.trans (dg := 26) rfl rfl (by kernel_rfl) (fun _ _ h => h) fun t V hout hE hdep K hK => ?_) ?_
                    · skip
                      have t3 : t[3]? = some _ := hout 3 (by kernel_rfl)
                      clear hout hdep
                      go_simp
                      exact hK.out _ _ (Grw.refl _) rfl
                    refine VSteps.cons (VStep.mkG Grw.trans (dg := 26) rfl rfl (by kernel_rfl) (fun _ _ h => h) fun t V hout hE hdep K hK => ?_) ?_
                    · skip
                      have t28 := by_is (W := V) (hdep 15 28 (by kernel_rfl))
                      clear hout hdep
                      go_simp
                      exact hK.out _ _ (Grw.refl _) rfl
                    refine VSteps.cons (VStep.mkG Grw.trans (dg := 26) rfl rfl (by kernel_rfl) (fun _ _ h => h) fun t V hout hE hdep K hK => ?_) ?_
                    · skip
                      have t27 := by_is (W := V) (hdep 14 27 (by kernel_rfl))
                      have t29 := by_is (W := V) (hdep 16 29 (by kernel_rfl))
                      clear hout hdep
                      go_simp
                      exact hK.out _ _ (Grw.refl _) rfl
                    refine VSteps.cons (VStep.mkG Grw.trans (dg := 26) rfl rfl (by kernel_rfl) (fun _ _ h => h) fun t V hout hE hdep K hK => ?_) ?_
                    · skip
                      have t30 := by_is (W := V) (hdep 17 30 (by kernel_rfl))
                      clear hout hdep
                      obtain ⟨p0, p1, p2, pl⟩ := HPV.out V (HBW.out.trans (Below.mono hE (by have := HBW.out.size; omega)))
                      go_simp
                      exact hK.out _ _ (Grw.refl _) rfl
                    refine VSteps.cons (VStep.mkG Grw.trans (dg := 26) rfl rfl (by kernel_rfl) (fun _ _ h => h) fun t V hout hE hdep K hK => ?_) ?_
                    · skip
                      have t4 : t[4]? = some _ := hout 4 (by kernel_rfl)
                      clear hout hdep
                      obtain ⟨k0, k1, k2, kl⟩ := (VB.out.keep hE).cells
                      go_simp
                      exact hK.out _ _ (Grw.refl _) rfl
                    refine VSteps.cons (VStep.mkG Grw.trans (dg := 26) rfl rfl (by kernel_rfl) (fun _ _ h => h) fun t V hout hE hdep K hK => ?_) ?_
                    · skip
                      have t31 := by_is (W := V) (hdep 18 31 (by kernel_rfl))
                      have t32 := by_is (W := V) (hdep 19 32 (by kernel_rfl))
                      clear hout hdep
                      go_simp
                      refine (cmp_any (xs[m]) (xs[m + 1]) _ _ _ _ _ _ _ HF1.out HF2.out HF3.out HF4.out).mono ?_
                      rintro e W5 ⟨⟨x, rfl, hx, _⟩, hb5⟩
                      go_simp
                      exact hK.out _ _ hb5 ⟨x, rfl, hx⟩
                    refine VSteps.cons (VStep.mkG Grw.trans (dg := 26) rfl rfl (by kernel_rfl) (fun _ _ h => h) fun t V hout hE hdep K hK => ?_) ?_
                    · skip
                      obtain ⟨v33, t33, e33⟩ := hdep 20 33 (by kernel_rfl)
                      clear hout hdep
                      obtain ⟨x, rfl, hx⟩ := e33
                      have hx0 : decide (0 ≤ x) = false := by simp; exact Int.not_le.1 (fun h => hx.1 h HBF.out)
                      clear hx
                      go_simp
                      exact hK.out _ _ (Grw.refl _) rfl
                    refine VSteps.cons (VStep.mkG Grw.trans (dg := 23) rfl rfl (by kernel_rfl) (fun _ _ h => h) fun t V hout hE hdep K hK => ?_) ?_
                    · skip
                      have t26 := by_is (W := V) (hdep 13 26 (by kernel_rfl))
                      have t34 := by_is (W := V) (hdep 21 34 (by kernel_rfl))
                      clear hout hdep
                      go_simp
                      exact hK.out _ _ (Grw.refl _) rfl
                    refine VSteps.cons (VStep.mk Grw.trans rfl rfl fun t V hout hE hdep K hK => ?_) ?_
                    · skip
                      have t23 := by_is (W := V) (hdep 10 23 (by kernel_rfl))
                      have t35 := by_is (W := V) (hdep 22 35 (by kernel_rfl))
                      clear hout hdep
                      go_simp
                      exact hK.out _ _ (Grw.refl _) rfl
                    refine VSteps.cons (VStep.mk Grw.trans rfl rfl fun t V hout hE hdep K hK => ?_) ?_
                    · skip
                      have t36 := by_is (W := V) (hdep 23 36 (by kernel_rfl))
                      clear hout hdep
                      go_simp
                      exact hK.out _ _ (Grw.refl _) rfl
                    refine VSteps.cons (VStep.mkG Grw.trans (dg := 37) rfl rfl (by kernel_rfl) (fun _ _ h => h) fun t V hout hE hdep K hK => ?_) ?_
                    · skip
                      have t4 : t[4]? = some _ := hout 4 (by kernel_rfl)
                      clear hout hdep
                      go_simp
                      exact hK.out _ _ (Grw.refl _) rfl
                    refine VSteps.cons (VStep.mkG Grw.trans (dg := 37) rfl rfl (by kernel_rfl) (fun _ _ h => h) fun t V hout hE hdep K hK => ?_) ?_
                    · skip
                      have t38 := by_is (W := V) (hdep 25 38 (by kernel_rfl))
                      clear hout hdep
                      obtain ⟨k0, k1, k2, kl⟩ := (VB.out.keep hE).cells
                      go_simp
                      exact hK.out _ _ (Grw.refl _) rfl
                    refine VSteps.cons (VStep.mkG Grw.trans (dg := 37) rfl rfl (by kernel_rfl) (fun _ _ h => h) fun t V hout hE hdep K hK => ?_) ?_
                    · skip
                      have t39 := by_is (W := V) (hdep 26 39 (by kernel_rfl))
                      clear hout hdep
                      go_simp
                      exact hK.out _ _ (Grw.refl _) rfl
                    refine VSteps.cons (VStep.mkG Grw.trans (dg := 37) rfl rfl (by kernel_rfl) (fun _ _ h => h) fun t V hout hE hdep K hK => ?_) ?_
                    · skip
                      have t40 := by_is (W := V) (hdep 27 40 (by kernel_rfl))
                      clear hout hdep
                      go_simp
                      exact hK.out _ _ (Grw.refl _) rfl
                    refine VSteps.cons (VStep.mk Grw.trans rfl rfl fun t V hout hE hdep K hK => ?_) ?_
                    · skip
                      have t37 := by_is (W := V) (hdep 24 37 (by kernel_rfl))
                      have t41 := by_is (W := V) (hdep 28 41 (by kernel_rfl))
                      clear hout hdep
                      go_simp
                      exact hK.out _ _ (Grw.refl _) rfl
                    refine VSteps.cons (VStep.mk Grw.trans rfl rfl fun t V hout hE hdep K hK => ?_) ?_
                    · skip
                      have t42 := by_is (W := V) (hdep 29 42 (by kernel_rfl))
                      clear hout hdep
                      go_simp
                      exact hK.out _ _ (Grw.refl _) rfl
                    refine VSteps.cons (VStep.mkG Grw.trans (dg := 43) rfl rfl (by kernel_rfl) (fun _ _ h => h) fun t V hout hE hdep K hK => ?_) ?_
                    · skip
                      have t4 : t[4]? = some _ := hout 4 (by kernel_rfl)
                      clear hout hdep
                      go_simp
                      exact hK.out _ _ (Grw.refl _) rfl
                    refine VSteps.cons (VStep.mkG Grw.trans (dg := 43) rfl rfl (by kernel_rfl) (fun _ _ h => h) fun t V hout hE hdep K hK => ?_) ?_
                    · skip
                      have t44 := by_is (W := V) (hdep 31 44 (by kernel_rfl))
                      clear hout hdep
                      obtain ⟨k0, k1, k2, kl⟩ := (VB.out.keep hE).cells
                      go_simp
                      exact hK.out _ _ (Grw.refl _) rfl
                    refine VSteps.cons (VStep.mkG Grw.trans (dg := 43) rfl rfl (by kernel_rfl) (fun _ _ h => h) fun t V hout hE hdep K hK => ?_) ?_
                    · skip
                      have t45 := by_is (W := V) (hdep 32 45 (by kernel_rfl))
                      clear hout hdep
                      go_simp
                      exact hK.out _ _ (Grw.refl _) rfl
                    refine VSteps.cons (VStep.mkG Grw.trans (dg := 43) rfl rfl (by kernel_rfl) (fun _ _ h => h) fun t V hout hE hdep K hK => ?_) ?_
                    · skip
                      have t46 := by_is (W := V) (hdep 33 46 (by kernel_rfl))
                      clear hout hdep
                      obtain ⟨s0, sl⟩ := HS0.out V (HBW.out.trans (Below.mono hE (by have := HBW.out.size; omega)))
                      go_simp
                      exact hK.out _ _ (Grw.refl _) rfl
                    refine VSteps.cons (VStep.mkG Grw.trans (dg := 43) rfl rfl (by kernel_rfl) (fun _ _ h => h) fun t V hout hE hdep K hK => ?_) ?_
                    · skip
                      have t47 := by_is (W := V) (hdep 34 47 (by kernel_rfl))
                      clear hout hdep
                      go_simp
                      exact hK.out _ _ (Grw.refl _) rfl
                    refine VSteps.cons (VStep.mk Grw.trans rfl rfl fun t V hout hE hdep K hK => ?_) ?_
                    · skip
                      have t43 := by_is (W := V) (hdep 30 43 (by kernel_rfl))
                      have t48 := by_is (W := V) (hdep 35 48 (by kernel_rfl))
                      clear hout hdep
                      go_simp
                      exact hK.out _ _ (Grw.refl _) rfl
                    exact VSteps.nil (by decide)
                  · intro f W hE hF
                    have f13 : f 13 = _ := hF 0 13 (by kernel_rfl)
                    have f14 : f 14 = _ := hF 1 14 (by kernel_rfl)
                    have f15 : f 15 = _ := hF 2 15 (by kernel_rfl)
                    have f16 : f 16 = _ := hF 3 16 (by kernel_rfl)
                    have f17 : f 17 = _ := hF 4 17 (by kernel_rfl)
                    have f18 : f 18 = _ := hF 5 18 (by kernel_rfl)
                    have f19 : f 19 = _ := hF 6 19 (by kernel_rfl)
                    have f20 : f 20 = _ := hF 7 20 (by kernel_rfl)
                    have f21 : f 21 = _ := hF 8 21 (by kernel_rfl)
                    have f22 : f 22 = _ := hF 9 22 (by kernel_rfl)
                    have f23 : f 23 = _ := hF 10 23 (by kernel_rfl)
                    have f24 : f 24 = _ := hF 11 24 (by kernel_rfl)
                    have f25 : f 25 = _ := hF 12 25 (by kernel_rfl)
                    have f26 : f 26 = _ := hF 13 26 (by kernel_rfl)
                    have f27 : f 27 = _ := hF 14 27 (by kernel_rfl)
                    have f28 : f 28 = _ := hF 15 28 (by kernel_rfl)
                    have f29 : f 29 = _ := hF 16 29 (by kernel_rfl)
                    have f30 : f 30 = _ := hF 17 30 (by kernel_rfl)
                    have f31 : f 31 = _ := hF 18 31 (by kernel_rfl)
                    have f32 : f 32 = _ := hF 19 32 (by kernel_rfl)
                    have f33 := hF 20 33 (by kernel_rfl)
                    have f34 : f 34 = _ := hF 21 34 (by kernel_rfl)
                    have f35 : f 35 = _ := hF 22 35 (by kernel_rfl)
                    have f36 : f 36 = _ := hF 23 36 (by kernel_rfl)
                    have f37 : f 37 = _ := hF 24 37 (by kernel_rfl)
                    have f38 : f 38 = _ := hF 25 38 (by kernel_rfl)
                    have f39 : f 39 = _ := hF 26 39 (by kernel_rfl)
                    have f40 : f 40 = _ := hF 27 40 (by kernel_rfl)
                    have f41 : f 41 = _ := hF 28 41 (by kernel_rfl)
                    have f42 : f 42 = _ := hF 29 42 (by kernel_rfl)
                    have f43 : f 43 = _ := hF 30 43 (by kernel_rfl)
                    have f44 : f 44 = _ := hF 31 44 (by kernel_rfl)
                    have f45 : f 45 = _ := hF 32 45 (by kernel_rfl)
                    have f46 : f 46 = _ := hF 33 46 (by kernel_rfl)
                    have f47 : f 47 = _ := hF 34 47 (by kernel_rfl)
                    have f48 : f 48 = _ := hF 35 48 (by kernel_rfl)
                    have f49 : f 49 = _ := hF 36 49 (by kernel_rfl)
                    simp only [setAllV, List.map_cons, List.map_nil, List.set_cons_succ, List.set_cons_zero, f13, f14, f15, f16, f17, f18, f19, f20, f21, f22, f23, f24, f25, f26, f27, f28, f29, f30, f31, f32, f34, f35, f36, f37, f38, f39, f40, f41, f42, f43, f44, f45, f46, f47, f48, f49]
                    clear hF f13 f14 f15 f16 f17 f18 f19 f20 f21 f22 f23 f24 f25 f26 f27 f28 f29 f30 f31 f32 f34 f35 f36 f37 f38 f39 f40 f41 f42 f43 f44 f45 f46 f47 f48 f49
                    generalize f 33 = v33 at *
                    have HBE := Lib.hid (HBW.out.trans (Below.mono hE (by have := HBW.out.size; omega)))
                    have VBE := Lib.hid (VB.out.keep hE)
                    clear hE
                    go_wp2_with fail
                    go_loopw [5] (fun i w5 => ∃ j : Nat, 1 ≤ j ∧ j ≤ xs[m + 1].slots.length ∧ i = .int .i64 j ∧ Below w.heap.size w w5 ∧ VbW p xs[m + 1] (some ⟨sb, so, none⟩) rc w5 ∧ ∀ t (h : t + 1 < xs[m + 1].slots.length), t + 1 < j → xs[m + 1].slots[t] < xs[m + 1].slots[t + 1]) (fun i _ => xs[m + 1].slots.length - (intOf i).toNat)
                    case atStart => exact ⟨1, by omega, by omega, rfl, HBE.out, VBE.out, fun t h h2 => by omega⟩
                    case round =>
                      obtain ⟨j, hj1, hj, rfl, hb5, hvb, hasc⟩ := hrel
                      have HASC := Lib.hid hasc
                      obtain ⟨q0, q1, q2, ql⟩ := hvb.cells
                      have HVB := Lib.hid hvb
                      have HB5 := Lib.hid hb5
                      clear hvb hasc HBE VBE
                      by_cases hj3 : j < xs[m + 1].slots.length
                      · obtain ⟨t, rfl⟩ : ∃ t, j = t + 1 := ⟨j - 1, by omega⟩
                        obtain ⟨s1, sl⟩ := HSC.out _ hb5 (t + 1) hj3
                        obtain ⟨s0, _⟩ := HSC.out _ hb5 t (by omega)
                        have s1' : wr.cell? ⟨sb, so + t + 1, none⟩ = some (.int .i64 (xs[m + 1].slots[t + 1])) := s1
                        have ht1 : (t : Int) < xs[m + 1].slots.length := by omega
                        have ht2 : (t : Int) + 1 < xs[m + 1].slots.length := by omega
                        have hw : IntKind.i64.wrap ((t : Int) + 1 - 1) = t := by rw [IntWalk.i64_in _ (by omega)]; omega
                        have hw2 : IntKind.i64.wrap (t : Int) = t := IntWalk.i64_in _ (by omega)
                        clear hb5
                        by_cases hle : xs[m + 1].slots[t + 1] ≤ xs[m + 1].slots[t]
                        · have kle : decide (xs[m + 1].slots[t + 1] ≤ xs[m + 1].slots[t]) = true := by simpa using hle
                          have HBAD : Hid (¬ SetsOk xs) := Lib.hid fun h => by obtain ⟨_, _, h3⟩ := (h (m + 1) hlt).2.2.2; have := h3 t hj3; omega
                          clear hle
                          go_wp2_with fail
                          go_quiet (fail)
                          go_wp2
                          go_ret
                          exact ⟨⟨false, rfl, fun h => (by cases h), fun h => absurd h HBAD.out⟩, HB5.out.trans ⟨rfl, rfl, rfl, Nat.le_refl _, fun _ _ => rfl⟩⟩
                        · have kle : decide (xs[m + 1].slots[t + 1] ≤ xs[m + 1].slots[t]) = false := by simpa using hle
                          have HLT : Hid (xs[m + 1].slots[t] < xs[m + 1].slots[t + 1]) := Lib.hid (by omega)
                          clear hle
                          go_wp2_with fail
                          go_quiet (fail)
                          go_wp2
                          go_roundw
                          case rel => exact ⟨t + 1 + 1, by omega, by omega, by go_num, HB5.out.trans ⟨rfl, rfl, rfl, Nat.le_refl _, fun _ _ => rfl⟩, HVB.out.keep ⟨rfl, rfl, rfl, Nat.le_refl _, fun _ _ => rfl⟩, fun t' h1 h2 => by
                            by_cases e : t' = t
                            · subst e; exact HLT.out
                            · exact HASC.out t' h1 (by omega)⟩
                          case measure => simp [intOf]; omega
                      · have HST : Hid (StOk xs (m + 1) hlt) := Lib.hid ⟨D1.out, D2.out, fun m2 hm => (by have e : m2 = m := (by omega); subst e; exact HBF.out), hps, H0.out, fun t h => HASC.out t h (by omega)⟩
                        clear hb5
                        go_wp2
                        go_roundw
                        case rel => exact ⟨m + 1 + 1, by omega, by go_num, HB5.out, fun j' h1 h2 => by
                          by_cases e : j' = m + 1
                          · subst e; exact HST.out
                          · exact HOK.out j' h1 (by omega)⟩
                        case measure => simp [intOf]; omega
            · have HNB := Lib.hid hbf
              have HBAD : Hid (¬ SetsOk xs) := Lib.hid fun h => hbf ((h (m + 1) hlt).2.2.1 m rfl)
              clear hbf
              go_wp2_with fail
              apply wp_region_vals (by kernel_rfl) Grw (Grw.drew _) [13, 14, 15, 16, 17, 18, 19, 20, 21, 22, 23, 24, 25, 26, 27, 28, 29, 30, 31, 32, 33, 34, 35, 36, 37, 38, 39, 40, 41, 42, 43, 44, 45, 46, 47, 48, 49] [Is _, Is _, Is (.bool true), Is _, Is _, Is _, Is _, Is (.bool true), Is _, Is _, Is _, Is _, Is _, Is _, Is _, Is _, Is _, Is _, Is _, Is _, (CmF (xs[m]) (xs[m + 1])), Is (.bool true), Is _, Is _, Is _, Is _, Is _, Is _, Is _, Is _, Is _, Is _, Is _, Is _, Is _, Is _, Is _] (stb_cons (Stb.is) (stb_cons (Stb.is) (stb_cons (Stb.is) (stb_cons (Stb.is) (stb_cons (Stb.is) (stb_cons (Stb.is) (stb_cons (Stb.is) (stb_cons (Stb.is) (stb_cons (Stb.is) (stb_cons (Stb.is) (stb_cons (Stb.is) (stb_cons (Stb.is) (stb_cons (Stb.is) (stb_cons (Stb.is) (stb_cons (Stb.is) (stb_cons (Stb.is) (stb_cons (Stb.is) (stb_cons (Stb.is) (stb_cons (Stb.is) (stb_cons (Stb.is) (stb_cons (CmF.stb) (stb_cons (Stb.is) (stb_cons (Stb.is) (stb_cons (Stb.is) (stb_cons (Stb.is) (stb_cons (Stb.is) (stb_cons (Stb.is) (stb_cons (Stb.is) (stb_cons (Stb.is) (stb_cons (Stb.is) (stb_cons (Stb.is) (stb_cons (Stb.is) (stb_cons (Stb.is) (stb_cons (Stb.is) (stb_cons (Stb.is) (stb_cons (Stb.is) (stb_cons (Stb.is) stb_nil))))))))))))))))))))))))))))))))))))) (by kernel_rfl) (by kernel_rfl) (by kernel_rfl)
              · refine VSteps.cons (VStep.mk Grw.trans rfl rfl fun t V hout hE hdep K hK => ?_) ?_
                · skip
                  have t4 : t[4]? = some _ := hout 4 (by kernel_rfl)
                  clear hout hdep
                  go_simp
                  exact hK.out _ _ (Grw.refl _) rfl
                refine VSteps.cons (VStep.mk Grw.trans rfl rfl fun t V hout hE hdep K hK => ?_) ?_
                · skip
                  have t13 := by_is (W := V) (hdep 0 13 (by kernel_rfl))
                  clear hout hdep
                  obtain ⟨k0, k1, k2, kl⟩ := (VB.out.keep hE).cells
                  go_simp
                  exact hK.out _ _ (Grw.refl _) rfl
                refine VSteps.cons (VStep.mk Grw.trans rfl rfl fun t V hout hE hdep K hK => ?_) ?_
                · skip
                  have t14 := by_is (W := V) (hdep 1 14 (by kernel_rfl))
                  clear hout hdep
                  go_simp
                  refine (in_any _ _).mono ?_
                  rintro e W5 ⟨⟨x, rfl, hx⟩, rfl⟩
                  obtain rfl : x = true := hx.2 D1.out
                  go_simp
                  exact hK.out _ _ (Grw.refl _) rfl
                refine VSteps.cons (VStep.mk Grw.trans rfl rfl fun t V hout hE hdep K hK => ?_) ?_
                · skip
                  have t15 := by_is (W := V) (hdep 2 15 (by kernel_rfl))
                  clear hout hdep
                  go_simp
                  exact hK.out _ _ (Grw.refl _) rfl
                refine VSteps.cons (VStep.mk Grw.trans rfl rfl fun t V hout hE hdep K hK => ?_) ?_
                · skip
                  have t16 := by_is (W := V) (hdep 3 16 (by kernel_rfl))
                  clear hout hdep
                  go_simp
                  exact hK.out _ _ (Grw.refl _) rfl
                refine VSteps.cons (VStep.mkG Grw.trans (dg := 17) rfl rfl (by kernel_rfl) (fun _ _ h => h) fun t V hout hE hdep K hK => ?_) ?_
                · skip
                  have t4 : t[4]? = some _ := hout 4 (by kernel_rfl)
                  clear hout hdep
                  go_simp
                  exact hK.out _ _ (Grw.refl _) rfl
                refine VSteps.cons (VStep.mkG Grw.trans (dg := 17) rfl rfl (by kernel_rfl) (fun _ _ h => h) fun t V hout hE hdep K hK => ?_) ?_
                · skip
                  have t18 := by_is (W := V) (hdep 5 18 (by kernel_rfl))
                  clear hout hdep
                  obtain ⟨k0, k1, k2, kl⟩ := (VB.out.keep hE).cells
                  go_simp
                  exact hK.out _ _ (Grw.refl _) rfl
                refine VSteps.cons (VStep.mkG Grw.trans (dg := 17) rfl rfl (by kernel_rfl) (fun _ _ h => h) fun t V hout hE hdep K hK => ?_) ?_
                · skip
                  have t19 := by_is (W := V) (hdep 6 19 (by kernel_rfl))
                  clear hout hdep
                  go_simp
                  refine (in_any _ _).mono ?_
                  rintro e W5 ⟨⟨x, rfl, hx⟩, rfl⟩
                  obtain rfl : x = true := hx.2 D2.out
                  go_simp
                  exact hK.out _ _ (Grw.refl _) rfl
                refine VSteps.cons (VStep.mkG Grw.trans (dg := 17) rfl rfl (by kernel_rfl) (fun _ _ h => h) fun t V hout hE hdep K hK => ?_) ?_
                · skip
                  have t20 := by_is (W := V) (hdep 7 20 (by kernel_rfl))
                  clear hout hdep
                  go_simp
                  exact hK.out _ _ (Grw.refl _) rfl
                refine VSteps.cons (VStep.mk Grw.trans rfl rfl fun t V hout hE hdep K hK => ?_) ?_
                · skip
                  have t17 := by_is (W := V) (hdep 4 17 (by kernel_rfl))
                  have t21 := by_is (W := V) (hdep 8 21 (by kernel_rfl))
                  clear hout hdep
                  go_simp
                  exact hK.out _ _ (Grw.refl _) rfl
                refine VSteps.cons (VStep.mk Grw.trans rfl rfl fun t V hout hE hdep K hK => ?_) ?_
                · skip
                  have t22 := by_is (W := V) (hdep 9 22 (by kernel_rfl))
                  clear hout hdep
                  go_simp
                  exact hK.out _ _ (Grw.refl _) rfl
                refine VSteps.cons (VStep.mkG Grw.trans (dg := 23) rfl rfl (by kernel_rfl) (fun _ _ h => h) fun t V hout hE hdep K hK => ?_) ?_
                · skip
                  have t3 : t[3]? = some _ := hout 3 (by kernel_rfl)
                  clear hout hdep
                  go_simp
                  exact hK.out _ _ (Grw.refl _) rfl
                refine VSteps.cons (VStep.mkG Grw.trans (dg := 23) rfl rfl (by kernel_rfl) (fun _ _ h => h) fun t V hout hE hdep K hK => ?_) ?_
                · skip
                  have t24 := by_is (W := V) (hdep 11 24 (by kernel_rfl))
                  clear hout hdep
                  go_simp
                  exact hK.out _ _ (Grw.refl _) rfl
                refine VSteps.cons (VStep.mkG Grw.trans (dg := 23) rfl rfl (by kernel_rfl) (fun _ _ h => h) fun t V hout hE hdep K hK => ?_) ?_
                · skip
                  have t25 := by_is (W := V) (hdep 12 25 (by kernel_rfl))
                  clear hout hdep
                  go_simp
                  exact hK.out _ _ (Grw.refl _) rfl
                refine VSteps.cons (VStep.mkG Grw.trans (dg := 26) rfl rfl (by kernel_rfl) (fun _ _ h => h) fun t V hout hE hdep K hK => ?_) ?_
                · skip
                  have t0 : t[0]? = some _ := hout 0 (by kernel_rfl)
                  clear hout hdep
                  go_simp
                  exact hK.out _ _ (Grw.refl _) rfl
                refine VSteps.cons (VStep.mkG Grw.trans (dg := 26) rfl rfl (by kernel_rfl) (fun _ _ h => h) fun t V hout hE hdep K hK => ?_) ?_
                · skip
                  have t3 : t[3]? = some _ := hout 3 (by kernel_rfl)
                  clear hout hdep
                  go_simp
                  exact hK.out _ _ (Grw.refl _) rfl
                refine VSteps.cons (VStep.mkG Grw.trans (dg := 26) rfl rfl (by kernel_rfl) (fun _ _ h => h) fun t V hout hE hdep K hK => ?_) ?_
                · skip
                  have t28 := by_is (W := V) (hdep 15 28 (by kernel_rfl))
                  clear hout hdep
                  go_simp
                  exact hK.out _ _ (Grw.refl _) rfl
                refine VSteps.cons (VStep.mkG Grw.trans (dg := 26) rfl rfl (by kernel_rfl) (fun _ _ h => h) fun t V hout hE hdep K hK => ?_) ?_
                · skip
                  have t27 := by_is (W := V) (hdep 14 27 (by kernel_rfl))
                  have t29 := by_is (W := V) (hdep 16 29 (by kernel_rfl))
                  clear hout hdep
                  go_simp
                  exact hK.out _ _ (Grw.refl _) rfl
                refine VSteps.cons (VStep.mkG Grw.trans (dg := 26) rfl rfl (by kernel_rfl) (fun _ _ h => h) fun t V hout hE hdep K hK => ?_) ?_
                · skip
                  have t30 := by_is (W := V) (hdep 17 30 (by kernel_rfl))
                  clear hout hdep
                  obtain ⟨p0, p1, p2, pl⟩ := HPV.out V (HBW.out.trans (Below.mono hE (by have := HBW.out.size; omega)))
                  go_simp
                  exact hK.out _ _ (Grw.refl _) rfl
                refine VSteps.cons (VStep.mkG Grw.trans (dg := 26) rfl rfl (by kernel_rfl) (fun _ _ h => h) fun t V hout hE hdep K hK => ?_) ?_
                · skip
                  have t4 : t[4]? = some _ := hout 4 (by kernel_rfl)
                  clear hout hdep
                  obtain ⟨k0, k1, k2, kl⟩ := (VB.out.keep hE).cells
                  go_simp
                  exact hK.out _ _ (Grw.refl _) rfl
                refine VSteps.cons (VStep.mkG Grw.trans (dg := 26) rfl rfl (by kernel_rfl) (fun _ _ h => h) fun t V hout hE hdep K hK => ?_) ?_
                · skip
                  have t31 := by_is (W := V) (hdep 18 31 (by kernel_rfl))
                  have t32 := by_is (W := V) (hdep 19 32 (by kernel_rfl))
                  clear hout hdep
                  go_simp
                  refine (cmp_any (xs[m]) (xs[m + 1]) _ _ _ _ _ _ _ HF1.out HF2.out HF3.out HF4.out).mono ?_
                  rintro e W5 ⟨⟨x, rfl, hx, _⟩, hb5⟩
                  go_simp
                  exact hK.out _ _ hb5 ⟨x, rfl, hx⟩
                refine VSteps.cons (VStep.mkG Grw.trans (dg := 26) rfl rfl (by kernel_rfl) (fun _ _ h => h) fun t V hout hE hdep K hK => ?_) ?_
                · skip
                  obtain ⟨v33, t33, e33⟩ := hdep 20 33 (by kernel_rfl)
                  clear hout hdep
                  obtain ⟨x, rfl, hx⟩ := e33
                  have hx0 : decide (0 ≤ x) = true := by simp; exact hx.2 HNB.out
                  clear hx
                  go_simp
                  exact hK.out _ _ (Grw.refl _) rfl
                refine VSteps.cons (VStep.mkG Grw.trans (dg := 23) rfl rfl (by kernel_rfl) (fun _ _ h => h) fun t V hout hE hdep K hK => ?_) ?_
                · skip
                  have t26 := by_is (W := V) (hdep 13 26 (by kernel_rfl))
                  have t34 := by_is (W := V) (hdep 21 34 (by kernel_rfl))
                  clear hout hdep
                  go_simp
                  exact hK.out _ _ (Grw.refl _) rfl
                refine VSteps.cons (VStep.mk Grw.trans rfl rfl fun t V hout hE hdep K hK => ?_) ?_
                · skip
                  have t23 := by_is (W := V) (hdep 10 23 (by kernel_rfl))
                  have t35 := by_is (W := V) (hdep 22 35 (by kernel_rfl))
                  clear hout hdep
                  go_simp
                  exact hK.out _ _ (Grw.refl _) rfl
                refine VSteps.cons (VStep.mk Grw.trans rfl rfl fun t V hout hE hdep K hK => ?_) ?_
                · skip
                  have t36 := by_is (W := V) (hdep 23 36 (by kernel_rfl))
                  clear hout hdep
                  go_simp
                  exact hK.out _ _ (Grw.refl _) rfl
                refine VSteps.cons (VStep.mkN Grw.refl (dg := 37) rfl rfl (by kernel_rfl) (fun _ _ h => h) (fun _ => rfl)) ?_
                refine VSteps.cons (VStep.mkN Grw.refl (dg := 37) rfl rfl (by kernel_rfl) (fun _ _ h => h) (fun _ => rfl)) ?_
                refine VSteps.cons (VStep.mkN Grw.refl (dg := 37) rfl rfl (by kernel_rfl) (fun _ _ h => h) (fun _ => rfl)) ?_
                refine VSteps.cons (VStep.mkN Grw.refl (dg := 37) rfl rfl (by kernel_rfl) (fun _ _ h => h) (fun _ => rfl)) ?_
                refine VSteps.cons (VStep.mk Grw.trans rfl rfl fun t V hout hE hdep K hK => ?_) ?_
                · skip
                  have t37 := by_is (W := V) (hdep 24 37 (by kernel_rfl))
                  have t41 := by_is (W := V) (hdep 28 41 (by kernel_rfl))
                  clear hout hdep
                  go_simp
                  exact hK.out _ _ (Grw.refl _) rfl
                refine VSteps.cons (VStep.mk Grw.trans rfl rfl fun t V hout hE hdep K hK => ?_) ?_
                · skip
                  have t42 := by_is (W := V) (hdep 29 42 (by kernel_rfl))
                  clear hout hdep
                  go_simp
                  exact hK.out _ _ (Grw.refl _) rfl
                refine VSteps.cons (VStep.mkN Grw.refl (dg := 43) rfl rfl (by kernel_rfl) (fun _ _ h => h) (fun _ => rfl)) ?_
                refine VSteps.cons (VStep.mkN Grw.refl (dg := 43) rfl rfl (by kernel_rfl) (fun _ _ h => h) (fun _ => rfl)) ?_
                refine VSteps.cons (VStep.mkN Grw.refl (dg := 43) rfl rfl (by kernel_rfl) (fun _ _ h => h) (fun _ => rfl)) ?_
                refine VSteps.cons (VStep.mkN Grw.refl (dg := 43) rfl rfl (by kernel_rfl) (fun _ _ h => h) (fun _ => rfl)) ?_
                refine VSteps.cons (VStep.mkN Grw.refl (dg := 43) rfl rfl (by kernel_rfl) (fun _ _ h => h) (fun _ => rfl)) ?_
                refine VSteps.cons (VStep.mk Grw.trans rfl rfl fun t V hout hE hdep K hK => ?_) ?_
                · skip
                  have t43 := by_is (W := V) (hdep 30 43 (by kernel_rfl))
                  have t48 := by_is (W := V) (hdep 35 48 (by kernel_rfl))
                  clear hout hdep
                  go_simp
                  exact hK.out _ _ (Grw.refl _) rfl
                exact VSteps.nil (by decide)
              · intro f W hE hF
                have f13 : f 13 = _ := hF 0 13 (by kernel_rfl)
                have f14 : f 14 = _ := hF 1 14 (by kernel_rfl)
                have f15 : f 15 = _ := hF 2 15 (by kernel_rfl)
                have f16 : f 16 = _ := hF 3 16 (by kernel_rfl)
                have f17 : f 17 = _ := hF 4 17 (by kernel_rfl)
                have f18 : f 18 = _ := hF 5 18 (by kernel_rfl)
                have f19 : f 19 = _ := hF 6 19 (by kernel_rfl)
                have f20 : f 20 = _ := hF 7 20 (by kernel_rfl)
                have f21 : f 21 = _ := hF 8 21 (by kernel_rfl)
                have f22 : f 22 = _ := hF 9 22 (by kernel_rfl)
                have f23 : f 23 = _ := hF 10 23 (by kernel_rfl)
                have f24 : f 24 = _ := hF 11 24 (by kernel_rfl)
                have f25 : f 25 = _ := hF 12 25 (by kernel_rfl)
                have f26 : f 26 = _ := hF 13 26 (by kernel_rfl)
                have f27 : f 27 = _ := hF 14 27 (by kernel_rfl)
                have f28 : f 28 = _ := hF 15 28 (by kernel_rfl)
                have f29 : f 29 = _ := hF 16 29 (by kernel_rfl)
                have f30 : f 30 = _ := hF 17 30 (by kernel_rfl)
                have f31 : f 31 = _ := hF 18 31 (by kernel_rfl)
                have f32 : f 32 = _ := hF 19 32 (by kernel_rfl)
                have f33 := hF 20 33 (by kernel_rfl)
                have f34 : f 34 = _ := hF 21 34 (by kernel_rfl)
                have f35 : f 35 = _ := hF 22 35 (by kernel_rfl)
                have f36 : f 36 = _ := hF 23 36 (by kernel_rfl)
                have f37 : f 37 = _ := hF 24 37 (by kernel_rfl)
                have f38 : f 38 = _ := hF 25 38 (by kernel_rfl)
                have f39 : f 39 = _ := hF 26 39 (by kernel_rfl)
                have f40 : f 40 = _ := hF 27 40 (by kernel_rfl)
                have f41 : f 41 = _ := hF 28 41 (by kernel_rfl)
                have f42 : f 42 = _ := hF 29 42 (by kernel_rfl)
                have f43 : f 43 = _ := hF 30 43 (by kernel_rfl)
                have f44 : f 44 = _ := hF 31 44 (by kernel_rfl)
                have f45 : f 45 = _ := hF 32 45 (by kernel_rfl)
                have f46 : f 46 = _ := hF 33 46 (by kernel_rfl)
                have f47 : f 47 = _ := hF 34 47 (by kernel_rfl)
                have f48 : f 48 = _ := hF 35 48 (by kernel_rfl)
                have f49 : f 49 = _ := hF 36 49 (by kernel_rfl)
                simp only [setAllV, List.map_cons, List.map_nil, List.set_cons_succ, List.set_cons_zero, f13, f14, f15, f16, f17, f18, f19, f20, f21, f22, f23, f24, f25, f26, f27, f28, f29, f30, f31, f32, f34, f35, f36, f37, f38, f39, f40, f41, f42, f43, f44, f45, f46, f47, f48, f49]
                clear hF f13 f14 f15 f16 f17 f18 f19 f20 f21 f22 f23 f24 f25 f26 f27 f28 f29 f30 f31 f32 f34 f35 f36 f37 f38 f39 f40 f41 f42 f43 f44 f45 f46 f47 f48 f49
                generalize f 33 = v33 at *
                have HBE := Lib.hid (HBW.out.trans (Below.mono hE (by have := HBW.out.size; omega)))
                clear hE
                go_wp2
                go_ret
                exact ⟨⟨false, rfl, fun h => (by cases h), fun h => absurd h HBAD.out⟩, HBE.out⟩
        · have D2 : Hid (¬ FrOk xs[k].to) := Lib.hid ht
          have HBAD : Hid (¬ SetsOk xs) := Lib.hid fun h => ht (h k hlt).2.1
          clear hf ht
          go_wp2_with fail
          apply wp_region_vals (by kernel_rfl) Grw (Grw.drew _) [13, 14, 15, 16, 17, 18, 19, 20, 21, 22, 23, 24, 25, 26, 27, 28, 29, 30, 31, 32, 33, 34, 35, 36, 37, 38, 39, 40, 41, 42, 43, 44, 45, 46, 47, 48, 49] [Is _, Is _, Is (.bool true), Is _, Is _, Is _, Is _, Is (.bool false), Is _, Is _, Is _, Is _, Is _, Is _, Is _, Is _, Is _, Is _, Is _, Is _, Is _, Is _, Is _, Is _, Is _, Is _, Is _, Is _, Is _, Is _, Is _, Is _, Is _, Is _, Is _, Is _, Is _] (stb_cons (Stb.is) (stb_cons (Stb.is) (stb_cons (Stb.is) (stb_cons (Stb.is) (stb_cons (Stb.is) (stb_cons (Stb.is) (stb_cons (Stb.is) (stb_cons (Stb.is) (stb_cons (Stb.is) (stb_cons (Stb.is) (stb_cons (Stb.is) (stb_cons (Stb.is) (stb_cons (Stb.is) (stb_cons (Stb.is) (stb_cons (Stb.is) (stb_cons (Stb.is) (stb_cons (Stb.is) (stb_cons (Stb.is) (stb_cons (Stb.is) (stb_cons (Stb.is) (stb_cons (Stb.is) (stb_cons (Stb.is) (stb_cons (Stb.is) (stb_cons (Stb.is) (stb_cons (Stb.is) (stb_cons (Stb.is) (stb_cons (Stb.is) (stb_cons (Stb.is) (stb_cons (Stb.is) (stb_cons (Stb.is) (stb_cons (Stb.is) (stb_cons (Stb.is) (stb_cons (Stb.is) (stb_cons (Stb.is) (stb_cons (Stb.is) (stb_cons (Stb.is) (stb_cons (Stb.is) stb_nil))))))))))))))))))))))))))))))))))))) (by kernel_rfl) (by kernel_rfl) (by kernel_rfl)
          · refine VSteps.cons (VStep.mk Grw.trans rfl rfl fun t V hout hE hdep K hK => ?_) ?_
            · skip
              have t4 : t[4]? = some _ := hout 4 (by kernel_rfl)
              clear hout hdep
              go_simp
              exact hK.out _ _ (Grw.refl _) rfl
            refine VSteps.cons (VStep.mk Grw.trans rfl rfl fun t V hout hE hdep K hK => ?_) ?_
            · skip
              have t13 := by_is (W := V) (hdep 0 13 (by kernel_rfl))
              clear hout hdep
              obtain ⟨k0, k1, k2, kl⟩ := (VB.out.keep hE).cells
              go_simp
              exact hK.out _ _ (Grw.refl _) rfl
            refine VSteps.cons (VStep.mk Grw.trans rfl rfl fun t V hout hE hdep K hK => ?_) ?_
            · skip
              have t14 := by_is (W := V) (hdep 1 14 (by kernel_rfl))
              clear hout hdep
              go_simp
              refine (in_any _ _).mono ?_
              rintro e W5 ⟨⟨x, rfl, hx⟩, rfl⟩
              obtain rfl : x = true := hx.2 D1.out
              go_simp
              exact hK.out _ _ (Grw.refl _) rfl
            refine VSteps.cons (VStep.mk Grw.trans rfl rfl fun t V hout hE hdep K hK => ?_) ?_
            · skip
              have t15 := by_is (W := V) (hdep 2 15 (by kernel_rfl))
              clear hout hdep
              go_simp
              exact hK.out _ _ (Grw.refl _) rfl
            refine VSteps.cons (VStep.mk Grw.trans rfl rfl fun t V hout hE hdep K hK => ?_) ?_
            · skip
              have t16 := by_is (W := V) (hdep 3 16 (by kernel_rfl))
              clear hout hdep
              go_simp
              exact hK.out _ _ (Grw.refl _) rfl
            refine VSteps.cons (VStep.mkG Grw.trans (dg := 17) rfl rfl (by kernel_rfl) (fun _ _ h => h) fun t V hout hE hdep K hK => ?_) ?_
            · skip
              have t4 : t[4]? = some _ := hout 4 (by kernel_rfl)
              clear hout hdep
              go_simp
              exact hK.out _ _ (Grw.refl _) rfl
            refine VSteps.cons (VStep.mkG Grw.trans (dg := 17) rfl rfl (by kernel_rfl) (fun _ _ h => h) fun t V hout hE hdep K hK => ?_) ?_
            · skip
              have t18 := by_is (W := V) (hdep 5 18 (by kernel_rfl))
              clear hout hdep
              obtain ⟨k0, k1, k2, kl⟩ := (VB.out.keep hE).cells
              go_simp
              exact hK.out _ _ (Grw.refl _) rfl
            refine VSteps.cons (VStep.mkG Grw.trans (dg := 17) rfl rfl (by kernel_rfl) (fun _ _ h => h) fun t V hout hE hdep K hK => ?_) ?_
            · skip
              have t19 := by_is (W := V) (hdep 6 19 (by kernel_rfl))
              clear hout hdep
              go_simp
              refine (in_any _ _).mono ?_
              rintro e W5 ⟨⟨x, rfl, hx⟩, rfl⟩
              obtain rfl : x = false := by cases x with | false => rfl | true => exact absurd (hx.1 rfl) D2.out
              go_simp
              exact hK.out _ _ (Grw.refl _) rfl
            refine VSteps.cons (VStep.mkG Grw.trans (dg := 17) rfl rfl (by kernel_rfl) (fun _ _ h => h) fun t V hout hE hdep K hK => ?_) ?_
            · skip
              have t20 := by_is (W := V) (hdep 7 20 (by kernel_rfl))
              clear hout hdep
              go_simp
              exact hK.out _ _ (Grw.refl _) rfl
            refine VSteps.cons (VStep.mk Grw.trans rfl rfl fun t V hout hE hdep K hK => ?_) ?_
            · skip
              have t17 := by_is (W := V) (hdep 4 17 (by kernel_rfl))
              have t21 := by_is (W := V) (hdep 8 21 (by kernel_rfl))
              clear hout hdep
              go_simp
              exact hK.out _ _ (Grw.refl _) rfl
            refine VSteps.cons (VStep.mk Grw.trans rfl rfl fun t V hout hE hdep K hK => ?_) ?_
            · skip
              have t22 := by_is (W := V) (hdep 9 22 (by kernel_rfl))
              clear hout hdep
              go_simp
              exact hK.out _ _ (Grw.refl _) rfl
            refine VSteps.cons (VStep.mkN Grw.refl (dg := 23) rfl rfl (by kernel_rfl) (fun _ _ h => h) (fun _ => rfl)) ?_
            refine VSteps.cons (VStep.mkN Grw.refl (dg := 23) rfl rfl (by kernel_rfl) (fun _ _ h => h) (fun _ => rfl)) ?_
            refine VSteps.cons (VStep.mkN Grw.refl (dg := 23) rfl rfl (by kernel_rfl) (fun _ _ h => h) (fun _ => rfl)) ?_
            refine VSteps.cons (VStep.mkU Grw.refl (dg := 26) rfl rfl (by kernel_rfl) (fun _ _ h => h) (fun _ => rfl)) ?_
            refine VSteps.cons (VStep.mkU Grw.refl (dg := 26) rfl rfl (by kernel_rfl) (fun _ _ h => h) (fun _ => rfl)) ?_
            refine VSteps.cons (VStep.mkU Grw.refl (dg := 26) rfl rfl (by kernel_rfl) (fun _ _ h => h) (fun _ => rfl)) ?_
            refine VSteps.cons (VStep.mkU Grw.refl (dg := 26) rfl rfl (by kernel_rfl) (fun _ _ h => h) (fun _ => rfl)) ?_
            refine VSteps.cons (VStep.mkU Grw.refl (dg := 26) rfl rfl (by kernel_rfl) (fun _ _ h => h) (fun _ => rfl)) ?_
            refine VSteps.cons (VStep.mkU Grw.refl (dg := 26) rfl rfl (by kernel_rfl) (fun _ _ h => h) (fun _ => rfl)) ?_
            refine VSteps.cons (VStep.mkU Grw.refl (dg := 26) rfl rfl (by kernel_rfl) (fun _ _ h => h) (fun _ => rfl)) ?_
            refine VSteps.cons (VStep.mkU Grw.refl (dg := 26) rfl rfl (by kernel_rfl) (fun _ _ h => h) (fun _ => rfl)) ?_
            refine VSteps.cons (VStep.mkN Grw.refl (dg := 23) rfl rfl (by kernel_rfl) (fun _ _ h => h) (fun _ => rfl)) ?_
            refine VSteps.cons (VStep.mk Grw.trans rfl rfl fun t V hout hE hdep K hK => ?_) ?_
            · skip
              have t23 := by_is (W := V) (hdep 10 23 (by kernel_rfl))
              have t35 := by_is (W := V) (hdep 22 35 (by kernel_rfl))
              clear hout hdep
              go_simp
              exact hK.out _ _ (Grw.refl _) rfl
            refine VSteps.cons (VStep.mk Grw.trans rfl rfl fun t V hout hE hdep K hK => ?_) ?_
            · skip
              have t36 := by_is (W := V) (hdep 23 36 (by kernel_rfl))
              clear hout hdep
              go_simp
              exact hK.out _ _ (Grw.refl _) rfl
            refine VSteps.cons (VStep.mkN Grw.refl (dg := 37) rfl rfl (by kernel_rfl) (fun _ _ h => h) (fun _ => rfl)) ?_
            refine VSteps.cons (VStep.mkN Grw.refl (dg := 37) rfl rfl (by kernel_rfl) (fun _ _ h => h) (fun _ => rfl)) ?_
            refine VSteps.cons (VStep.mkN Grw.refl (dg := 37) rfl rfl (by kernel_rfl) (fun _ _ h => h) (fun _ => rfl)) ?_
            refine VSteps.cons (VStep.mkN Grw.refl (dg := 37) rfl rfl (by kernel_rfl) (fun _ _ h => h) (fun _ => rfl)) ?_
            refine VSteps.cons (VStep.mk Grw.trans rfl rfl fun t V hout hE hdep K hK => ?_) ?_
            · skip
              have t37 := by_is (W := V) (hdep 24 37 (by kernel_rfl))
              have t41 := by_is (W := V) (hdep 28 41 (by kernel_rfl))
              clear hout hdep
              go_simp
              exact hK.out _ _ (Grw.refl _) rfl
            refine VSteps.cons (VStep.mk Grw.trans rfl rfl fun t V hout hE hdep K hK => ?_) ?_
            · skip
              have t42 := by_is (W := V) (hdep 29 42 (by kernel_rfl))
              clear hout hdep
              go_simp
              exact hK.out _ _ (Grw.refl _) rfl
            refine VSteps.cons (VStep.mkN Grw.refl (dg := 43) rfl rfl (by kernel_rfl) (fun _ _ h => h) (fun _ => rfl)) ?_
            refine VSteps.cons (VStep.mkN Grw.refl (dg := 43) rfl rfl (by kernel_rfl) (fun _ _ h => h) (fun _ => rfl)) ?_
            refine VSteps.cons (VStep.mkN Grw.refl (dg := 43) rfl rfl (by kernel_rfl) (fun _ _ h => h) (fun _ => rfl)) ?_
            refine VSteps.cons (VStep.mkN Grw.refl (dg := 43) rfl rfl (by kernel_rfl) (fun _ _ h => h) (fun _ => rfl)) ?_
            refine VSteps.cons (VStep.mkN Grw.refl (dg := 43) rfl rfl (by kernel_rfl) (fun _ _ h => h) (fun _ => rfl)) ?_
            refine VSteps.cons (VStep.mk Grw.trans rfl rfl fun t V hout hE hdep K hK => ?_) ?_
            · skip
              have t43 := by_is (W := V) (hdep 30 43 (by kernel_rfl))
              have t48 := by_is (W := V) (hdep 35 48 (by kernel_rfl))
              clear hout hdep
              go_simp
              exact hK.out _ _ (Grw.refl _) rfl
            exact VSteps.nil (by decide)
          · intro f W hE hF
            have f13 : f 13 = _ := hF 0 13 (by kernel_rfl)
            have f14 : f 14 = _ := hF 1 14 (by kernel_rfl)
            have f15 : f 15 = _ := hF 2 15 (by kernel_rfl)
            have f16 : f 16 = _ := hF 3 16 (by kernel_rfl)
            have f17 : f 17 = _ := hF 4 17 (by kernel_rfl)
            have f18 : f 18 = _ := hF 5 18 (by kernel_rfl)
            have f19 : f 19 = _ := hF 6 19 (by kernel_rfl)
            have f20 : f 20 = _ := hF 7 20 (by kernel_rfl)
            have f21 : f 21 = _ := hF 8 21 (by kernel_rfl)
            have f22 : f 22 = _ := hF 9 22 (by kernel_rfl)
            have f23 : f 23 = _ := hF 10 23 (by kernel_rfl)
            have f24 : f 24 = _ := hF 11 24 (by kernel_rfl)
            have f25 : f 25 = _ := hF 12 25 (by kernel_rfl)
            have f26 : f 26 = _ := hF 13 26 (by kernel_rfl)
            have f27 : f 27 = _ := hF 14 27 (by kernel_rfl)
            have f28 : f 28 = _ := hF 15 28 (by kernel_rfl)
            have f29 : f 29 = _ := hF 16 29 (by kernel_rfl)
            have f30 : f 30 = _ := hF 17 30 (by kernel_rfl)
            have f31 : f 31 = _ := hF 18 31 (by kernel_rfl)
            have f32 : f 32 = _ := hF 19 32 (by kernel_rfl)
            have f33 : f 33 = _ := hF 20 33 (by kernel_rfl)
            have f34 : f 34 = _ := hF 21 34 (by kernel_rfl)
            have f35 : f 35 = _ := hF 22 35 (by kernel_rfl)
            have f36 : f 36 = _ := hF 23 36 (by kernel_rfl)
            have f37 : f 37 = _ := hF 24 37 (by kernel_rfl)
            have f38 : f 38 = _ := hF 25 38 (by kernel_rfl)
            have f39 : f 39 = _ := hF 26 39 (by kernel_rfl)
            have f40 : f 40 = _ := hF 27 40 (by kernel_rfl)
            have f41 : f 41 = _ := hF 28 41 (by kernel_rfl)
            have f42 : f 42 = _ := hF 29 42 (by kernel_rfl)
            have f43 : f 43 = _ := hF 30 43 (by kernel_rfl)
            have f44 : f 44 = _ := hF 31 44 (by kernel_rfl)
            have f45 : f 45 = _ := hF 32 45 (by kernel_rfl)
            have f46 : f 46 = _ := hF 33 46 (by kernel_rfl)
            have f47 : f 47 = _ := hF 34 47 (by kernel_rfl)
            have f48 : f 48 = _ := hF 35 48 (by kernel_rfl)
            have f49 : f 49 = _ := hF 36 49 (by kernel_rfl)
            simp only [setAllV, List.map_cons, List.map_nil, List.set_cons_succ, List.set_cons_zero, f13, f14, f15, f16, f17, f18, f19, f20, f21, f22, f23, f24, f25, f26, f27, f28, f29, f30, f31, f32, f33, f34, f35, f36, f37, f38, f39, f40, f41, f42, f43, f44, f45, f46, f47, f48, f49]
            clear hF f13 f14 f15 f16 f17 f18 f19 f20 f21 f22 f23 f24 f25 f26 f27 f28 f29 f30 f31 f32 f33 f34 f35 f36 f37 f38 f39 f40 f41 f42 f43 f44 f45 f46 f47 f48 f49
            have HBE := Lib.hid (HBW.out.trans (Below.mono hE (by have := HBW.out.size; omega)))
            clear hE
            go_wp2
            go_ret
            exact ⟨⟨false, rfl, fun h => (by cases h), fun h => absurd h HBAD.out⟩, HBE.out⟩
      · have D1 : Hid (¬ FrOk xs[k].fr) := Lib.hid hf
        have HBAD : Hid (¬ SetsOk xs) := Lib.hid fun h => hf (h k hlt).1
        clear hf
        go_wp2_with fail
        apply wp_region_vals (by kernel_rfl) Grw (Grw.drew _) [13, 14, 15, 16, 17, 18, 19, 20, 21, 22, 23, 24, 25, 26, 27, 28, 29, 30, 31, 32, 33, 34, 35, 36, 37, 38, 39, 40, 41, 42, 43, 44, 45, 46, 47, 48, 49] [Is _, Is _, Is (.bool false), Is _, Is _, Is _, Is _, Is _, Is _, Is _, Is _, Is _, Is _, Is _, Is _, Is _, Is _, Is _, Is _, Is _, Is _, Is _, Is _, Is _, Is _, Is _, Is _, Is _, Is _, Is _, Is _, Is _, Is _, Is _, Is _, Is _, Is _] (stb_cons (Stb.is) (stb_cons (Stb.is) (stb_cons (Stb.is) (stb_cons (Stb.is) (stb_cons (Stb.is) (stb_cons (Stb.is) (stb_cons (Stb.is) (stb_cons (Stb.is) (stb_cons (Stb.is) (stb_cons (Stb.is) (stb_cons (Stb.is) (stb_cons (Stb.is) (stb_cons (Stb.is) (stb_cons (Stb.is) (stb_cons (Stb.is) (stb_cons (Stb.is) (stb_cons (Stb.is) (stb_cons (Stb.is) (stb_cons (Stb.is) (stb_cons (Stb.is) (stb_cons (Stb.is) (stb_cons (Stb.is) (stb_cons (Stb.is) (stb_cons (Stb.is) (stb_cons (Stb.is) (stb_cons (Stb.is) (stb_cons (Stb.is) (stb_cons (Stb.is) (stb_cons (Stb.is) (stb_cons (Stb.is) (stb_cons (Stb.is) (stb_cons (Stb.is) (stb_cons (Stb.is) (stb_cons (Stb.is) (stb_cons (Stb.is) (stb_cons (Stb.is) (stb_cons (Stb.is) stb_nil))))))))))))))))))))))))))))))))))))) (by kernel_rfl) (by kernel_rfl) (by kernel_rfl)
        · refine VSteps.cons (VStep.mk Grw.trans rfl rfl fun t V hout hE hdep K hK => ?_) ?_
          · skip
            have t4 : t[4]? = some _ := hout 4 (by kernel_rfl)
            clear hout hdep
            go_simp
            exact hK.out _ _ (Grw.refl _) rfl
          refine VSteps.cons (VStep.mk Grw.trans rfl rfl fun t V hout hE hdep K hK => ?_) ?_
          · skip
            have t13 := by_is (W := V) (hdep 0 13 (by kernel_rfl))
            clear hout hdep
            obtain ⟨k0, k1, k2, kl⟩ := (VB.out.keep hE).cells
            go_simp
            exact hK.out _ _ (Grw.refl _) rfl
          refine VSteps.cons (VStep.mk Grw.trans rfl rfl fun t V hout hE hdep K hK => ?_) ?_
          · skip
            have t14 := by_is (W := V) (hdep 1 14 (by kernel_rfl))
            clear hout hdep
            go_simp
            refine (in_any _ _).mono ?_
            rintro e W5 ⟨⟨x, rfl, hx⟩, rfl⟩
            obtain rfl : x = false := by cases x with | false => rfl | true => exact absurd (hx.1 rfl) D1.out
            go_simp
            exact hK.out _ _ (Grw.refl _) rfl
          refine VSteps.cons (VStep.mk Grw.trans rfl rfl fun t V hout hE hdep K hK => ?_) ?_
          · skip
            have t15 := by_is (W := V) (hdep 2 15 (by kernel_rfl))
            clear hout hdep
            go_simp
            exact hK.out _ _ (Grw.refl _) rfl
          refine VSteps.cons (VStep.mk Grw.trans rfl rfl fun t V hout hE hdep K hK => ?_) ?_
          · skip
            have t16 := by_is (W := V) (hdep 3 16 (by kernel_rfl))
            clear hout hdep
            go_simp
            exact hK.out _ _ (Grw.refl _) rfl
          refine VSteps.cons (VStep.mkN Grw.refl (dg := 17) rfl rfl (by kernel_rfl) (fun _ _ h => h) (fun _ => rfl)) ?_
          refine VSteps.cons (VStep.mkN Grw.refl (dg := 17) rfl rfl (by kernel_rfl) (fun _ _ h => h) (fun _ => rfl)) ?_
          refine VSteps.cons (VStep.mkN Grw.refl (dg := 17) rfl rfl (by kernel_rfl) (fun _ _ h => h) (fun _ => rfl)) ?_
          refine VSteps.cons (VStep.mkN Grw.refl (dg := 17) rfl rfl (by kernel_rfl) (fun _ _ h => h) (fun _ => rfl)) ?_
          refine VSteps.cons (VStep.mk Grw.trans rfl rfl fun t V hout hE hdep K hK => ?_) ?_
          · skip
            have t17 := by_is (W := V) (hdep 4 17 (by kernel_rfl))
            have t21 := by_is (W := V) (hdep 8 21 (by kernel_rfl))
            clear hout hdep
            go_simp
            exact hK.out _ _ (Grw.refl _) rfl
          refine VSteps.cons (VStep.mk Grw.trans rfl rfl fun t V hout hE hdep K hK => ?_) ?_
          · skip
            have t22 := by_is (W := V) (hdep 9 22 (by kernel_rfl))
            clear hout hdep
            go_simp
            exact hK.out _ _ (Grw.refl _) rfl
          refine VSteps.cons (VStep.mkN Grw.refl (dg := 23) rfl rfl (by kernel_rfl) (fun _ _ h => h) (fun _ => rfl)) ?_
          refine VSteps.cons (VStep.mkN Grw.refl (dg := 23) rfl rfl (by kernel_rfl) (fun _ _ h => h) (fun _ => rfl)) ?_
          refine VSteps.cons (VStep.mkN Grw.refl (dg := 23) rfl rfl (by kernel_rfl) (fun _ _ h => h) (fun _ => rfl)) ?_
          refine VSteps.cons (VStep.mkU Grw.refl (dg := 26) rfl rfl (by kernel_rfl) (fun _ _ h => h) (fun _ => rfl)) ?_
          refine VSteps.cons (VStep.mkU Grw.refl (dg := 26) rfl rfl (by kernel_rfl) (fun _ _ h => h) (fun _ => rfl)) ?_
          refine VSteps.cons (VStep.mkU Grw.refl (dg := 26) rfl rfl (by kernel_rfl) (fun _ _ h => h) (fun _ => rfl)) ?_
          refine VSteps.cons (VStep.mkU Grw.refl (dg := 26) rfl rfl (by kernel_rfl) (fun _ _ h => h) (fun _ => rfl)) ?_
          refine VSteps.cons (VStep.mkU Grw.refl (dg := 26) rfl rfl (by kernel_rfl) (fun _ _ h => h) (fun _ => rfl)) ?_
          refine VSteps.cons (VStep.mkU Grw.refl (dg := 26) rfl rfl (by kernel_rfl) (fun _ _ h => h) (fun _ => rfl)) ?_
          refine VSteps.cons (VStep.mkU Grw.refl (dg := 26) rfl rfl (by kernel_rfl) (fun _ _ h => h) (fun _ => rfl)) ?_
          refine VSteps.cons (VStep.mkU Grw.refl (dg := 26) rfl rfl (by kernel_rfl) (fun _ _ h => h) (fun _ => rfl)) ?_
          refine VSteps.cons (VStep.mkN Grw.refl (dg := 23) rfl rfl (by kernel_rfl) (fun _ _ h => h) (fun _ => rfl)) ?_
          refine VSteps.cons (VStep.mk Grw.trans rfl rfl fun t V hout hE hdep K hK => ?_) ?_
          · skip
            have t23 := by_is (W := V) (hdep 10 23 (by kernel_rfl))
            have t35 := by_is (W := V) (hdep 22 35 (by kernel_rfl))
            clear hout hdep
            go_simp
            exact hK.out _ _ (Grw.refl _) rfl
          refine VSteps.cons (VStep.mk Grw.trans rfl rfl fun t V hout hE hdep K hK => ?_) ?_
          · skip
            have t36 := by_is (W := V) (hdep 23 36 (by kernel_rfl))
            clear hout hdep
            go_simp
            exact hK.out _ _ (Grw.refl _) rfl
          refine VSteps.cons (VStep.mkN Grw.refl (dg := 37) rfl rfl (by kernel_rfl) (fun _ _ h => h) (fun _ => rfl)) ?_
          refine VSteps.cons (VStep.mkN Grw.refl (dg := 37) rfl rfl (by kernel_rfl) (fun _ _ h => h) (fun _ => rfl)) ?_
          refine VSteps.cons (VStep.mkN Grw.refl (dg := 37) rfl rfl (by kernel_rfl) (fun _ _ h => h) (fun _ => rfl)) ?_
          refine VSteps.cons (VStep.mkN Grw.refl (dg := 37) rfl rfl (by kernel_rfl) (fun _ _ h => h) (fun _ => rfl)) ?_
          refine VSteps.cons (VStep.mk Grw.trans rfl rfl fun t V hout hE hdep K hK => ?_) ?_
          · skip
            have t37 := by_is (W := V) (hdep 24 37 (by kernel_rfl))
            have t41 := by_is (W := V) (hdep 28 41 (by kernel_rfl))
            clear hout hdep
            go_simp
            exact hK.out _ _ (Grw.refl _) rfl
          refine VSteps.cons (VStep.mk Grw.trans rfl rfl fun t V hout hE hdep K hK => ?_) ?_
          · skip
            have t42 := by_is (W := V) (hdep 29 42 (by kernel_rfl))
            clear hout hdep
            go_simp
            exact hK.out _ _ (Grw.refl _) rfl
          refine VSteps.cons (VStep.mkN Grw.refl (dg := 43) rfl rfl (by kernel_rfl) (fun _ _ h => h) (fun _ => rfl)) ?_
          refine VSteps.cons (VStep.mkN Grw.refl (dg := 43) rfl rfl (by kernel_rfl) (fun _ _ h => h) (fun _ => rfl)) ?_
          refine VSteps.cons (VStep.mkN Grw.refl (dg := 43) rfl rfl (by kernel_rfl) (fun _ _ h => h) (fun _ => rfl)) ?_
          refine VSteps.cons (VStep.mkN Grw.refl (dg := 43) rfl rfl (by kernel_rfl) (fun _ _ h => h) (fun _ => rfl)) ?_
          refine VSteps.cons (VStep.mkN Grw.refl (dg := 43) rfl rfl (by kernel_rfl) (fun _ _ h => h) (fun _ => rfl)) ?_
          refine VSteps.cons (VStep.mk Grw.trans rfl rfl fun t V hout hE hdep K hK => ?_) ?_
          · skip
            have t43 := by_is (W := V) (hdep 30 43 (by kernel_rfl))
            have t48 := by_is (W := V) (hdep 35 48 (by kernel_rfl))
            clear hout hdep
            go_simp
            exact hK.out _ _ (Grw.refl _) rfl
          exact VSteps.nil (by decide)
        · intro f W hE hF
          have f13 : f 13 = _ := hF 0 13 (by kernel_rfl)
          have f14 : f 14 = _ := hF 1 14 (by kernel_rfl)
          have f15 : f 15 = _ := hF 2 15 (by kernel_rfl)
          have f16 : f 16 = _ := hF 3 16 (by kernel_rfl)
          have f17 : f 17 = _ := hF 4 17 (by kernel_rfl)
          have f18 : f 18 = _ := hF 5 18 (by kernel_rfl)
          have f19 : f 19 = _ := hF 6 19 (by kernel_rfl)
          have f20 : f 20 = _ := hF 7 20 (by kernel_rfl)
          have f21 : f 21 = _ := hF 8 21 (by kernel_rfl)
          have f22 : f 22 = _ := hF 9 22 (by kernel_rfl)
          have f23 : f 23 = _ := hF 10 23 (by kernel_rfl)
          have f24 : f 24 = _ := hF 11 24 (by kernel_rfl)
          have f25 : f 25 = _ := hF 12 25 (by kernel_rfl)
          have f26 : f 26 = _ := hF 13 26 (by kernel_rfl)
          have f27 : f 27 = _ := hF 14 27 (by kernel_rfl)
          have f28 : f 28 = _ := hF 15 28 (by kernel_rfl)
          have f29 : f 29 = _ := hF 16 29 (by kernel_rfl)
          have f30 : f 30 = _ := hF 17 30 (by kernel_rfl)
          have f31 : f 31 = _ := hF 18 31 (by kernel_rfl)
          have f32 : f 32 = _ := hF 19 32 (by kernel_rfl)
          have f33 : f 33 = _ := hF 20 33 (by kernel_rfl)
          have f34 : f 34 = _ := hF 21 34 (by kernel_rfl)
          have f35 : f 35 = _ := hF 22 35 (by kernel_rfl)
          have f36 : f 36 = _ := hF 23 36 (by kernel_rfl)
          have f37 : f 37 = _ := hF 24 37 (by kernel_rfl)
          have f38 : f 38 = _ := hF 25 38 (by kernel_rfl)
          have f39 : f 39 = _ := hF 26 39 (by kernel_rfl)
          have f40 : f 40 = _ := hF 27 40 (by kernel_rfl)
          have f41 : f 41 = _ := hF 28 41 (by kernel_rfl)
          have f42 : f 42 = _ := hF 29 42 (by kernel_rfl)
          have f43 : f 43 = _ := hF 30 43 (by kernel_rfl)
          have f44 : f 44 = _ := hF 31 44 (by kernel_rfl)
          have f45 : f 45 = _ := hF 32 45 (by kernel_rfl)
          have f46 : f 46 = _ := hF 33 46 (by kernel_rfl)
          have f47 : f 47 = _ := hF 34 47 (by kernel_rfl)
          have f48 : f 48 = _ := hF 35 48 (by kernel_rfl)
          have f49 : f 49 = _ := hF 36 49 (by kernel_rfl)
          simp only [setAllV, List.map_cons, List.map_nil, List.set_cons_succ, List.set_cons_zero, f13, f14, f15, f16, f17, f18, f19, f20, f21, f22, f23, f24, f25, f26, f27, f28, f29, f30, f31, f32, f33, f34, f35, f36, f37, f38, f39, f40, f41, f42, f43, f44, f45, f46, f47, f48, f49]
          clear hF f13 f14 f15 f16 f17 f18 f19 f20 f21 f22 f23 f24 f25 f26 f27 f28 f29 f30 f31 f32 f33 f34 f35 f36 f37 f38 f39 f40 f41 f42 f43 f44 f45 f46 f47 f48 f49
          have HBE := Lib.hid (HBW.out.trans (Below.mono hE (by have := HBW.out.size; omega)))
          clear hE
          go_wp2
          go_ret
          exact ⟨⟨false, rfl, fun h => (by cases h), fun h => absurd h HBAD.out⟩, HBE.out⟩
    · have HALL : Hid (SetsOk xs) := Lib.hid fun j h => HOK.out j h (by omega)
      go_wp2
      go_ret
      exact ⟨⟨true, rfl, fun _ => HALL.out, fun _ => rfl⟩, hbel⟩
end Go.Proofs.Ytchdmemgkegefaa
