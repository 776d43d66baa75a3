/- ref18.Drop. Condition: sets that read as a list, not too many. -/
import Derived.Test.YtchdmemgkegefaaDrp
namespace Go.Proofs.Ytchdmemgkegefaa
open Go.RowKit
set_option linter.unusedVariables false
set_option linter.unusedSimpArgs false

theorem own3 {w : World} {B C g n c : Nat} {xs : List St} (h : Own (setO B) w C 77 (.slice (some ⟨g, 0, none⟩) n c) xs) {m : Nat} (hm : m < xs.length) :
    g < w.heap.size ∧ ∃ u, w.cell? ⟨g, m * 3, none⟩ = some (.int .i64 xs[m].fr) ∧ w.cell? ⟨g, m * 3 + 1, none⟩ = some (.int .i64 xs[m].to) ∧ w.cell? ⟨g, m * 3 + 2, none⟩ = some u ∧ Own i64E w B 3 u xs[m].slots := by
  obtain ⟨D, ⟨hl, hrow⟩, hel⟩ := h
  rcases hrow with ⟨hv, hn⟩ | ⟨g', cap, cur, hv, hB, hh, hc, hm', hs, ht⟩
  · rw [hn] at hm; omega
  simp only [Value.slice.injEq, Option.some.injEq, Addr.mk.injEq, and_true] at hv
  obtain ⟨rfl, hn, rfl⟩ := hv
  obtain ⟨u, e, ho⟩ := hel m hm
  simp only [show (setO B).sz = 3 from rfl] at e ht hl hs
  have hcell : ∀ j, j < 3 → cur[m * 3 + j]? = [Value.int .i64 xs[m].fr, .int .i64 xs[m].to, u][j]? := fun j hj => by
    have := congrArg (fun l : List Value => l[j]?) e
    rw [← ht] at this
    simp only [List.getElem?_take_of_lt hj, List.getElem?_drop] at this
    rw [List.getElem?_take_of_lt (by omega)] at this
    simpa using this
  refine ⟨block_lt hh, u, ?_, ?_, ?_, ho⟩
  · rw [cell_block hh]; simpa using hcell 0 (by decide)
  · rw [cell_block hh]; simpa using hcell 1 (by decide)
  · rw [cell_block hh]; simpa using hcell 2 (by decide)
theorem kp_in {fs : List Int} {x : St} {b1 b2 : Bool} (h1 : b1 = true ↔ x.fr ∈ fs) (h2 : b2 = true ↔ x.to ∈ fs) : Kp fs x = (!b1 && !b2) := by
  rw [Bool.eq_iff_iff, kp_iff, Bool.and_eq_true]
  cases b1 <;> cases b2 <;> simp_all

set_option maxRecDepth 100000 in
set_option maxHeartbeats 8000000 in
theorem rdrop_any (v fv : Value) (xs : List St) (fs : List Int) (w : World) (hv : Rd setE w v xs) (hf : Rd i64E w fv fs) (hb : xs.length ≤ 100000) (hsl : ∀ x ∈ xs, x.slots.length ≤ 100000) :
    Calls Try.prog 41 #[v, fv] w fun e w' => DelP xs fs e w' ∧ Below w.heap.size w w' := by
  have HV := Lib.hid hv
  have HF := Lib.hid hf
  obtain ⟨a, cap, rfl, hl, hm, _⟩ := id hv
  obtain ⟨fa, fc, rfl, _⟩ := id hf
  unfold maxLen at hm
  clear hv hf
  go_enter Try.func41, Try.ntmps41
  go_wp2_with (go_at_call 57; fail)
  refine (rcn_any _ xs _ HV.out hb hsl).mono ?_
  rintro e w1 ⟨r, ys, rfl, hown, hys, _, hb1⟩
  have HO : Hid (Own (setO w.heap.size) w1 w.heap.size 77 r xs) := Lib.hid (by rw [← hys]; exact own_setO hown (Nat.le_refl _) (Nat.le_refl _))
  have HB1 := Lib.hid hb1
  have hs1 := hb1.size
  have HF1 := Lib.hid (HF.out.below hb1)
  clear hown hys hb1
  obtain ⟨ra, rl, rc, rfl⟩ := own_sl HO.out
  obtain ⟨hcp, hne, hcm⟩ := own_cap HO.out
  subst hne
  go_wp2_with fail
  go_loopw [5, 11] (fun out i W => ∃ k : Nat, k ≤ xs.length ∧ i = .int .i64 k ∧ Below w1.heap.size w1 W ∧ Own (setO w.heap.size) W w1.heap.size 77 out ((xs.take k).filter (Kp fs))) (fun _ i _ => xs.length - (intOf i).toNat)
  case atStart => exact ⟨0, by omega, rfl, Below.refl _ _, Own.nil _ _ _ _⟩
  case round =>
    obtain ⟨k, hk, rfl, hbel, ho⟩ := hrel
    have HBE := Lib.hid hbel
    have HOUT := Lib.hid ho
    by_cases hlt : k < xs.length
    · obtain ⟨g, c', e0⟩ := own_form HO.out (by omega)
      simp only [Value.slice.injEq, true_and] at e0
      obtain ⟨rfl, rfl⟩ := e0
      obtain ⟨hg1, u, x0, x1, x2, hu⟩ := own3 (HO.out.below hbel) hlt
      have HUO := Lib.hid hu
      obtain ⟨ua, ul, uc, rfl⟩ := own_sl hu
      have hfl : ((xs.take k).filter (Kp fs)).length ≤ k := Nat.le_trans (List.length_filter_le _ _) (by rw [List.length_take]; omega)
      have HFL := Lib.hid hfl
      have HSN := Lib.hid (filter_snoc (fs := fs) hlt)
      generalize hys : (xs.take k).filter (Kp fs) = ys at *
      clear hu hbel ho
      go_wp2_with (go_at_call 63; fail)
      have HA : Hid (∀ o, Below w1.heap.size w1 (wr.alloc o)) := Lib.hid fun o => HBE.out.alloc HBE.out.size o
      refine (in18_any _ fs _ (HF1.out.below (HA.out _)) xs[k].fr).mono ?_
      rintro e w2 ⟨⟨b1, rfl, h1⟩, hb2⟩
      have H1 := Lib.hid h1
      have HB2 : Hid (Below wr.heap.size wr w2) := Lib.hid (((Below.refl _ _).alloc (Nat.le_refl _) _).trans (hb2.mono (by simp)))
      have hbx := below_block hb2 (by simp) (heap_alloc_new wr _)
      have HBX := Lib.hid hbx
      have y1 : w2.cell? ⟨wr.heap.size, 1, none⟩ = some (.int .i64 xs[k].to) := by rw [cell_block hbx]; rfl
      have hlt2 := block_lt hbx
      clear h1 hb2 hbx x0 x1 x2
      cases b1 with
      | true =>
        have HK : Hid (Kp fs xs[k] = false) := Lib.hid (by
          have := H1.out.1 rfl
          rw [Bool.eq_false_iff]
          intro h
          exact kp_iff.1 h (.inl this))
        have HBN := Lib.hid (HBE.out.trans (HB2.out.mono HBE.out.size))
        go_wp2
        go_roundw
        case rel => exact ⟨k + 1, by omega, by go_num, HBN.out, by rw [HSN.out, HK.out]; simpa using HOUT.out.below HB2.out⟩
        case measure => simp [intOf]; omega
      | false =>
        go_wp2_with (go_at_call 63; fail)
        refine (in18_any _ fs _ (HF1.out.below (HBE.out.trans (HB2.out.mono HBE.out.size))) xs[k].to).mono ?_
        rintro e w3 ⟨⟨b2, rfl, h2⟩, hb3⟩
        have HK : Hid (Kp fs xs[k] = !b2) := Lib.hid (by rw [kp_in H1.out h2]; rfl)
        have HB3 : Hid (Below wr.heap.size wr w3) := Lib.hid (HB2.out.trans (hb3.mono HB2.out.size))
        have hbx := below_block hb3 hlt2 HBX.out
        have HBX3 := Lib.hid hbx
        have y0 : w3.cell? ⟨wr.heap.size, 0, none⟩ = some (.int .i64 xs[k].fr) := by rw [cell_block hbx]; rfl
        have y1 : w3.cell? ⟨wr.heap.size, 1, none⟩ = some (.int .i64 xs[k].to) := by rw [cell_block hbx]; rfl
        have y2 : w3.cell? ⟨wr.heap.size, 2, none⟩ = some (.slice ua ul uc) := by rw [cell_block hbx]; rfl
        have HBN := Lib.hid (HBE.out.trans (HB3.out.mono HBE.out.size))
        clear h2 hb3 hbx
        cases b2 with
        | true =>
          go_wp2
          go_roundw
          case rel => exact ⟨k + 1, by omega, by go_num, HBN.out, by rw [HSN.out, HK.out]; simpa using HOUT.out.below HB3.out⟩
          case measure => simp [intOf]; omega
        | false =>
          have hw3 : w1.heap.size ≤ w3.heap.size := HBN.out.size
          have HO3 := Lib.hid (HOUT.out.below HB3.out)
          have HU3 := Lib.hid (HUO.out.below HB3.out)
          go_wp2_with (at_builtin; (refine wpList_append_lit (setO w.heap.size) setS rfl _ _ rfl w1.heap.size _ ys rfl HO3.out xs[k] _ _ rfl rfl ⟨_, rfl, HU3.out⟩ (by simp [Value.oneCell']) (by omega) (by unfold maxLen; omega) hw3 (fun w' x cs hg h => setO_kept ((HO3.out.alloc _).base hs1) hg h) ?_; intro v' w6 ho6 hg6 hb6))
          have HO6 : Hid (Own (setO w.heap.size) w6 w1.heap.size 77 v' ((xs.take (k + 1)).filter (Kp fs))) := Lib.hid (by rw [HSN.out, HK.out]; exact ho6)
          have HB6 := Lib.hid (HBN.out.trans hb6)
          obtain ⟨_, _, _, rfl⟩ := own_sl ho6
          clear ho6 hg6 hb6
          go_wp2
          go_roundw
          case rel => exact ⟨k + 1, by omega, by go_num, HB6.out, HO6.out⟩
          case measure => simp [intOf]; omega
    · obtain rfl : k = xs.length := by omega
      have HR := Lib.hid ho.rd.own
      have HBN := Lib.hid (HB1.out.trans (hbel.mono hs1))
      rw [List.take_length] at HR
      obtain ⟨_, _, _, rfl⟩ := own_sl ho
      clear ho hbel
      go_wp2
      go_ret
      exact ⟨⟨_, rfl, HR.out⟩, HBN.out⟩
end Go.Proofs.Ytchdmemgkegefaa
