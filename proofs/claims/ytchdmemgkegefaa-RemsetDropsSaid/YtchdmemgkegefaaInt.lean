/- remset.Into and ref18.Into. Condition: sets that read as a list, not too many. -/
import Derived.Test.YtchdmemgkegefaaDrr
import Derived.Test.YtchdmemgkegefaaSrt
import Derived.Test.YtchdmemgkegefaaApp
import Derived.Test.YtchdmemgkegefaaWth
namespace Go.Proofs.Ytchdmemgkegefaa
open Go.RowKit
set_option linter.unusedVariables false
set_option linter.unusedSimpArgs false

/-- of a set: it points into the frames from outside -/
def Pt (fs : List Int) (x : St) : Bool := fs.contains x.to && !fs.contains x.fr
theorem pt_iff {fs : List Int} {x : St} : Pt fs x = true ↔ x.to ∈ fs ∧ x.fr ∉ fs := by
  unfold Pt
  simp
/-- the slots that point into the frames, one after the other -/
def ptS (xs : List St) (fs : List Int) : List Int := (xs.filter (Pt fs)).flatMap (·.slots)
theorem pt_in {fs : List Int} {x : St} {b1 b2 : Bool} (h1 : b1 = true ↔ x.to ∈ fs) (h2 : b2 = true ↔ x.fr ∈ fs) : Pt fs x = (b1 && !b2) := by
  rw [Bool.eq_iff_iff, pt_iff, Bool.and_eq_true]
  cases b1 <;> cases b2 <;> simp_all
theorem ptS_snoc {xs : List St} {fs : List Int} {j : Nat} (h : j < xs.length) : ptS (xs.take (j + 1)) fs = ptS (xs.take j) fs ++ if Pt fs xs[j] then xs[j].slots else [] := by
  unfold ptS
  rw [List.take_succ_eq_append_getElem h, List.filter_append, List.flatMap_append]
  congr 1
  cases hk : Pt fs xs[j] <;> simp [List.filter, hk]
theorem ptS_len (xs : List St) (fs : List Int) : (ptS xs fs).length ≤ (xs.map (·.slots.length)).sum := by
  unfold ptS
  induction xs with
  | nil => simp
  | cons a l ih =>
    rw [List.filter_cons]
    split
    · rw [List.flatMap_cons, List.length_append, List.map_cons, List.sum_cons]; omega
    · rw [List.map_cons, List.sum_cons]; omega
theorem take_sum {xs : List St} (j : Nat) : ((xs.take j).map (·.slots.length)).sum ≤ (xs.map (·.slots.length)).sum := by
  have e : (xs.map (·.slots.length)).sum = ((xs.take j).map (·.slots.length)).sum + ((xs.drop j).map (·.slots.length)).sum := by
    rw [← List.sum_append, ← List.map_append, List.take_append_drop]
  omega
def IntP (xs : List St) (fs : List Int) (e : Ending) (w : World) : Prop := ∃ r, e = .returned (.tuple #[r, .int .i64 (ptS xs fs).length]) ∧ Rd i64E w r (setL (ptS xs fs))

set_option maxRecDepth 100000 in
set_option maxHeartbeats 8000000 in
theorem into_any (v fv : Value) (xs : List St) (fs : List Int) (w : World) (hv : Rd setE w v xs) (hf : Rd i64E w fv fs) (hb : (xs.map (·.slots.length)).sum ≤ 1000000) :
    Calls Try.prog 37 #[v, fv] w fun e w' => IntP xs fs e w' ∧ Below w.heap.size w w' := by
  have HV := Lib.hid hv
  have HF := Lib.hid hf
  obtain ⟨a, cap, rfl, hl, hm, _⟩ := id hv
  obtain ⟨fa, fc, rfl, _⟩ := id hf
  unfold maxLen at hm
  clear hv hf
  go_enter Try.func37, Try.ntmps37
  go_wp2_with fail
  go_loopw [6, 12] (fun out i W => ∃ k : Nat, k ≤ xs.length ∧ i = .int .i64 k ∧ Below w.heap.size w W ∧ Own i64E W w.heap.size 3 out (ptS (xs.take k) fs)) (fun _ i _ => xs.length - (intOf i).toNat)
  case atStart => exact ⟨0, by omega, rfl, Below.refl _ _, Own.nil _ _ _ _⟩
  case round =>
    obtain ⟨k, hk, rfl, hbel, ho⟩ := hrel
    have HBE := Lib.hid hbel
    have HOUT := Lib.hid ho
    have hpl : (ptS (xs.take k) fs).length ≤ 1000000 := Nat.le_trans (ptS_len _ _) (Nat.le_trans (take_sum _) hb)
    by_cases hlt : k < xs.length
    · obtain ⟨b, off, rfl⟩ := rd_addr HV.out (by omega)
      obtain ⟨hq, ra, rc, x0, x1, x2, hrs⟩ := set_cells HV.out hlt
      have y0 : wr.cell? ⟨b, off + k * 3, none⟩ = some (.int .i64 xs[k].fr) := (hbel.cell (p := ⟨b, off + k * 3, none⟩) hq).trans x0
      have y1 : wr.cell? ⟨b, off + k * 3 + 1, none⟩ = some (.int .i64 xs[k].to) := (hbel.cell (p := ⟨b, off + k * 3 + 1, none⟩) hq).trans x1
      have y2 : wr.cell? ⟨b, off + k * 3 + 2, none⟩ = some (.slice ra xs[k].slots.length rc) := (hbel.cell (p := ⟨b, off + k * 3 + 2, none⟩) hq).trans x2
      have hq2 : b < wr.heap.size := Nat.lt_of_lt_of_le hq hbel.size
      have HRS := Lib.hid hrs
      have HSN := Lib.hid (ptS_snoc (fs := fs) hlt)
      have hpl2 : (ptS (xs.take k) fs).length + xs[k].slots.length ≤ 1000000 := by
        have h2 := cntTo_succ hlt
        have h3 : cntTo xs (k + 1) ≤ 1000000 := Nat.le_trans (cntTo_all _) hb
        have h1 : (ptS (xs.take k) fs).length ≤ cntTo xs k := ptS_len _ _
        omega
      generalize hys : ptS (xs.take k) fs = ys at *
      clear x0 x1 x2 hrs hbel ho
      have HA : Hid (∀ o, Below w.heap.size w (wr.alloc o)) := Lib.hid fun o => HBE.out.alloc HBE.out.size o
      go_wp2_with (go_at_call 60; fail)
      refine (contains_any _ fs _ (HF.out.below (HA.out _)) xs[k].to).mono ?_
      rintro e w2 ⟨⟨b1, rfl, h1⟩, hb2⟩
      have H1 := Lib.hid h1
      have HB2 : Hid (Below wr.heap.size wr w2) := Lib.hid (((Below.refl _ _).alloc (Nat.le_refl _) _).trans (hb2.mono (by simp)))
      have hbx := below_block hb2 (by simp) (heap_alloc_new wr _)
      have HBX := Lib.hid hbx
      have z0 : w2.cell? ⟨wr.heap.size, 0, none⟩ = some (.int .i64 xs[k].fr) := by rw [cell_block hbx]; rfl
      have hlt2 := block_lt hbx
      have HBN := Lib.hid (HBE.out.trans (HB2.out.mono HBE.out.size))
      clear h1 hb2 hbx y0 y1 y2
      cases b1 with
      | false =>
        have HK : Hid (Pt fs xs[k] = false) := Lib.hid (by
          rw [Bool.eq_false_iff]
          intro h
          exact absurd (H1.out.2 (pt_iff.1 h).1) (by decide))
        go_wp2
        go_roundw
        case rel => exact ⟨k + 1, by omega, by go_num, HBN.out, by rw [HSN.out, HK.out]; simpa using HOUT.out.below HB2.out⟩
        case measure => simp [intOf]; omega
      | true =>
        have HT : Hid (xs[k].to ∈ fs) := Lib.hid (by have := H1.out; simpa using this)
        go_wp2_with (go_at_call 60; fail)
        refine (contains_any _ fs _ (HF.out.below HBN.out) xs[k].fr).mono ?_
        rintro e w3 ⟨⟨b2, rfl, h2⟩, hb3⟩
        have HK : Hid (Pt fs xs[k] = !b2) := Lib.hid (by rw [pt_in (b1 := true) (iff_of_true rfl HT.out) h2]; rfl)
        have HB3 : Hid (Below wr.heap.size wr w3) := Lib.hid (HB2.out.trans (hb3.mono HB2.out.size))
        have hbx := below_block hb3 hlt2 HBX.out
        have z2 : w3.cell? ⟨wr.heap.size, 2, none⟩ = some (.slice ra xs[k].slots.length rc) := by rw [cell_block hbx]; rfl
        have hlt3 := block_lt hbx
        have HBM := Lib.hid (HBE.out.trans (HB3.out.mono HBE.out.size))
        have HO3 := Lib.hid (HOUT.out.below HB3.out)
        clear h2 hb3 hbx z0
        cases b2 with
        | true =>
          go_wp2
          go_roundw
          case rel => exact ⟨k + 1, by omega, by go_num, HBM.out, by rw [HSN.out, HK.out]; simpa using HO3.out⟩
          case measure => simp [intOf]; omega
        | false =>
          have HRS3 := Lib.hid (HRS.out.below HBM.out)
          go_wp2_with (at_builtin; (refine wpList_append_rd i64E i64S rfl _ _ rfl w.heap.size _ ys rfl HO3.out _ xs[k].slots rfl HRS3.out one_i64 (by omega) (by unfold maxLen; omega) HBM.out.size (fun _ _ _ _ h => h) ?_; intro v6 w6 ho6 hg6 hb6 hn6))
          have HO6 : Hid (Own i64E w6 w.heap.size 3 v6 (ptS (xs.take (k + 1)) fs)) := Lib.hid (by rw [HSN.out, HK.out]; exact ho6)
          have HB6 := Lib.hid (HBM.out.trans hb6)
          obtain ⟨_, _, _, rfl⟩ := own_sl ho6
          clear ho6 hg6 hb6 hn6
          go_wp2
          go_roundw
          case rel => exact ⟨k + 1, by omega, by go_num, HB6.out, HO6.out⟩
          case measure => simp [intOf]; omega
    · obtain rfl : k = xs.length := by omega
      have HBN := Lib.hid hbel
      rw [List.take_length] at ho hpl
      have HO := Lib.hid ho
      clear hbel HOUT
      generalize hys : ptS xs fs = ys at *
      obtain ⟨oa, on, oc, rfl⟩ := own_sl ho
      obtain ⟨_, hon, _⟩ := own_cap ho
      subst hon
      clear ho
      go_wp2_with (go_at_call 61; fail)
      refine (sort_any _ ys _ _ HO.out hpl).mono ?_
      rintro e w2 ⟨rfl, ho2, hg2⟩
      have HO2 := Lib.hid ho2
      have HB2 : Hid (Below w.heap.size w w2) := Lib.hid (HBN.out.grown hg2 HBN.out.size (fun q e => (HO.out.lt q e).1))
      clear ho2 hg2
      go_wp2_with (go_at_call 62; fail)
      have hsl := srt_len ys
      have h2 := cpt_any _ (srtL ys) w2 _ HO2.out (by omega)
      refine h2.mono ?_
      rintro e w3 ⟨⟨r, rfl, hr⟩, hg3⟩
      have HR := Lib.hid hr
      have HB3 : Hid (Below w.heap.size w w3) := Lib.hid (HB2.out.grown hg3 HB2.out.size (fun q e => (HO2.out.lt q e).1))
      obtain ⟨_, _, rfl, _⟩ := hr
      clear h2 hg3
      go_wp2
      go_ret2
      exact ⟨⟨_, by rw [hys]; rfl, by rw [hys]; exact HR.out⟩, HB3.out⟩

theorem fold_len : ∀ (ys l : List Int), (ys.foldl slotIns l).length ≤ l.length + ys.length
  | [], l => by simp
  | y :: ys, l => by
    have h1 := fold_len ys (slotIns l y)
    have h2 := slotIns_len l y
    rw [List.foldl_cons, List.length_cons]
    omega
theorem fold_snoc {ys l : List Int} {j : Nat} (h : j < ys.length) : (ys.take (j + 1)).foldl slotIns l = slotIns ((ys.take j).foldl slotIns l) ys[j] := by
  rw [List.take_succ_eq_append_getElem h, List.foldl_append]
  rfl
set_option maxRecDepth 100000 in
set_option maxHeartbeats 8000000 in
theorem rinto_any (v fv : Value) (xs : List St) (fs : List Int) (w : World) (hv : Rd setE w v xs) (hf : Rd i64E w fv fs) (hb : (xs.map (·.slots.length)).sum ≤ 1000000) :
    Calls Try.prog 38 #[v, fv] w fun e w' => IntP xs fs e w' ∧ Below w.heap.size w w' := by
  have HV := Lib.hid hv
  have HF := Lib.hid hf
  obtain ⟨a, cap, rfl, hl, hm, _⟩ := id hv
  obtain ⟨fa, fc, rfl, _⟩ := id hf
  unfold maxLen at hm
  clear hv hf
  go_enter Try.func38, Try.ntmps38
  go_wp2_with fail
  go_loopw [6, 7, 14] (fun out n i W => ∃ k : Nat, k ≤ xs.length ∧ i = .int .i64 k ∧ n = .int .i64 ((ptS (xs.take k) fs).length : Nat) ∧ Below w.heap.size w W ∧ Rd i64E W out ((ptS (xs.take k) fs).foldl slotIns [])) (fun _ _ i _ => xs.length - (intOf i).toNat)
  case atStart => exact ⟨0, by omega, rfl, rfl, Below.refl _ _, Rd.nil _ _⟩
  case round =>
    obtain ⟨k, hk, rfl, rfl, hbel, ho⟩ := hrel
    have HBE := Lib.hid hbel
    have HOUT := Lib.hid ho
    obtain ⟨oa, oc, rfl, _⟩ := ho
    have hpl : (ptS (xs.take k) fs).length ≤ 1000000 := Nat.le_trans (ptS_len _ _) (Nat.le_trans (take_sum _) hb)
    by_cases hlt : k < xs.length
    · obtain ⟨b, off, rfl⟩ := rd_addr HV.out (by omega)
      obtain ⟨hq, ra, rc, x0, x1, x2, hrs⟩ := set_cells HV.out hlt
      have y0 : wr.cell? ⟨b, off + k * 3, none⟩ = some (.int .i64 xs[k].fr) := (hbel.cell (p := ⟨b, off + k * 3, none⟩) hq).trans x0
      have y1 : wr.cell? ⟨b, off + k * 3 + 1, none⟩ = some (.int .i64 xs[k].to) := (hbel.cell (p := ⟨b, off + k * 3 + 1, none⟩) hq).trans x1
      have y2 : wr.cell? ⟨b, off + k * 3 + 2, none⟩ = some (.slice ra xs[k].slots.length rc) := (hbel.cell (p := ⟨b, off + k * 3 + 2, none⟩) hq).trans x2
      have hq2 : b < wr.heap.size := Nat.lt_of_lt_of_le hq hbel.size
      have HRS := Lib.hid hrs
      have HSN := Lib.hid (ptS_snoc (fs := fs) hlt)
      have hpl2 : (ptS (xs.take k) fs).length + xs[k].slots.length ≤ 1000000 := by
        have h2 := cntTo_succ hlt
        have h3 : cntTo xs (k + 1) ≤ 1000000 := Nat.le_trans (cntTo_all _) hb
        have h1 : (ptS (xs.take k) fs).length ≤ cntTo xs k := ptS_len _ _
        omega
      have hol := fold_len (ptS (xs.take k) fs) []
      have HOS := Lib.hid (foldIns_ok (ptS (xs.take k) fs) [] List.Pairwise.nil).1
      generalize hys : ptS (xs.take k) fs = ys at *
      generalize hzs : ys.foldl slotIns [] = zs at *
      simp only [List.length_nil, Nat.zero_add] at hol
      clear x0 x1 x2 hrs hbel
      have HA : Hid (∀ o, Below w.heap.size w (wr.alloc o)) := Lib.hid fun o => HBE.out.alloc HBE.out.size o
      go_wp2_with (go_at_call 63; fail)
      refine (in18_any _ fs _ (HF.out.below (HA.out _)) xs[k].to).mono ?_
      rintro e w2 ⟨⟨b1, rfl, h1⟩, hb2⟩
      have H1 := Lib.hid h1
      have HB2 : Hid (Below wr.heap.size wr w2) := Lib.hid (((Below.refl _ _).alloc (Nat.le_refl _) _).trans (hb2.mono (by simp)))
      have hbx := below_block hb2 (by simp) (heap_alloc_new wr _)
      have HBX := Lib.hid hbx
      have z0 : w2.cell? ⟨wr.heap.size, 0, none⟩ = some (.int .i64 xs[k].fr) := by rw [cell_block hbx]; rfl
      have hlt2 := block_lt hbx
      have HBN := Lib.hid (HBE.out.trans (HB2.out.mono HBE.out.size))
      clear h1 hb2 hbx y0 y1 y2
      cases b1 with
      | false =>
        have HK : Hid (Pt fs xs[k] = false) := Lib.hid (by
          rw [Bool.eq_false_iff]
          intro h
          exact absurd (H1.out.2 (pt_iff.1 h).1) (by decide))
        have HSM : Hid (ptS (xs.take (k + 1)) fs = ys) := Lib.hid (by rw [HSN.out, HK.out]; simp)
        go_wp2
        go_roundw
        case rel => exact ⟨k + 1, by omega, by go_num, by rw [HSM.out], HBN.out, by rw [HSM.out, hzs]; exact HOUT.out.below HB2.out⟩
        case measure => simp [intOf]; omega
      | true =>
        have HT : Hid (xs[k].to ∈ fs) := Lib.hid (by have := H1.out; simpa using this)
        go_wp2_with (go_at_call 63; fail)
        refine (in18_any _ fs _ (HF.out.below HBN.out) xs[k].fr).mono ?_
        rintro e w3 ⟨⟨b2, rfl, h2⟩, hb3⟩
        have HK : Hid (Pt fs xs[k] = !b2) := Lib.hid (by rw [pt_in (b1 := true) (iff_of_true rfl HT.out) h2]; rfl)
        have HB3 : Hid (Below wr.heap.size wr w3) := Lib.hid (HB2.out.trans (hb3.mono HB2.out.size))
        have hbx := below_block hb3 hlt2 HBX.out
        have z2 : w3.cell? ⟨wr.heap.size, 2, none⟩ = some (.slice ra xs[k].slots.length rc) := by rw [cell_block hbx]; rfl
        have hlt3 := block_lt hbx
        have HBM := Lib.hid (HBE.out.trans (HB3.out.mono HBE.out.size))
        have HO3 := Lib.hid (HOUT.out.below HB3.out)
        clear h2 hb3 hbx z0
        cases b2 with
        | true =>
          have HSM : Hid (ptS (xs.take (k + 1)) fs = ys) := Lib.hid (by rw [HSN.out, HK.out]; simp)
          go_wp2
          go_roundw
          case rel => exact ⟨k + 1, by omega, by go_num, by rw [HSM.out], HBM.out, by rw [HSM.out, hzs]; exact HO3.out⟩
          case measure => simp [intOf]; omega
        | false =>
          have HSM : Hid (ptS (xs.take (k + 1)) fs = ys ++ xs[k].slots) := Lib.hid (by rw [HSN.out, HK.out]; simp)
          have HRS3 := Lib.hid (HRS.out.below HBM.out)
          have hww : IntKind.i64.wrap ((ys.length : Int) + (xs[k].slots.length : Int)) = (ys.length : Int) + (xs[k].slots.length : Int) := IntWalk.i64_in _ (by omega)
          go_wp2_with fail
          go_loopw [6, 37] (fun out i W => ∃ j : Nat, j ≤ xs[k].slots.length ∧ i = .int .i64 j ∧ Below w.heap.size w W ∧ Below w3.heap.size w3 W ∧ Rd i64E W out ((xs[k].slots.take j).foldl slotIns zs)) (fun _ i _ => xs[k].slots.length - (intOf i).toNat)
          case atStart => exact ⟨0, by omega, rfl, HBM.out, Below.refl _ _, HO3.out⟩
          case round =>
            obtain ⟨j, hj, rfl, hbel, hbl3, ho⟩ := hrel
            have HBE4 := Lib.hid hbel
            have HBL3 := Lib.hid hbl3
            have HOT := Lib.hid ho
            obtain ⟨oa2, oc2, rfl, _⟩ := ho
            by_cases hjt : j < xs[k].slots.length
            · obtain ⟨sb, so, rfl⟩ := rd_addr HRS3.out (by omega)
              obtain ⟨g1, g2⟩ := int_cells HRS3.out hjt
              have w0 := (hbl3.cell (p := ⟨sb, so + j, none⟩) g1).trans g2
              have wl : sb < wr.heap.size := Nat.lt_of_lt_of_le g1 hbl3.size
              have hfl := fold_len (xs[k].slots.take j) zs
              rw [List.length_take] at hfl
              have HSR := Lib.hid (foldIns_ok (xs[k].slots.take j) zs HOS.out).1
              have HFS := Lib.hid (fold_snoc (l := zs) hjt)
              generalize hqs : (xs[k].slots.take j).foldl slotIns zs = qs at *
              clear hbel hbl3 g2
              go_wp2_with (go_at_call 64; fail)
              refine (with_any _ qs _ HOT.out (by omega) HSR.out _).mono ?_
              rintro e w5 ⟨⟨r, rfl, hr⟩, hb5⟩
              have HR : Hid (Rd i64E w5 r (slotIns qs xs[k].slots[j])) := Lib.hid (by
                rcases hr with ⟨rfl, hc⟩ | ⟨hc, ho⟩
                · rw [show slotIns qs xs[k].slots[j] = qs by unfold slotIns; rw [if_pos hc]]
                  exact HOT.out.below hb5
                · exact ho.rd)
              have HB5 := Lib.hid (HBE4.out.trans (hb5.mono HBE4.out.size))
              have HB53 := Lib.hid (HBL3.out.trans (hb5.mono HBL3.out.size))
              obtain ⟨_, _, rfl, _⟩ := HR.out
              clear hr hb5
              go_wp2
              go_roundw
              case rel => exact ⟨j + 1, by omega, by go_num, HB5.out, HB53.out, by rw [HFS.out]; exact HR.out⟩
              case measure => simp [intOf]; omega
            · obtain rfl : j = xs[k].slots.length := by omega
              have HFF : Hid ((ys ++ xs[k].slots).foldl slotIns [] = (xs[k].slots.take xs[k].slots.length).foldl slotIns zs) := Lib.hid (by rw [List.foldl_append, hzs, List.take_length])
              clear hbel hbl3
              go_wp2
              go_roundw
              case rel => exact ⟨k + 1, by omega, by go_num, by rw [HSM.out, List.length_append, Int.natCast_add], HBE4.out, by rw [HSM.out, HFF.out]; exact HOT.out⟩
              case measure => simp [intOf]; omega
    · obtain rfl : k = xs.length := by omega
      have HR : Hid (Rd i64E wr (.slice oa ((ptS (xs.take xs.length) fs).foldl slotIns []).length oc) (setL (ptS xs fs))) := Lib.hid (by rw [← fold_setL]; have := HOUT.out; rw [List.take_length] at this ⊢; exact this)
      have HTL : Hid (ptS (xs.take xs.length) fs = ptS xs fs) := Lib.hid (by rw [List.take_length])
      go_wp2
      go_ret2
      exact ⟨⟨_, by rw [← HTL.out]; rfl, HR.out⟩, hbel⟩
end Go.Proofs.Ytchdmemgkegefaa
