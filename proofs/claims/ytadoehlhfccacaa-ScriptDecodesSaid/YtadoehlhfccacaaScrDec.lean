/- The walk of the law on what bytes decode to, and operations encode to. -/
import Derived.Test.YtadoehlhfccacaaScp
import Derived.Test.YtadoehlhfccacaaRegV
import Derived.Test.YtadoehlhfccacaaConv
import Derived.Test.YtadoehlhfccacaaScrL
import Derived.Test.YtadoehlhfccacaaIsRow
import Derived.StillTailTactics
namespace Go.Proofs.Ytadoehlhfccacaa
open Go.RowKit
set_option linter.unusedVariables false

/-- at the head of a round over slices in one block -/
def RLs {α : Type} (E : El α) (w0 : World) (pb T : Nat) (vs : List Value) (xss : List (List α)) (i : Value) (W : World) : Prop :=
  ∃ k : Nat, k ≤ vs.length ∧ i = .int .i64 k ∧ Below w0.heap.size w0 W ∧ W.heap[pb]? = some (.cells vs.toArray T (0, 0)) ∧ vs.length = xss.length ∧ ∀ j (h : j < vs.length) (h' : j < xss.length), Rd E W vs[j] xss[j]
theorem RLs.below {α : Type} {E : El α} {w0 : World} {pb T : Nat} {vs : List Value} {xss : List (List α)} {i : Value} {W W' : World} (h : RLs E w0 pb T vs xss i W) (hb : Grw W W') : RLs E w0 pb T vs xss i W' := by
  obtain ⟨k, h1, h2, h3, h4, h5, h6⟩ := h
  exact ⟨k, h1, h2, h3.trans (hb.mono h3.size), below_block hb (block_lt h4) h4, h5, fun j h h' => (h6 j h h').below hb⟩
theorem RLs.succ {α : Type} {E : El α} {w0 : World} {pb T k : Nat} {vs : List Value} {xss : List (List α)} {W : World} (h : RLs E w0 pb T vs xss (.int .i64 k) W) (hk : k < vs.length) : RLs E w0 pb T vs xss (.int .i64 ((k : Int) + 1)) W := by
  obtain ⟨k', h1, h2, h3, h4, h5, h6⟩ := h
  exact ⟨k + 1, hk, by norm_cast, h3, h4, h5, h6⟩
theorem RLs.next {α : Type} {E : El α} {w0 : World} {pb T k : Nat} {vs : List Value} {xss : List (List α)} {W : World} (h : RLs E w0 pb T vs xss (.int .i64 k) W) (hk : k < vs.length) :
    ∃ xa xc xs, xs ∈ xss ∧ W.cell? ⟨pb, k, none⟩ = some (.slice xa xs.length xc) ∧ Rd E W (.slice xa xs.length xc) xs := by
  obtain ⟨k', h1, h2, h3, h4, h5, h6⟩ := h
  have hr := h6 k hk (by omega)
  obtain ⟨xa, xc, e, _⟩ := id hr
  refine ⟨xa, xc, xss[k]'(by omega), List.getElem_mem _, ?_, by rw [← e]; exact hr⟩
  rw [cell_block h4, ← e]
  simp [hk]

/-- what holds at the head of a round that draws bytes -/
def RDecs (B g : Nat) (w : World) (v i : Value) (wr : World) : Prop :=
  ∃ (k : Nat) (ys : List Int), i = .int .i64 k ∧ ys.length + k ≤ 60 ∧ Own byteE wr B 5 v ys ∧ (∀ x ∈ ys, 0 ≤ x ∧ x ≤ 255) ∧ Deck B wr g ∧ Below B w wr

set_option maxRecDepth 100000 in
set_option maxHeartbeats 4000000 in
theorem scriptDecodes_walk (w : World) (v : Value) (bs : List Int) (hv : Rd byteE w v bs) (hb : ∀ x ∈ bs, 0 ≤ x ∧ x ≤ 255) (r : Value) (os : List Op4) (hr : Rd op4E w r os) (ho : ∀ o ∈ os, o.I) (u : Value) (l : List Int) (hu : Rd i64E w u l) (hl : ∀ x ∈ l, I64 x) :
    Calls Try.prog 5 #[v, r, u] w fun e w' => e = .returned (.bool true) ∧ Below w.heap.size w w' := by
  have HU := Lib.hid hu
  have HV := Lib.hid hv
  have HR := Lib.hid hr
  have HL := Lib.hid hl
  have HB := Lib.hid hb
  have HO := Lib.hid ho
  clear hu hl hb ho
  obtain ⟨a2, c2, rfl, hc1, hc2, hvc⟩ := hv.flat
  obtain ⟨a3, c3, rfl, hc3, hc4, hvc3⟩ := hr.flat
  clear hv hvc hr hvc3
  unfold maxLen at hc2 hc4
  by_cases hlen : 6000 < bs.length
  · have hd : decide ((6000 : Int) < bs.length) = true := by simp; omega
    go_enter Try.func5, Try.ntmps5
    go_wp2_with (first | (go_at_call 11; refine (awake_any _).mono ?_; rintro e w' ⟨rfl, hb'⟩))
    go_ret
    exact ⟨rfl, hb'⟩
  have hd : decide ((6000 : Int) < bs.length) = false := by simp; omega
  by_cases hlen3 : 300 < os.length
  · have hd3 : decide ((300 : Int) < os.length) = true := by simp; omega
    go_enter Try.func5, Try.ntmps5
    go_wp2_with (first | (go_at_call 11; refine (awake_any _).mono ?_; rintro e w' ⟨rfl, hb'⟩))
    go_ret
    exact ⟨rfl, hb'⟩
  have hd3 : decide ((300 : Int) < os.length) = false := by simp; omega
  go_enter Try.func5, Try.ntmps5
  go_wp2_with fail
  refine (new_any _ l _ HU.out HL.out).mono ?_
  rintro e w1 ⟨g, rfl, hdk, hb1⟩
  have HD1 := Lib.hid hdk
  have HB1 := Lib.hid hb1
  clear hdk hb1
  go_wp2_with fail
  refine (next_any _ _ 60 _ HD1.out (by omega) (by omega)).mono ?_
  rintro e w2 ⟨k0, hk0, hk1, rfl, hdk2, hg2⟩
  obtain ⟨k, rfl⟩ := Int.eq_ofNat_of_zero_le hk0
  have hB2 : Below w.heap.size w w2 := HB1.out.grown hg2 HB1.out.size (fun q hq => by injection hq with hq; have := HD1.out.1; omega)
  have HD2 := Lib.hid hdk2
  clear hdk2 hg2
  go_wp2_with fail
  go_loopw [8, 9] (fun v i wr => RDecs w.heap.size g w v i wr) (fun _ i _ => (intOf i).toNat)
  case atStart => exact ⟨k, [], rfl, by simp; omega, Own.nil _ _ _ _, by simp, HD2.out, hB2⟩
  case round =>
    obtain ⟨q, ys, rfl, hql, hown, hok, hdk, hbel⟩ := hrel
    have HOW := Lib.hid hown
    have HK := Lib.hid hok
    have HDK := Lib.hid hdk
    clear hown hok hdk hB2
    by_cases hq : 0 < q
    · obtain ⟨p, rfl⟩ : ∃ p, q = p + 1 := ⟨q - 1, by omega⟩
      clear hq
      go_wp2_with fail
      refine (next_any _ _ 13 _ HDK.out (by omega) (by omega)).mono ?_
      rintro e w3 ⟨x, hx0, hx1, rfl, hdk3, hg3⟩
      have ho3 : Own byteE w3 w.heap.size 5 u8 ys := by
        obtain ⟨_, _, _, _, hblk, _⟩ := HDK.out
        exact HOW.out.kept hg3 (Or.inr (Ne.symm (HOW.out.ne_block hblk (by decide)))) (fun _ _ h => h)
      have hB3 : Below w.heap.size w w3 := hbel.grown hg3 hbel.size (fun q hq => by injection hq with hq; have := HDK.out.1; omega)
      have HD3 := Lib.hid hdk3
      have hs3 := hB3.size
      clear hdk3 hg3
      go_wp2_with (at_builtin; go_must (refine wpList_append_lit byteE byteS rfl _ _ rfl w.heap.size _ ys rfl ho3 x _ _ rfl ?_ rfl ?_ ?_ ?_ ?_ (fun _ _ _ _ h => h) ?_))
      · simp
      · simp [Value.oneCell']
      · omega
      · unfold maxLen; omega
      · exact hs3
      · intro v4 w4 ho4 hg4 hbb4
        have e4 : Below w.heap.size w w4 := hB3.trans hbb4
        have hdk4 : Deck w.heap.size w4 g := by
          have hd3 := HD3.out
          obtain ⟨_, _, _, _, hblk, _⟩ := HD3.out
          have hblk4 := grown_block hg4 (alloc_block hblk) (ho3.ne_block hblk (by decide))
          exact hd3.keep (fun k hk => by rw [e4.block k hk, hB3.block k hk]) (by rw [hblk4, hblk])
        clear hg4 hbb4 ho3
        go_wp2
        go_roundw
        case rel =>
          refine ⟨p, ys ++ [x], by go_num, by simp; omega, ho4, ?_, hdk4, e4⟩
          intro o' ho'
          rcases List.mem_append.1 ho' with h | h
          · exact HK.out o' h
          · rw [List.mem_singleton.1 h]; omega
        case measure => simp [intOf]
    · have hq0 : q = 0 := by omega
      subst hq0
      clear hq
      go_wp2_with fail
      refine (script_any w.heap.size g 20 _ HDK.out (by omega)).mono ?_
      rintro e w4 ⟨v4, xs4, rfl, hr4, hx4, hl4, hdk4, hg4⟩
      have hrw4 : Own byteE w4 w.heap.size 5 u8 ys := by
        obtain ⟨_, _, _, _, hblk, _⟩ := HDK.out
        exact HOW.out.kept hg4 (Or.inr (Ne.symm (HOW.out.ne_block hblk (by decide)))) (fun _ _ h => h)
      have hb4 : Below w.heap.size w w4 := hbel.grown hg4 hbel.size (fun q hq => by injection hq with hq; have := HDK.out.1; omega)
      have hs4 := hb4.size
      have HST : Hid (RLs byteE w w4.heap.size 22 [.slice a2 bs.length c2, u8, v4] [bs, ys, xs4] (.int .i64 0) (w4.alloc (.cells #[.slice a2 bs.length c2, u8, v4] 22))) := Lib.hid (by
        refine ⟨0, by simp, rfl, hb4.alloc hs4 _, heap_alloc_new _ _, rfl, ?_⟩
        intro j h h'
        have hbb : Below w4.heap.size w4 (w4.alloc (.cells #[.slice a2 bs.length c2, u8, v4] 22)) := (Below.refl _ _).alloc (Nat.le_refl _) _
        have : j = 0 ∨ j = 1 ∨ j = 2 := by simp at h; omega
        rcases this with rfl | rfl | rfl
        · exact (HV.out.below hb4).below hbb
        · exact hrw4.rd.below hbb
        · exact hr4.below hbb)
      have HX4 := Lib.hid hx4
      have HRW4 := Lib.hid hrw4
      have HB4 := Lib.hid hb4
      have hyl : ys.length ≤ 60 := by omega
      obtain ⟨s4, n4, rfl⟩ := own_form hrw4
      obtain ⟨t4, m4, rfl, _⟩ := id hr4
      clear hx4 hg4 hdk4 hr4 hrw4 hb4 hbel
      go_wp2
      go_loopw [43] (fun i wr => RLs byteE w w4.heap.size 22 [.slice a2 bs.length c2, .slice s4 ys.length n4, .slice t4 xs4.length m4] [bs, ys, xs4] i wr) (fun i _ => 3 - (intOf i).toNat)
      case atStart => exact HST.out
      case round =>
        obtain ⟨k, hk, rfl, _⟩ := id hrel
        have HREL := Lib.hid hrel
        clear hrel
        simp only [List.length_cons, List.length_nil] at hk
        by_cases hlt : k < 3
        · obtain ⟨xa, xc, xs, hmem, hcell, hrx⟩ := HREL.out.next hlt
          have hpl := block_lt (HREL.out).choose_spec.2.2.2.1
          have hxr : (∀ x ∈ xs, 0 ≤ x ∧ x ≤ 255) ∧ xs.length ≤ 6000 := by
            simp only [List.mem_cons, List.not_mem_nil, or_false] at hmem
            rcases hmem with rfl | rfl | rfl
            · exact ⟨HB.out, by omega⟩
            · exact ⟨HK.out, by omega⟩
            · exact ⟨HX4.out, by omega⟩
          obtain ⟨hxr, hxl⟩ := hxr
          have HRX := Lib.hid hrx
          have HXR := Lib.hid hxr
          have hsw := (HREL.out).choose_spec.2.2.1.size
          clear hrx hxr hmem
          go_wp2_with fail
          refine (decode_any _ xs _ HRX.out HXR.out).mono ?_
          rintro e w5 ⟨r5, rfl, ho5, hb5⟩
          have HO5 := Lib.hid ho5.rd
          have HRX5 := Lib.hid (HRX.out.below hb5)
          have HB5 := Lib.hid hb5
          clear ho5 hb5
          go_wp2_with fail
          refine (rdecode_any _ xs _ HRX5.out HXR.out).mono ?_
          rintro e w6 ⟨r6, rfl, ho6, hb6⟩
          have HO6 := Lib.hid ho6.rd
          have HO56 := Lib.hid (HO5.out.below hb6)
          have HB6 := Lib.hid hb6
          clear ho6 hb6
          go_wp2_with fail
          refine (sameOps_true _ _ _ _ HO56.out HO6.out).mono ?_
          rintro e w7 ⟨rfl, n7, rfl⟩
          go_wp2
          go_roundw
          case rel => exact (((HREL.out.succ hlt).below HB5.out).below HB6.out).below ⟨rfl, rfl, rfl, Nat.le_refl _, fun _ _ => rfl⟩
          case measure => simp [intOf]; omega
        · have hRW : Hid (Rd byteE wr (.slice s4 ys.length n4) ys) := Lib.hid ((HREL.out).choose_spec.2.2.2.2.2 1 (by simp) (by simp))
          have HRO := Lib.hid (HR.out.below (HREL.out).choose_spec.2.2.1)
          have HBW := Lib.hid (HREL.out).choose_spec.2.2.1
          clear HREL HST
          go_wp2_with fail
          refine (rdecode_any _ ys _ hRW.out HK.out).mono ?_
          rintro e w8 ⟨r8, rfl, ho8, hb8⟩
          have hb9 : Below w.heap.size w w8 := HBW.out.trans (hb8.mono HBW.out.size)
          rw [List.take_of_length_le (by omega)] at ho8
          have HST : Hid (RLs op4E w w8.heap.size 25 [.slice a3 os.length c3, r8] [os, dec ys] (.int .i64 0) (w8.alloc (.cells #[.slice a3 os.length c3, r8] 25))) := Lib.hid (by
            refine ⟨0, by simp, rfl, hb9.alloc hb9.size _, heap_alloc_new _ _, rfl, ?_⟩
            intro j h h'
            have hbb : Below w8.heap.size w8 (w8.alloc (.cells #[.slice a3 os.length c3, r8] 25)) := (Below.refl _ _).alloc (Nat.le_refl _) _
            have : j = 0 ∨ j = 1 := by simp at h; omega
            rcases this with rfl | rfl
            · exact (HRO.out.below hb8).below hbb
            · exact ho8.rd.below hbb)
          have hs9 := hb9.size
          obtain ⟨t8, m8, rfl⟩ := own_form ho8
          clear ho8 hb8 hb9
          go_wp2
          go_loopw [59] (fun i wr => RLs op4E w w8.heap.size 25 [.slice a3 os.length c3, .slice t8 (dec ys).length m8] [os, dec ys] i wr) (fun i _ => 2 - (intOf i).toNat)
          case atStart => exact HST.out
          case round =>
            obtain ⟨k, hk, rfl, _⟩ := id hrel
            have HREL := Lib.hid hrel
            clear hrel
            simp only [List.length_cons, List.length_nil] at hk
            by_cases hlt : k < 2
            · obtain ⟨xa, xc, xs, hmem, hcell, hrx⟩ := HREL.out.next hlt
              have hpl := block_lt (HREL.out).choose_spec.2.2.2.1
              have hdl := dec_length ys
              have hxr : (∀ x ∈ xs, x.I) ∧ xs.length ≤ 300 := by
                simp only [List.mem_cons, List.not_mem_nil, or_false] at hmem
                rcases hmem with rfl | rfl
                · exact ⟨HO.out, by omega⟩
                · exact ⟨dec_range ys HK.out, by omega⟩
              obtain ⟨hxr, hxl⟩ := hxr
              have HRX := Lib.hid hrx
              have HXR := Lib.hid hxr
              clear hrx hxr hmem hdl
              go_wp2_with fail
              apply wp_region_vals (by kernel_rfl) Grw (Grw.drew _) [63, 64, 65, 66, 67, 68, 69] [Is _, (fun v W => Rd byteE W v (enc xs)), Is _, Is _, (fun v W => Rd byteE W v (enc xs)), Is _, Is (.bool false)] (stb_cons (Stb.is) (stb_cons (Stb.rd) (stb_cons (Stb.is) (stb_cons (Stb.is) (stb_cons (Stb.rd) (stb_cons (Stb.is) (stb_cons (Stb.is) stb_nil))))))) (by kernel_rfl) (by kernel_rfl) (by kernel_rfl)
              · refine VSteps.cons (VStep.mk Grw.trans rfl rfl fun t V hout hE hdep K hK => ?_) ?_
                · skip
                  have t13 : t[13]? = some _ := hout 13 (by kernel_rfl)
                  clear hout hdep
                  go_simp
                  exact hK.out _ _ (Grw.refl _) rfl
                refine VSteps.cons (VStep.mk Grw.trans rfl rfl fun t V hout hE hdep K hK => ?_) ?_
                · skip
                  have t63 := by_is (W := V) (hdep 0 63 (by kernel_rfl))
                  clear hout hdep
                  go_simp
                  refine (encode_any _ xs _ (HRX.out.below hE) HXR.out (by omega)).mono ?_
                  rintro e W5 ⟨v5, rfl, ho5, hb5⟩
                  go_simp
                  exact hK.out _ _ hb5 ho5.rd
                refine VSteps.cons (VStep.mk Grw.trans rfl rfl fun t V hout hE hdep K hK => ?_) ?_
                · skip
                  obtain ⟨v64, t64, e64⟩ := hdep 1 64 (by kernel_rfl)
                  clear hout hdep
                  obtain ⟨sa, sc, rfl, _⟩ := id e64
                  have cv := conv_bytes (P := Try.prog) (src := 22) (dst := 9) Try.underlying22 Try.underlying5 Try.underlying9 V _ _ _ _ e64
                  go_simp
                  exact hK.out _ _ (Grw.refl _) rfl
                refine VSteps.cons (VStep.mk Grw.trans rfl rfl fun t V hout hE hdep K hK => ?_) ?_
                · skip
                  have t13 : t[13]? = some _ := hout 13 (by kernel_rfl)
                  clear hout hdep
                  go_simp
                  exact hK.out _ _ (Grw.refl _) rfl
                refine VSteps.cons (VStep.mk Grw.trans rfl rfl fun t V hout hE hdep K hK => ?_) ?_
                · skip
                  have t66 := by_is (W := V) (hdep 3 66 (by kernel_rfl))
                  clear hout hdep
                  go_simp
                  refine (rencode_any _ xs _ (HRX.out.below hE) HXR.out (by omega)).mono ?_
                  rintro e W5 ⟨v5, rfl, ho5, hb5⟩
                  go_simp
                  exact hK.out _ _ hb5 ho5.rd
                refine VSteps.cons (VStep.mk Grw.trans rfl rfl fun t V hout hE hdep K hK => ?_) ?_
                · skip
                  obtain ⟨v67, t67, e67⟩ := hdep 4 67 (by kernel_rfl)
                  clear hout hdep
                  obtain ⟨sa, sc, rfl, _⟩ := id e67
                  have cv := conv_bytes (P := Try.prog) (src := 22) (dst := 9) Try.underlying22 Try.underlying5 Try.underlying9 V _ _ _ _ e67
                  go_simp
                  exact hK.out _ _ (Grw.refl _) rfl
                refine VSteps.cons (VStep.mk Grw.trans rfl rfl fun t V hout hE hdep K hK => ?_) ?_
                · skip
                  have t65 := by_is (W := V) (hdep 2 65 (by kernel_rfl))
                  have t68 := by_is (W := V) (hdep 5 68 (by kernel_rfl))
                  clear hout hdep
                  go_simp
                  exact hK.out _ _ (Grw.refl _) (by first | rfl | simp [Is, fAt] | (unfold fAt; simp [Is]))
                exact VSteps.nil (by decide)
              · intro f W hE hF
                have f63 : f 63 = _ := hF 0 63 (by kernel_rfl)
                have f64 := hF 1 64 (by kernel_rfl)
                have f65 : f 65 = _ := hF 2 65 (by kernel_rfl)
                have f66 : f 66 = _ := hF 3 66 (by kernel_rfl)
                have f67 := hF 4 67 (by kernel_rfl)
                have f68 : f 68 = _ := hF 5 68 (by kernel_rfl)
                have f69 : f 69 = _ := hF 6 69 (by kernel_rfl)
                simp only [setAllV, List.map_cons, List.map_nil, List.set_cons_succ, List.set_cons_zero, f63, f65, f66, f68, f69]
                clear hF f63 f65 f66 f68 f69
                generalize f 64 = v64 at *
                generalize f 67 = v67 at *
                have HE := Lib.hid hE
                clear hE
                go_wp2
                go_roundw
                case rel => exact (HREL.out.succ hlt).below HE.out
                case measure => simp [intOf]; omega
            · have HBW := Lib.hid (HREL.out).choose_spec.2.2.1
              go_wp2_with (first | (go_at_call 11; refine (awake_any _).mono ?_; rintro e w' ⟨rfl, hb'⟩))
              go_ret
              exact ⟨rfl, HBW.out.trans (hb'.mono HBW.out.size)⟩
end Go.Proofs.Ytadoehlhfccacaa
