/- The walk of the law on long scripts. -/
import Derived.Test.YtadoehlhfccacaaScrL
import Derived.Test.YtadoehlhfccacaaScrR
import Derived.Test.YtadoehlhfccacaaMod
namespace Go.Proofs.Ytadoehlhfccacaa
open Go.RowKit

theorem byteInfo : (Try.prog.info? 5).map (fun i => (i.zero, i.size, i.bytes)) = some (some (.int .u8 0), 1, 1) := by kernel_rfl

/-- what holds at the head of a round that fills the script -/
def RFill (L B g : Nat) (w : World) (i : Value) (wr : World) : Prop :=
  ∃ (k : Nat) (bs : List Int), k ≤ L ∧ i = .int .i64 k ∧ bs.length = L ∧ (∀ x ∈ bs, 0 ≤ x ∧ x ≤ 255) ∧ Own byteE wr B 5 (.slice (some ⟨g, 0, none⟩) L L) bs ∧ Below B w wr

set_option maxHeartbeats 1000000 in
theorem scriptLong_walk (n : Int) (_hn : (Lit.int .i64 n).wf = true) (v : Int) (_hv : (Lit.int .i64 v).wf = true) (w : World) :
    Calls Try.prog 3 #[.int .i64 n, .int .i64 v] w fun e w' => e = .returned (.bool true) ∧ Below w.heap.size w w' := by
  obtain ⟨i0, hi, hz0, hz1, hz2⟩ := info_parts byteInfo
  go_enter Try.func3, Try.ntmps3
  go_wp2_with fail
  refine (mod_bd _ 5 _ (by omega) (by omega)).mono ?_
  rintro e w' ⟨r, hr0, hr1, rfl, rfl⟩
  obtain ⟨m, rfl⟩ := Int.eq_ofNat_of_zero_le hr0
  go_wp2_with (first | (at_make; go_must (refine wpList_make_full _ rfl _ _ 22 rfl w.heap.size 5 i0 (.int .u8 0) 1 Try.underlying22 hi hz0 hz1 .i64 .i64 _ _ (4094 + m) rfl rfl ?_ ?_ ?_ ?_ ?_ ?_)))
  · simp
  · simp
  · rw [hz2]; omega
  · unfold maxLen; omega
  · exact Nat.le_refl _
  intro w1 ho hg
  have hb1 : Below w.heap.size w w1 := (Below.refl _ w).grown hg (Nat.le_refl _) (fun k h => by cases h)
  have hown : Own byteE w1 w.heap.size 5 (.slice (some ⟨w.heap.size, 0, none⟩) (4094 + m) (4094 + m)) (List.replicate (4094 + m) 0) := Own.made1 (z := .int .u8 0) 0 rfl (by rw [Nat.mul_one]; exact ho)
  clear ho hg
  obtain ⟨L, hL1, hL2, hL3⟩ : ∃ L, 4094 + m = L ∧ L ≤ 4098 ∧ 4094 ≤ L := ⟨_, rfl, by omega, by omega⟩
  rw [hL1] at hown
  rw [hL1]
  clear hL1
  go_wp2
  go_loopw [13] (fun i wr => RFill L w.heap.size w.heap.size w i wr) (fun i _ => L - (intOf i).toNat)
  case atStart => exact ⟨0, _, by omega, rfl, by simp, by intro x hx; rw [List.eq_of_mem_replicate hx]; decide, hown, hb1⟩
  case round =>
    obtain ⟨k, bs, hk, rfl, hbl, hbb, hown, hbel⟩ := hrel
    have HB := Lib.hid hbl; clear hbl
    by_cases hlt : k < L
    · obtain ⟨s1, s2, s3, s4, s5⟩ := hown.set1 k (by rw [HB.out]; exact hlt)
      have HS := Lib.hid s5; clear s5
      simp at s3
      go_wp2_with (first | (go_at_call 7; refine (mod_bd _ _ _ (by omega) (by omega)).mono ?_; rintro e w' ⟨q, hq0, hq1, rfl, rfl⟩))
      refine ⟨⟨k + 1, bs.set k q, by omega, by go_num, by rw [List.length_set]; exact HB.out, ?_, HS.out q _ rfl, hbel.setCell (Nat.le_refl _) _⟩, by simp [intOf]; omega⟩
      intro x hx
      rcases List.mem_or_eq_of_mem_set hx with h | h
      · exact hbb x h
      · omega
    · have hkL : L ≤ k := by omega
      have hrd : Rd byteE wr (.slice (some ⟨w.heap.size, 0, none⟩) L L) bs := hown.rd
      have HH := Lib.hid hbb; clear hbb
      have HR := Lib.hid hrd; clear hrd hown
      go_wp2_with fail
      refine (decode_any _ bs _ HR.out HH.out).mono ?_
      rintro e w2 ⟨u, rfl, ho1, hb2⟩
      have HO1 := Lib.hid ho1; clear ho1
      have HR2 := Lib.hid (HR.out.below hb2)
      go_wp2_with fail
      refine (rdecode_any _ bs _ HR2.out HH.out).mono ?_
      rintro e w3 ⟨u', rfl, ho2, hb3⟩
      have hr1 := HO1.out.rd.below hb3
      have hr2 := ho2.rd
      have HO2 := Lib.hid hr1
      have HO3 := Lib.hid hr2
      clear ho2 hr1 hr2
      go_wp2_with fail
      refine (sameOps_true _ _ _ _ HO2.out HO3.out).mono ?_
      rintro e w4 ⟨rfl, q, rfl⟩
      go_wp2_with fail
      refine (awake_any _).mono ?_
      rintro e w5 ⟨rfl, hb4⟩
      go_wp2
      go_ret
      refine ⟨rfl, ?_⟩
      have e1 : Below w.heap.size w w2 := hbel.trans (hb2.mono hbel.size)
      have e2 : Below w.heap.size w w3 := e1.trans (hb3.mono e1.size)
      have e3 : Below w.heap.size w (w3.drewN q) := e2.trans ⟨rfl, rfl, rfl, Nat.le_refl _, fun _ _ => rfl⟩
      exact e3.trans (hb4.mono e3.size)
end Go.Proofs.Ytadoehlhfccacaa
