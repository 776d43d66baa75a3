/- Whether a number is in a list: ref18.in, slices.Index, slices.Contains. No condition. -/
import Derived.Test.YtchdmemgkegefaaRemI
namespace Go.Proofs.Ytchdmemgkegefaa
open Go.RowKit
set_option linter.unusedVariables false
set_option linter.unusedSimpArgs false

set_option maxRecDepth 100000 in
set_option maxHeartbeats 4000000 in
theorem in18_any (v : Value) (l : List Int) (w : World) (hv : Rd i64E w v l) (x : Int) :
    Calls Try.prog 63 #[v, .int .i64 x] w fun e w' => RBs e (x ∈ l) ∧ Below w.heap.size w w' := by
  obtain ⟨a, cap, rfl, hl, hm, _⟩ := id hv
  have HV := Lib.hid hv
  clear hv
  unfold maxLen at hm
  go_enter Try.func63, Try.ntmps63
  go_wp2_with fail
  go_loopw [9] (fun i wr => ∃ k : Nat, k ≤ l.length ∧ i = .int .i64 k ∧ Below w.heap.size w wr ∧ ∀ j (h : j < l.length), j < k → l[j] ≠ x) (fun i _ => l.length - (intOf i).toNat)
  case atStart => exact ⟨0, by omega, rfl, Below.refl _ _, fun j _ h => absurd h (Nat.not_lt_zero _)⟩
  case round =>
    obtain ⟨k, hk, rfl, hbel, hno⟩ := hrel
    have HNO := Lib.hid hno
    clear hno
    by_cases hlt : k < l.length
    · have hrr := HV.out.below hbel
      obtain ⟨b, off, rfl⟩ := rd_addr hrr (by omega)
      obtain ⟨hq, hc⟩ := int_cells hrr hlt
      by_cases he : l[k] = x
      · have hm : x ∈ l := he ▸ List.getElem_mem hlt
        have HM := Lib.hid hm
        have k3 : (l[k] == x) = true := by simpa using he
        clear hm he hrr
        go_wp2
        go_ret
        exact ⟨⟨true, rfl, fun _ => HM.out, fun _ => rfl⟩, hbel⟩
      · have HE := Lib.hid he
        have k3 : (l[k] == x) = false := by simpa using he
        clear he hrr
        go_wp2
        go_roundw
        case rel => exact ⟨k + 1, by omega, by go_num, hbel, fun j h hj => by
          rcases Nat.lt_succ_iff_lt_or_eq.1 hj with h3 | h3
          · exact HNO.out j h h3
          · subst h3; exact HE.out⟩
        case measure => simp [intOf]; omega
    · have hm : x ∉ l := fun h => by
        obtain ⟨j, hj, e⟩ := List.mem_iff_getElem.1 h
        exact HNO.out j hj (by omega) e
      have HM := Lib.hid hm
      clear hm
      go_wp2
      go_ret
      exact ⟨⟨false, rfl, fun h => (by cases h), fun h => absurd h HM.out⟩, hbel⟩

/-- what slices.Index says -/
def IxP (l : List Int) (x : Int) (e : Ending) : Prop := ∃ i : Int, e = .returned (.int .i64 i) ∧ (0 ≤ i ↔ x ∈ l)
set_option maxRecDepth 100000 in
set_option maxHeartbeats 4000000 in
theorem index_any (v : Value) (l : List Int) (w : World) (hv : Rd i64E w v l) (x : Int) :
    Calls Try.prog 77 #[v, .int .i64 x] w fun e w' => IxP l x e ∧ Below w.heap.size w w' := by
  obtain ⟨a, cap, rfl, hl, hm, _⟩ := id hv
  have HV := Lib.hid hv
  clear hv
  unfold maxLen at hm
  go_enter Try.func77, Try.ntmps77
  go_wp2_with fail
  go_loopw [8] (fun i wr => ∃ k : Nat, k ≤ l.length ∧ i = .int .i64 k ∧ Below w.heap.size w wr ∧ ∀ j (h : j < l.length), j < k → l[j] ≠ x) (fun i _ => l.length - (intOf i).toNat)
  case atStart => exact ⟨0, by omega, rfl, Below.refl _ _, fun j _ h => absurd h (Nat.not_lt_zero _)⟩
  case round =>
    obtain ⟨k, hk, rfl, hbel, hno⟩ := hrel
    have HNO := Lib.hid hno
    clear hno
    by_cases hlt : k < l.length
    · have hrr := HV.out.below hbel
      obtain ⟨b, off, rfl⟩ := rd_addr hrr (by omega)
      obtain ⟨hq, hc⟩ := int_cells hrr hlt
      by_cases he : l[k] = x
      · have hm : x ∈ l := he ▸ List.getElem_mem hlt
        have HM := Lib.hid hm
        have k3 : (x == l[k]) = true := by simpa using he.symm
        clear hm he hrr
        go_wp2
        go_ret
        exact ⟨⟨k, rfl, fun _ => HM.out, fun _ => by omega⟩, hbel⟩
      · have HE := Lib.hid he
        have k3 : (x == l[k]) = false := by simpa using fun h => he h.symm
        clear he hrr
        go_wp2
        go_roundw
        case rel => exact ⟨k + 1, by omega, by go_num, hbel, fun j h hj => by
          rcases Nat.lt_succ_iff_lt_or_eq.1 hj with h3 | h3
          · exact HNO.out j h h3
          · subst h3; exact HE.out⟩
        case measure => simp [intOf]; omega
    · have hm : x ∉ l := fun h => by
        obtain ⟨j, hj, e⟩ := List.mem_iff_getElem.1 h
        exact HNO.out j hj (by omega) e
      have HM := Lib.hid hm
      clear hm
      go_wp2
      go_ret
      exact ⟨⟨-1, rfl, fun h => absurd h (by decide), fun h => absurd h HM.out⟩, hbel⟩

set_option maxRecDepth 100000 in
set_option maxHeartbeats 4000000 in
theorem contains_any (v : Value) (l : List Int) (w : World) (hv : Rd i64E w v l) (x : Int) :
    Calls Try.prog 60 #[v, .int .i64 x] w fun e w' => RBs e (x ∈ l) ∧ Below w.heap.size w w' := by
  obtain ⟨a, cap, rfl, hl, hm, _⟩ := id hv
  have HV := Lib.hid hv
  clear hv
  go_enter Try.func60, Try.ntmps60
  go_wp2_with (go_at_call 77; fail)
  refine (index_any _ _ _ HV.out x).mono ?_
  rintro e w1 ⟨⟨i, rfl, hi⟩, hb⟩
  have HI := Lib.hid hi
  clear hi
  go_wp2
  go_ret
  exact ⟨⟨decide (0 ≤ i), rfl, by rw [decide_eq_true_iff]; exact HI.out⟩, hb⟩
end Go.Proofs.Ytchdmemgkegefaa
