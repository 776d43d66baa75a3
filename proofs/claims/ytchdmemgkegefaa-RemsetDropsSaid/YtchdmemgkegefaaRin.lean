/- ref18.Insert and Has, mk.Slots. Condition: sets that read as a list, not too many. -/
import Derived.Test.YtchdmemgkegefaaPut
namespace Go.Proofs.Ytchdmemgkegefaa
open Go.RowKit
set_option linter.unusedVariables false
set_option linter.unusedSimpArgs false

def RinR (xs : List St) (fr tq sl : Int) (w : World) (e : Ending) (w' : World) : Prop :=
  (¬ InsOk xs fr tq sl → e = .returned (.tuple #[.slice none 0 0, .int .i64 1])) ∧
  (InsOk xs fr tq sl → ∃ r k ok, e = .returned (.tuple #[r, .int .i64 0]) ∧ Srch xs fr tq k ok ∧ Rd setE w' r (insRes xs fr tq sl k ok))
theorem rvalid_t (v : Value) (xs : List St) (w : World) (hv : Rd setE w v xs) (h : SetsOk xs) : Calls Try.prog 32 #[v] w fun e w' => e = .returned (.bool true) ∧ Below w.heap.size w w' :=
  (rvalid_any v xs w hv).mono fun e w' ⟨a, b⟩ => ⟨rbs_true h a, b⟩
theorem rvalid_f (v : Value) (xs : List St) (w : World) (hv : Rd setE w v xs) (h : ¬ SetsOk xs) : Calls Try.prog 32 #[v] w fun e w' => e = .returned (.bool false) ∧ Below w.heap.size w w' :=
  (rvalid_any v xs w hv).mono fun e w' ⟨a, b⟩ => ⟨rbs_false h a, b⟩
theorem num_t (x : Int) (w : World) (h : FrOk x) : Calls Try.prog 58 #[.int .i64 x] w fun e w' => e = .returned (.bool true) ∧ w = w' := (num_any x w).mono fun e w' ⟨a, b⟩ => ⟨rbs_true h a, b⟩
theorem num_f (x : Int) (w : World) (h : ¬ FrOk x) : Calls Try.prog 58 #[.int .i64 x] w fun e w' => e = .returned (.bool false) ∧ w = w' := (num_any x w).mono fun e w' ⟨a, b⟩ => ⟨rbs_false h a, b⟩

set_option maxRecDepth 100000 in
set_option maxHeartbeats 8000000 in
theorem rinsert_any (v : Value) (xs : List St) (w : World) (hv : Rd setE w v xs) (hb : xs.length ≤ 99999) (hsl : ∀ x ∈ xs, x.slots.length ≤ 99999) (fr tq sl : Int) :
    Calls Try.prog 35 #[v, .int .i64 fr, .int .i64 tq, .int .i64 sl] w fun e w' => RinR xs fr tq sl w e w' ∧ Below w.heap.size w w' := by
  have HV := Lib.hid hv
  have HSL := Lib.hid hsl
  obtain ⟨a, cap, rfl, hl, hm, _⟩ := id hv
  clear hsl
  by_cases h1 : SetsOk xs
  case neg =>
    have HC := Lib.hid (rvalid_f _ xs w hv h1)
    clear hv
    go_enter Try.func35, Try.ntmps35
    go_wp2_with (first | (go_at_call 32; refine HC.out.mono ?_; rintro e w1 ⟨rfl, hbe⟩))
    go_ret2
    exact ⟨⟨fun _ => rfl, fun h => absurd h.1 h1⟩, hbe⟩
  by_cases h2 : FrOk fr
  case neg =>
    have HC := Lib.hid (rvalid_t _ xs w hv h1)
    have HC2 := Lib.hid (fun w => num_f fr w h2)
    clear hv
    go_enter Try.func35, Try.ntmps35
    go_wp2_with (first | (go_at_call 32; refine HC.out.mono ?_; rintro e w1 ⟨rfl, hbe⟩) | (go_at_call 58; refine (HC2.out _).mono ?_; rintro e w2 ⟨rfl, rfl⟩))
    go_ret2
    exact ⟨⟨fun _ => rfl, fun h => absurd h.2.1 h2⟩, hbe⟩
  by_cases h3 : FrOk tq
  case neg =>
    have HC := Lib.hid (rvalid_t _ xs w hv h1)
    have HC2 := Lib.hid (fun w => num_t fr w h2)
    have HC3 := Lib.hid (fun w => num_f tq w h3)
    clear hv
    go_enter Try.func35, Try.ntmps35
    go_wp2_with (first | (go_at_call 32; refine HC.out.mono ?_; rintro e w1 ⟨rfl, hbe⟩) | (go_at_call 58; refine (HC2.out _).mono ?_; rintro e w2 ⟨rfl, rfl⟩) | (go_at_call 58; refine (HC3.out _).mono ?_; rintro e w2 ⟨rfl, rfl⟩))
    go_ret2
    exact ⟨⟨fun _ => rfl, fun h => absurd h.2.2.1 h3⟩, hbe⟩
  have HC := Lib.hid (rvalid_t _ xs w hv h1)
  have HC2 := Lib.hid (fun w => num_t fr w h2)
  have HC3 := Lib.hid (fun w => num_t tq w h3)
  by_cases h4 : sl < 0
  · clear hv
    go_enter Try.func35, Try.ntmps35
    go_wp2_with (first | (go_at_call 32; refine HC.out.mono ?_; rintro e w1 ⟨rfl, hbe⟩) | (go_at_call 58; refine (HC2.out _).mono ?_; rintro e w2 ⟨rfl, rfl⟩) | (go_at_call 58; refine (HC3.out _).mono ?_; rintro e w2 ⟨rfl, rfl⟩))
    go_ret2
    exact ⟨⟨fun _ => rfl, fun h => absurd h.2.2.2 (by omega)⟩, hbe⟩
  have HOK : Hid (InsOk xs fr tq sl) := Lib.hid ⟨h1, h2, h3, by omega⟩
  clear hv
  go_enter Try.func35, Try.ntmps35
  go_wp2_with (first | (go_at_call 32; refine HC.out.mono ?_; rintro e w1 ⟨rfl, hbe⟩) | (go_at_call 58; refine (HC2.out _).mono ?_; rintro e w2 ⟨rfl, rfl⟩) | (go_at_call 58; refine (HC3.out _).mono ?_; rintro e w2 ⟨rfl, rfl⟩) | (go_at_call 56; fail))
  have HBE := Lib.hid hbe
  refine (put_any 0 _ xs w1 (Nat.zero_le _) (HV.out.below hbe).toF h1 hb HSL.out fr tq sl h2 h3).mono ?_
  rintro e w2 ⟨⟨r, k, ok, rfl, hs, hr, _⟩, hb2⟩
  have HS := Lib.hid hs
  have HR := Lib.hid hr
  have HB2 := Lib.hid (HBE.out.trans (hb2.mono HBE.out.size))
  obtain ⟨_, _, e1, _⟩ := hr
  subst e1
  clear hs hb2 hbe
  go_wp2
  go_ret2
  exact ⟨⟨fun h => absurd HOK.out h, fun _ => ⟨_, k, ok, rfl, HS.out, HR.out.toE⟩⟩, HB2.out⟩

set_option maxRecDepth 100000 in
set_option maxHeartbeats 8000000 in
theorem rhas_any (v : Value) (xs : List St) (w : World) (hv : Rd setE w v xs) (fr tq sl : Int) :
    Calls Try.prog 36 #[v, .int .i64 fr, .int .i64 tq, .int .i64 sl] w fun e w' => RBs e (Mem3 xs fr tq sl) ∧ Below w.heap.size w w' := by
  obtain ⟨a, cap, rfl, hl, hm, _⟩ := id hv
  have HV := Lib.hid hv
  clear hv
  unfold maxLen at hm
  go_enter Try.func36, Try.ntmps36
  go_wp2_with fail
  go_loopw [15] (fun i wr => ∃ k : Nat, k ≤ xs.length ∧ i = .int .i64 k ∧ Below w.heap.size w wr ∧ ∀ j (h : j < xs.length), j < k → ¬ (xs[j].fr = fr ∧ xs[j].to = tq ∧ sl ∈ xs[j].slots)) (fun i _ => xs.length - (intOf i).toNat)
  case atStart => exact ⟨0, by omega, rfl, Below.refl _ _, fun j _ h => absurd h (Nat.not_lt_zero _)⟩
  case round =>
    obtain ⟨k, hk, rfl, hbel, hno⟩ := hrel
    have HNO := Lib.hid hno
    have HBE := Lib.hid hbel
    clear hno
    by_cases hlt : k < xs.length
    · obtain ⟨b, off, rfl⟩ := rd_addr HV.out (by omega)
      obtain ⟨hq, ra, rc, x0, x1, x2, hrs⟩ := set_cells HV.out hlt
      have y0 : wr.cell? ⟨b, off + k * 3, none⟩ = some (.int .i64 xs[k].fr) := (hbel.cell (p := ⟨b, off + k * 3, none⟩) hq).trans x0
      have y1 : wr.cell? ⟨b, off + k * 3 + 1, none⟩ = some (.int .i64 xs[k].to) := (hbel.cell (p := ⟨b, off + k * 3 + 1, none⟩) hq).trans x1
      have y2 : wr.cell? ⟨b, off + k * 3 + 2, none⟩ = some (.slice ra xs[k].slots.length rc) := (hbel.cell (p := ⟨b, off + k * 3 + 2, none⟩) hq).trans x2
      have hq2 : b < wr.heap.size := Nat.lt_of_lt_of_le hq hbel.size
      have HRS := Lib.hid hrs
      have HB2 := Lib.hid (hbel.alloc hbel.size (.cells #[.int .i64 xs[k].fr, .int .i64 xs[k].to, .slice ra xs[k].slots.length rc] 77))
      clear x0 x1 x2 hrs hbel
      by_cases h1 : xs[k].fr = fr
      case neg =>
        have k1 : (xs[k].fr == fr) = false := by simpa using h1
        have HN : Hid (¬ (xs[k].fr = fr ∧ xs[k].to = tq ∧ sl ∈ xs[k].slots)) := Lib.hid fun h => h1 h.1
        clear h1
        go_wp2
        go_roundw
        case rel => exact ⟨k + 1, by omega, by go_num, HB2.out, fun j h hj => by
          rcases Nat.lt_succ_iff_lt_or_eq.1 hj with h3 | h3
          · exact HNO.out j h h3
          · subst h3; exact HN.out⟩
        case measure => simp [intOf]; omega
      have k1 : (xs[k].fr == fr) = true := by simpa using h1
      by_cases h2 : xs[k].to = tq
      case neg =>
        have k2 : (xs[k].to == tq) = false := by simpa using h2
        have HN : Hid (¬ (xs[k].fr = fr ∧ xs[k].to = tq ∧ sl ∈ xs[k].slots)) := Lib.hid fun h => h2 h.2.1
        clear h1 h2
        go_wp2
        go_roundw
        case rel => exact ⟨k + 1, by omega, by go_num, HB2.out, fun j h hj => by
          rcases Nat.lt_succ_iff_lt_or_eq.1 hj with h3 | h3
          · exact HNO.out j h h3
          · subst h3; exact HN.out⟩
        case measure => simp [intOf]; omega
      have k2 : (xs[k].to == tq) = true := by simpa using h2
      have H1 := Lib.hid h1
      have H2 := Lib.hid h2
      clear h1 h2
      have hsm : xs[k].slots.length ≤ 9223372036854775807 := by
        obtain ⟨_, _, _, g1, g2, _⟩ := HRS.out
        unfold maxLen at g2
        omega
      go_wp2_with fail
      go_loopw [32] (fun i w5 => ∃ j : Nat, j ≤ xs[k].slots.length ∧ i = .int .i64 j ∧ Below w.heap.size w w5 ∧ ∀ t (h : t < xs[k].slots.length), t < j → xs[k].slots[t] ≠ sl) (fun i _ => xs[k].slots.length - (intOf i).toNat)
      case atStart => exact ⟨0, by omega, rfl, HB2.out, fun t _ h => absurd h (Nat.not_lt_zero _)⟩
      case round =>
        obtain ⟨j, hj, rfl, hb5, hne⟩ := hrel
        have HNE := Lib.hid hne
        have HB5 := Lib.hid hb5
        clear hne
        by_cases hj3 : j < xs[k].slots.length
        · obtain ⟨sb, so, rfl⟩ := rd_addr HRS.out (by omega)
          obtain ⟨g1, g2⟩ := int_cells HRS.out hj3
          have z0 := (hb5.cell (p := ⟨sb, so + j, none⟩) g1).trans g2
          have zl : sb < wr.heap.size := Nat.lt_of_lt_of_le g1 hb5.size
          clear hb5 g2
          by_cases he : xs[k].slots[j] = sl
          · have k3 : (xs[k].slots[j] == sl) = true := by simpa using he
            have HIN : Hid (Mem3 xs fr tq sl) := Lib.hid ⟨_, List.getElem_mem hlt, H1.out, H2.out, he ▸ List.getElem_mem hj3⟩
            clear he
            go_wp2
            go_ret
            exact ⟨⟨true, rfl, fun _ => HIN.out, fun _ => rfl⟩, HB5.out⟩
          · have k3 : (xs[k].slots[j] == sl) = false := by simpa using he
            have HE := Lib.hid he
            clear he
            go_wp2
            go_roundw
            case rel => exact ⟨j + 1, by omega, by go_num, HB5.out, fun t h ht => by
              rcases Nat.lt_succ_iff_lt_or_eq.1 ht with h3 | h3
              · exact HNE.out t h h3
              · subst h3; exact HE.out⟩
            case measure => simp [intOf]; omega
        · have HN : Hid (¬ (xs[k].fr = fr ∧ xs[k].to = tq ∧ sl ∈ xs[k].slots)) := Lib.hid fun h => by
            obtain ⟨t, ht, e⟩ := List.mem_iff_getElem.1 h.2.2
            exact HNE.out t ht (by omega) e
          clear hb5
          go_wp2
          go_roundw
          case rel => exact ⟨k + 1, by omega, by go_num, HB5.out, fun j h hj => by
            rcases Nat.lt_succ_iff_lt_or_eq.1 hj with h3 | h3
            · exact HNO.out j h h3
            · subst h3; exact HN.out⟩
          case measure => simp [intOf]; omega
    · have HALL : Hid (¬ Mem3 xs fr tq sl) := Lib.hid fun ⟨x, hx, h1, h2, h3⟩ => by
        obtain ⟨j, hj, rfl⟩ := List.mem_iff_getElem.1 hx
        exact HNO.out j hj (by omega) ⟨h1, h2, h3⟩
      go_wp2
      go_ret
      exact ⟨⟨false, rfl, fun h => (by cases h), fun h => absurd h HALL.out⟩, hbel⟩

theorem le_sum_of_mem : ∀ {l : List Nat} {n : Nat}, n ∈ l → n ≤ l.sum
  | a :: l, n, h => by
    rw [List.sum_cons]
    rcases List.mem_cons.1 h with h1 | h1
    · omega
    · have := le_sum_of_mem h1
      omega
theorem cmpV_zero {af ta fr tq : Int} (h1 : I64 af) (h2 : I64 ta) (h3 : I64 fr) (h4 : I64 tq) : cmpV af ta fr tq = 0 → af = fr ∧ ta = tq := by
  unfold I64 at *
  unfold cmpV
  intro h
  split at h
  · rename_i e
    refine ⟨e, ?_⟩
    rw [IntKind.wrap_i64] at h
    omega
  · rename_i e
    exfalso
    rw [IntKind.wrap_i64] at h
    omega
/-- what Has says, of valid sets and whatever numbers -/
theorem has_all {xs : List St} (hv : SetsOk xs) {fr tq sl : Int} (h3 : I64 fr) (h4 : I64 tq) {k : Nat} {ok : Bool} (hs : Srch xs fr tq k ok) : (ok = true ∧ ∃ h : k < xs.length, sl ∈ xs[k].slots) ↔ Mem3 xs fr tq sl := by
  by_cases hf : FrOk fr ∧ FrOk tq
  · have hr : Repr xs (fun x => Mem3 xs x.1 x.2.1 x.2.2) (max xs.length (xs.map (·.slots.length)).sum) := ⟨hv, fun _ _ _ => Iff.rfl, Nat.le_max_left _ _, fun x hx => Nat.le_trans (le_sum_of_mem (List.mem_map.2 ⟨x, hx, rfl⟩)) (Nat.le_max_right _ _)⟩
    exact hr.has hf.1 hf.2 hs
  · obtain ⟨e1, e2⟩ := setsOk_iff.1 hv
    constructor
    · rintro ⟨rfl, hk, hm⟩
      exfalso
      obtain ⟨_, hz⟩ := hs.ok.1 rfl
      have h5 := e1 _ (List.getElem_mem hk)
      have hi : ∀ x, FrOk x → I64 x := fun x h => by unfold FrOk at h; unfold I64; omega
      obtain ⟨e3, e4⟩ := cmpV_zero (hi _ h5.1) (hi _ h5.2.1) h3 h4 hz
      exact hf ⟨e3 ▸ h5.1, e4 ▸ h5.2.1⟩
    · rintro ⟨x, hx, hxf, hxt, _⟩
      exact absurd ⟨hxf ▸ (e1 x hx).1, hxt ▸ (e1 x hx).2.1⟩ hf
/-- both inserts give the same sets -/
theorem ins_same {xs : List St} {fr tq sl : Int} (h : InsOk xs fr tq sl) {k k' : Nat} {ok ok' : Bool} (hs : Srch xs fr tq k ok) (hs' : Srch xs fr tq k' ok') : insRes xs fr tq sl k ok = insRes xs fr tq sl k' ok' := by
  have hr : Repr xs (fun x => Mem3 xs x.1 x.2.1 x.2.2) (max xs.length (xs.map (·.slots.length)).sum) := ⟨h.1, fun _ _ _ => Iff.rfl, Nat.le_max_left _ _, fun x hx => Nat.le_trans (le_sum_of_mem (List.mem_map.2 ⟨x, hx, rfl⟩)) (Nat.le_max_right _ _)⟩
  exact (hr.ins h.2.1 h.2.2.1 h.2.2.2 hs).uniq (hr.ins h.2.1 h.2.2.1 h.2.2.2 hs')
end Go.Proofs.Ytchdmemgkegefaa
