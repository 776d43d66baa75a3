/- Remembered sets in memory: reading, counting, comparing lists of numbers. Condition: sets that read as a list. -/
import Derived.Test.YtchdmemgkegefaaRegA
import Derived.Test.YtchdmemgkegefaaBas5
import Derived.Test.YtchdmemgkegefaaApp
import Derived.Deep.QuietTactic
import Derived.BigQuiet
namespace Go.Proofs.Ytchdmemgkegefaa
open Go.RowKit
set_option linter.unusedVariables false

structure St where
  (fr to : Int) (slots : List Int)
/-- a set: two numbers and a slice of slots -/
def setE : El St :=
  ⟨3, fun w x cs => ∃ v, cs = [.int .i64 x.fr, .int .i64 x.to, v] ∧ Rd i64E w v x.slots, fun _ _ _ ⟨_, h, _⟩ => by rw [h]; rfl, fun _ _ _ _ ⟨v, h, r⟩ k => ⟨v, h, r.keep k⟩⟩
/-- a set of the call's own -/
def setO (B : Nat) : El St :=
  ⟨3, fun w x cs => ∃ v, cs = [.int .i64 x.fr, .int .i64 x.to, v] ∧ Own i64E w B 3 v x.slots, fun _ _ _ ⟨_, h, _⟩ => by rw [h]; rfl, fun _ _ _ _ ⟨v, h, r⟩ k => ⟨v, h, r.keep k⟩⟩
theorem Rd.own {w : World} {B : Nat} {v : Value} {xs : List St} (h : Rd (setO B) w v xs) : Rd setE w v xs := by
  obtain ⟨a, cap, h1, h2, h3, h4⟩ := h
  refine ⟨a, cap, h1, h2, h3, ?_⟩
  rcases h4 with h4 | ⟨b, off, h5, h6⟩
  · exact .inl h4
  · refine .inr ⟨b, off, h5, fun i hi => ?_⟩
    obtain ⟨cs, ⟨u, hu, ho⟩, c⟩ := h6 i hi
    exact ⟨cs, ⟨u, hu, ho.rd⟩, c⟩

theorem set_cells {w : World} {b off n cap : Nat} {xs : List St} (h : Rd setE w (.slice (some ⟨b, off, none⟩) n cap) xs) {i : Nat} (hi : i < xs.length) :
    b < w.heap.size ∧ ∃ ra rc, w.cell? ⟨b, off + i * 3, none⟩ = some (.int .i64 xs[i].fr) ∧ w.cell? ⟨b, off + i * 3 + 1, none⟩ = some (.int .i64 xs[i].to) ∧ w.cell? ⟨b, off + i * 3 + 2, none⟩ = some (.slice ra xs[i].slots.length rc) ∧
      Rd i64E w (.slice ra xs[i].slots.length rc) xs[i].slots := by
  obtain ⟨a, c, e, _, _, hf⟩ := h
  simp only [Value.slice.injEq] at e
  obtain ⟨rfl, rfl, rfl⟩ := e
  rcases hf with rfl | ⟨b', off', e, hf⟩
  · exact absurd hi (Nat.not_lt_zero _)
  · simp only [Option.some.injEq, Addr.mk.injEq, and_true] at e
    obtain ⟨rfl, rfl⟩ := e
    obtain ⟨cs, ⟨v, rfl, hr⟩, hc⟩ := hf i hi
    obtain ⟨ra, rc, rfl, _⟩ := id hr
    have e0 := hc 0 (by decide)
    have e1 := hc 1 (by decide)
    have e2 := hc 2 (by decide)
    exact ⟨World.block_lt_of_cell? w (a := ⟨b, off + i * 3 + 0, none⟩) e0, ra, rc, e0, e1, e2, hr⟩
theorem int_cells {w : World} {b off n cap : Nat} {xs : List Int} (h : Rd i64E w (.slice (some ⟨b, off, none⟩) n cap) xs) {i : Nat} (hi : i < xs.length) : b < w.heap.size ∧ w.cell? ⟨b, off + i, none⟩ = some (.int .i64 xs[i]) := by
  obtain ⟨a, c, e, _, _, hf⟩ := h.flat
  simp only [Value.slice.injEq] at e
  obtain ⟨rfl, rfl, rfl⟩ := e
  rcases hf with rfl | ⟨b', off', e, hb, hf⟩
  · exact absurd hi (Nat.not_lt_zero _)
  · simp only [Option.some.injEq, Addr.mk.injEq, and_true] at e
    obtain ⟨rfl, rfl⟩ := e
    refine ⟨hb (by decide), ?_⟩
    have := hf i hi 0 (by decide)
    rw [Nat.mul_one, Nat.add_zero] at this
    exact this
theorem rd_addr {α : Type} {E : El α} {w : World} {a : Option Addr} {n cap : Nat} {xs : List α} (h : Rd E w (.slice a n cap) xs) (hi : 0 < xs.length) : ∃ b off, a = some ⟨b, off, none⟩ := by
  obtain ⟨a', c', e, _, _, hf⟩ := h
  simp only [Value.slice.injEq] at e
  obtain ⟨rfl, _, _⟩ := e
  rcases hf with h | ⟨b, off, h, _⟩
  · rw [h] at hi; simp at hi
  · exact ⟨b, off, h⟩

def cntTo (xs : List St) (k : Nat) : Nat := ((xs.take k).map (·.slots.length)).sum
theorem cntTo_succ {xs : List St} {k : Nat} (h : k < xs.length) : cntTo xs (k + 1) = cntTo xs k + xs[k].slots.length := by
  unfold cntTo
  rw [List.take_succ_eq_append_getElem h]
  simp only [List.map_append, List.sum_append, List.map_cons, List.map_nil, List.sum_cons, List.sum_nil, Nat.add_zero]
theorem cntTo_all {xs : List St} (k : Nat) : cntTo xs k ≤ (xs.map (·.slots.length)).sum := by
  unfold cntTo
  conv => rhs; rw [← List.take_append_drop k xs]
  rw [List.map_append, List.sum_append]
  omega

/-- it returned whether p -/
def RBs (e : Ending) (p : Prop) : Prop := ∃ x : Bool, e = .returned (.bool x) ∧ (x = true ↔ p)

set_option maxRecDepth 100000 in
set_option maxHeartbeats 4000000 in
theorem count_any (v : Value) (xs : List St) (w : World) (hv : Rd setE w v xs) (hb : ((xs.map (·.slots.length)).sum : Nat) ≤ 1000000) :
    Calls Try.prog 33 #[v] w fun e w' => e = .returned (.int .i64 ((xs.map (·.slots.length)).sum : Nat)) ∧ Below w.heap.size w w' := by
  obtain ⟨a, cap, rfl, hl, hm, _⟩ := id hv
  have HV := Lib.hid hv
  clear hv
  unfold maxLen at hm
  have hall : ∀ k, cntTo xs k ≤ 1000000 := fun k => Nat.le_trans (cntTo_all k) hb
  have HALL := Lib.hid hall
  have hfin : cntTo xs xs.length = (xs.map (·.slots.length)).sum := by unfold cntTo; rw [List.take_length]
  have HFIN := Lib.hid hfin
  clear hall hfin hb
  go_enter Try.func33, Try.ntmps33
  go_wp2_with fail
  go_loopw [3, 8] (fun n i wr => ∃ k : Nat, k ≤ xs.length ∧ i = .int .i64 k ∧ n = .int .i64 (cntTo xs k : Nat) ∧ Below w.heap.size w wr) (fun _ i _ => xs.length - (intOf i).toNat)
  case atStart => exact ⟨0, by omega, rfl, by simp [cntTo], Below.refl _ _⟩
  case round =>
    obtain ⟨k, hk, rfl, rfl, hbel⟩ := hrel
    by_cases hlt : k < xs.length
    · have hrr := HV.out.below hbel
      obtain ⟨b, off, rfl⟩ := rd_addr hrr (by omega)
      obtain ⟨hq, ra, rc, x0, x1, x2, hrs⟩ := set_cells hrr hlt
      have hcs := cntTo_succ hlt
      have HCS := Lib.hid hcs
      have h1 := HALL.out k
      have h2 := HALL.out (k + 1)
      rw [hcs] at h2
      have hw : IntKind.i64.wrap ((cntTo xs k : Nat) + (xs[k].slots.length : Nat) : Int) = (cntTo xs k : Nat) + (xs[k].slots.length : Nat) := IntWalk.i64_in _ (by omega)
      have HB := Lib.hid (hbel.alloc hbel.size (.cells #[.int .i64 xs[k].fr, .int .i64 xs[k].to, .slice ra xs[k].slots.length rc] 77))
      clear hrr hrs hcs hbel
      go_wp2
      go_roundw
      case rel => exact ⟨k + 1, by omega, by go_num, by rw [HCS.out]; simp, HB.out⟩
      case measure => simp [intOf]; omega
    · have hke : k = xs.length := by omega
      subst hke
      rw [HFIN.out]
      go_wp2
      go_ret
      exact ⟨rfl, hbel⟩

set_option maxRecDepth 100000 in
set_option maxHeartbeats 4000000 in
theorem rcount_any (v : Value) (xs : List St) (w : World) (hv : Rd setE w v xs) (hb : ((xs.map (·.slots.length)).sum : Nat) ≤ 1000000) :
    Calls Try.prog 34 #[v] w fun e w' => e = .returned (.int .i64 ((xs.map (·.slots.length)).sum : Nat)) ∧ Below w.heap.size w w' := by
  obtain ⟨a, cap, rfl, hl, hm, _⟩ := id hv
  have HV := Lib.hid hv
  clear hv
  unfold maxLen at hm
  have hall : ∀ k, cntTo xs k ≤ 1000000 := fun k => Nat.le_trans (cntTo_all k) hb
  have HALL := Lib.hid hall
  have hfin : cntTo xs xs.length = (xs.map (·.slots.length)).sum := by unfold cntTo; rw [List.take_length]
  have HFIN := Lib.hid hfin
  clear hall hfin hb
  go_enter Try.func34, Try.ntmps34
  go_wp2_with fail
  go_loopw [3, 8] (fun n i wr => ∃ k : Nat, k ≤ xs.length ∧ i = .int .i64 k ∧ n = .int .i64 (cntTo xs k : Nat) ∧ Below w.heap.size w wr) (fun _ i _ => xs.length - (intOf i).toNat)
  case atStart => exact ⟨0, by omega, rfl, by simp [cntTo], Below.refl _ _⟩
  case round =>
    obtain ⟨k, hk, rfl, rfl, hbel⟩ := hrel
    by_cases hlt : k < xs.length
    · have hrr := HV.out.below hbel
      obtain ⟨b, off, rfl⟩ := rd_addr hrr (by omega)
      obtain ⟨hq, ra, rc, x0, x1, x2, hrs⟩ := set_cells hrr hlt
      have hcs := cntTo_succ hlt
      have HCS := Lib.hid hcs
      have h1 := HALL.out k
      have h2 := HALL.out (k + 1)
      rw [hcs] at h2
      have hw : IntKind.i64.wrap ((cntTo xs k : Nat) + (xs[k].slots.length : Nat) : Int) = (cntTo xs k : Nat) + (xs[k].slots.length : Nat) := IntWalk.i64_in _ (by omega)
      have HB := Lib.hid (hbel.alloc hbel.size (.cells #[.int .i64 xs[k].fr, .int .i64 xs[k].to, .slice ra xs[k].slots.length rc] 77))
      clear hrr hrs hcs hbel
      go_wp2
      go_roundw
      case rel => exact ⟨k + 1, by omega, by go_num, by rw [HCS.out]; simp, HB.out⟩
      case measure => simp [intOf]; omega
    · have hke : k = xs.length := by omega
      subst hke
      rw [HFIN.out]
      go_wp2
      go_ret
      exact ⟨rfl, hbel⟩

set_option maxRecDepth 100000 in
set_option maxHeartbeats 4000000 in
theorem sameInts_any (u v : Value) (xs ys : List Int) (w : World) (hu : Rd i64E w u xs) (hv : Rd i64E w v ys) :
    Calls Try.prog 39 #[u, v] w fun e w' => RBs e (xs = ys) ∧ Below w.heap.size w w' := by
  obtain ⟨a1, c1, rfl, hl1, hm1, _⟩ := id hu
  obtain ⟨a2, c2, rfl, hl2, hm2, _⟩ := id hv
  have HU := Lib.hid hu
  have HV := Lib.hid hv
  clear hu hv
  unfold maxLen at hm1 hm2
  by_cases hne : xs.length = ys.length
  · have k1 : ((xs.length : Int) != (ys.length : Int)) = false := by simp; omega
    go_enter Try.func39, Try.ntmps39
    go_wp2_with fail
    go_loopw [13] (fun i wr => ∃ k : Nat, k ≤ xs.length ∧ i = .int .i64 k ∧ Below w.heap.size w wr ∧ ∀ j (h : j < xs.length), j < k → xs[j] = ys[j]'(by omega)) (fun i _ => xs.length - (intOf i).toNat)
    case atStart => exact ⟨0, by omega, rfl, Below.refl _ _, fun j _ h => absurd h (Nat.not_lt_zero _)⟩
    case round =>
      obtain ⟨k, hk, rfl, hbel, hok⟩ := hrel
      have HOK := Lib.hid hok
      clear hok
      by_cases hlt : k < xs.length
      · have hlt2 : k < ys.length := by omega
        have hlti : (k : Int) < (ys.length : Int) := by omega
        have hr1 := HU.out.below hbel
        have hr2 := HV.out.below hbel
        obtain ⟨b1, o1, rfl⟩ := rd_addr hr1 (by omega)
        obtain ⟨b2, o2, rfl⟩ := rd_addr hr2 (by omega)
        obtain ⟨hq1, x0⟩ := int_cells hr1 hlt
        obtain ⟨hq2, y0⟩ := int_cells hr2 hlt2
        have HB := Lib.hid hbel
        clear hr1 hr2 hbel
        by_cases he : xs[k] = ys[k]
        · have k2 : (xs[k] != ys[k]) = false := by simp [he]
          have HE := Lib.hid he
          clear he
          go_wp2_with fail
          go_quiet (fail)
          go_wp2
          go_roundw
          case rel => exact ⟨k + 1, by omega, by go_num, HB.out.trans (by repeat (first | exact Below.refl _ _ | exact ⟨rfl, rfl, rfl, Nat.le_refl _, fun _ _ => rfl⟩)), fun j hj hjk => by
            by_cases e : j = k
            · subst e; exact HE.out
            · exact HOK.out j hj (by omega)⟩
          case measure => simp [intOf]; omega
        · have k2 : (xs[k] != ys[k]) = true := by simpa using he
          have HNE : Hid (xs ≠ ys) := Lib.hid fun e => he (by subst e; rfl)
          clear he
          go_wp2_with fail
          go_quiet (fail)
          go_wp2
          go_ret
          exact ⟨⟨false, rfl, fun h => (by cases h), fun h => absurd h HNE.out⟩, HB.out.trans ⟨rfl, rfl, rfl, Nat.le_refl _, fun _ _ => rfl⟩⟩
      · have HEQ : Hid (xs = ys) := Lib.hid (List.ext_getElem hne fun j h1 h2 => HOK.out j h1 (by omega))
        go_wp2
        go_ret
        exact ⟨⟨true, rfl, fun _ => HEQ.out, fun _ => rfl⟩, hbel⟩
  · have k1 : ((xs.length : Int) != (ys.length : Int)) = true := by simp; omega
    have HNE : Hid (xs ≠ ys) := Lib.hid fun e => hne (by rw [e])
    clear hne
    go_enter Try.func39, Try.ntmps39
    go_wp2
    go_ret
    exact ⟨⟨false, rfl, fun h => (by cases h), fun h => absurd h HNE.out⟩, Below.refl _ _⟩
end Go.Proofs.Ytchdmemgkegefaa
