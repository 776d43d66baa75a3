/- Shares in percent, and the names of presets. Condition: a percentage from 1 to 100. -/
import Derived.Test.YtchdmemgkegefaaCfgK
import Derived.Test.YtchdmemgkegefaaBas5
import Derived.Laws.FloatArith
namespace Go.Proofs.Ytchdmemgkegefaa
open Go.RowKit
set_option linter.unusedVariables false

theorem pct_all : (List.range 100).all (fun i => match FloatKind.f64.format.div (floatOfInt .f64 ((i : Int) + 1)) 4636737291354636288 with | some x => (FloatKind.f64.format.order x 0 == some Ordering.gt) && (FloatKind.f64.format.order x 4607182418800017408 == some Ordering.lt || FloatKind.f64.format.order x 4607182418800017408 == some Ordering.eq) | none => false) = true := by decide +kernel
theorem pct_at (p : Int) (hp : 1 ≤ p) (hp2 : p ≤ 100) : ∃ x, floatBits .quo .f64 (floatOfInt .f64 p) 4636737291354636288 = some x ∧ shareB x = true ∧ FloatKind.f64.format.order x 0 = some Ordering.gt := by
  have h := List.all_eq_true.1 pct_all (p - 1).toNat (List.mem_range.2 (by omega))
  rw [show (((p - 1).toNat : Nat) : Int) + 1 = p by omega] at h
  split at h
  · rename_i x hx
    exact ⟨x, hx, by unfold shareB; rw [h]; simp, by simp at h; exact h.1⟩
  · cases h

set_option maxRecDepth 100000 in
set_option maxHeartbeats 4000000 in
theorem percent_any (p : Int) (w : World) (hp : 1 ≤ p) (hp2 : p ≤ 100) : Calls Try.prog 67 #[.int .i64 p] w fun e w' => (∃ x : Nat, e = .returned (.tuple #[.float .f64 x, .int .i64 0]) ∧ shareB x = true ∧ FloatKind.f64.format.order x 0 = some Ordering.gt) ∧ w = w' := by
  have k1 : decide (p < 0) = false := by simp; omega
  have k2 : decide (100 < p) = false := by simp; omega
  obtain ⟨x, hx, hs⟩ := pct_at p hp hp2
  have hq := fun t => run_float_arith (P := Try.prog) w .quo t .f64 _ _ _ hx
  have HS := Lib.hid hs
  clear hs hx
  go_enter Try.func67, Try.ntmps67
  go_wp2
  go_ret2
  exact ⟨⟨x, rfl, HS.out⟩, rfl⟩

set_option maxRecDepth 100000 in
theorem names_any (w : World) : Calls Try.prog 43 #[] w fun e w' => e = .returned (.slice (some ⟨w.heap.size, 0, none⟩) 6 6) ∧ w' = w.alloc (.cells #[.string ⟨#[115, 101, 109, 105, 115, 112, 97, 99, 101]⟩, .string ⟨#[97, 112, 112, 101, 108]⟩, .string ⟨#[102, 105, 120, 101, 100]⟩, .string ⟨#[111, 108, 100, 101, 114, 45, 102, 105, 114, 115, 116]⟩, .string ⟨#[120, 120]⟩, .string ⟨#[120, 120, 49, 48, 48]⟩] 9) := by
  go_enter Try.func43, Try.ntmps43
  go_wp2
  go_ret
  exact ⟨rfl, rfl⟩

/-- a configuration whose rules are the call's own -/
def CfO (w : World) (B : Nat) (v : Value) (c : Cf) : Prop := ∃ rv, v = .agg #[.string c.name, rv, .int .i64 c.full] ∧ Own ruleE w B 67 rv c.rules
theorem CfO.v {w : World} {B : Nat} {v : Value} {c : Cf} (h : CfO w B v c) : CfV w v c := by
  obtain ⟨rv, e, r⟩ := h
  exact ⟨rv, e, r.rd⟩
theorem CfO.below {w w' : World} {B : Nat} {v : Value} {c : Cf} (h : CfO w B v c) (hb : Below w.heap.size w w') : CfO w' B v c := by
  obtain ⟨rv, e, r⟩ := h
  exact ⟨rv, e, r.below hb⟩
/-- the percentage of a share: what the presets are -/
theorem nameOk_of {s : ByteArray} (h1 : decide (1 ≤ s.size ∧ s.size ≤ 16) = true) (h2 : (s.data.toList.all fun c => okCh c.toNat) = true) (h3 : (s.data.toList.head?.map fun c => decide (97 ≤ c.toNat ∧ c.toNat ≤ 122)) = some true) : NameOk s := by
  simp at h1
  have key : ∀ i (h : i < s.size), ∃ h' : i < s.data.toList.length, s[i]'h = s.data.toList[i]'h' := fun i h => ⟨by simpa using h, rfl⟩
  refine ⟨h1.1, h1.2, fun h => ?_, fun i h => ?_⟩
  · obtain ⟨h', e⟩ := key 0 h
    rw [e]
    generalize s.data.toList = l at *
    match l, h3 with
    | c :: _, h3 => simpa using h3
  · obtain ⟨h', e⟩ := key i h
    rw [e]
    exact List.all_eq_true.1 h2 _ (List.getElem_mem h')
theorem share0 : shareB 0 = true := by simp [shareB]
theorem order0 : FloatKind.f64.format.order 0 0 = some Ordering.eq := by decide +kernel

set_option maxRecDepth 100000 in
set_option maxHeartbeats 4000000 in
theorem get_semi (p : Int) (w : World) (hp : 1 ≤ p) (hp2 : p ≤ 100) : Calls Try.prog 42 #[.string ⟨#[115, 101, 109, 105, 115, 112, 97, 99, 101]⟩, .int .i64 p] w fun e w' => (∃ v c, e = .returned (.tuple #[v, .int .i64 0]) ∧ CfO w' w.heap.size v c ∧ CfOk c) ∧ Below w.heap.size w w' := by
  go_enter Try.func42, Try.ntmps42
  go_wp2_with (first | (go_at_call 67; refine (percent_any p _ hp hp2).mono ?_; rintro e w' ⟨⟨x, rfl, hx, hx2⟩, rfl⟩))
  refine bodyPost_ret (v := .tuple #[.agg #[.string ⟨#[115, 101, 109, 105, 115, 112, 97, 99, 101]⟩, .slice (some ⟨w.heap.size + 1 + 1, 0, none⟩) 1 1, .int .i64 1], .int .i64 0]) (by simp [results, Try.results42, go_sem]) rfl ⟨⟨_, ⟨⟨#[115, 101, 109, 105, 115, 112, 97, 99, 101]⟩, [⟨0, 0, 0, 0⟩], 1⟩, rfl, ⟨_, rfl, own_lit (cs := #[.float .f64 0, .int .i64 0, .int .i64 0, .int .i64 0]) (by omega) ?_ rfl rfl (by decide)⟩, ?_⟩, ?_⟩
  · exact heap_alloc_at _ _ _ (by simp)
  · refine ⟨nameOk_of (s := ⟨#[115, 101, 109, 105, 115, 112, 97, 99, 101]⟩) (by decide) (by decide) (by decide), by simp, by simp, ?_, ?_, ?_⟩
    · intro b h
      simp only [List.length_cons, List.length_nil] at h
      have hb : b = 0 := by omega
      rcases hb with rfl <;> simp [RuleOk, share0]
    · intro b h1 h2
      simp only [List.length_cons, List.length_nil] at h2
      exfalso; omega

    · intro h
      simp [order0]
  · repeat (first | exact Below.refl _ _ | refine Below.drew ?_ | refine Below.setCell ?_ (by first | (simp; done) | (simp; omega)) _ | refine Below.alloc ?_ (by first | exact Nat.le_refl _ | (simp; done) | (simp; omega)) _)

set_option maxRecDepth 100000 in
set_option maxHeartbeats 4000000 in
theorem get_appel (p : Int) (w : World) (hp : 1 ≤ p) (hp2 : p ≤ 100) : Calls Try.prog 42 #[.string ⟨#[97, 112, 112, 101, 108]⟩, .int .i64 p] w fun e w' => (∃ v c, e = .returned (.tuple #[v, .int .i64 0]) ∧ CfO w' w.heap.size v c ∧ CfOk c) ∧ Below w.heap.size w w' := by
  go_enter Try.func42, Try.ntmps42
  go_wp2_with (first | (go_at_call 67; refine (percent_any p _ hp hp2).mono ?_; rintro e w' ⟨⟨x, rfl, hx, hx2⟩, rfl⟩))
  refine bodyPost_ret (v := .tuple #[.agg #[.string ⟨#[97, 112, 112, 101, 108]⟩, .slice (some ⟨w.heap.size + 1 + 1, 0, none⟩) 2 2, .int .i64 8], .int .i64 0]) (by simp [results, Try.results42, go_sem]) rfl ⟨⟨_, ⟨⟨#[97, 112, 112, 101, 108]⟩, [⟨0, 0, 0, 1⟩, ⟨0, 0, 0, 1⟩], 8⟩, rfl, ⟨_, rfl, own_lit (cs := #[.float .f64 0, .int .i64 0, .int .i64 0, .int .i64 1, .float .f64 0, .int .i64 0, .int .i64 0, .int .i64 1]) (by omega) ?_ rfl rfl (by decide)⟩, ?_⟩, ?_⟩
  · exact heap_alloc_at _ _ _ (by simp)
  · refine ⟨nameOk_of (s := ⟨#[97, 112, 112, 101, 108]⟩) (by decide) (by decide) (by decide), by simp, by simp, ?_, ?_, ?_⟩
    · intro b h
      simp only [List.length_cons, List.length_nil] at h
      have hb : b = 0 ∨ b = 1 := by omega
      rcases hb with rfl | rfl <;> simp [RuleOk, share0]
    · intro b h1 h2
      simp only [List.length_cons, List.length_nil] at h2
      obtain rfl : b = 1 := by omega
      · exact ⟨0, by simp, by simp, by simp⟩
    · intro h
      simp [order0]
  · repeat (first | exact Below.refl _ _ | refine Below.drew ?_ | refine Below.setCell ?_ (by first | (simp; done) | (simp; omega)) _ | refine Below.alloc ?_ (by first | exact Nat.le_refl _ | (simp; done) | (simp; omega)) _)

set_option maxRecDepth 100000 in
set_option maxHeartbeats 4000000 in
theorem get_fixed (p : Int) (w : World) (hp : 1 ≤ p) (hp2 : p ≤ 100) : Calls Try.prog 42 #[.string ⟨#[102, 105, 120, 101, 100]⟩, .int .i64 p] w fun e w' => (∃ v c, e = .returned (.tuple #[v, .int .i64 0]) ∧ CfO w' w.heap.size v c ∧ CfOk c) ∧ Below w.heap.size w w' := by
  go_enter Try.func42, Try.ntmps42
  go_wp2_with (first | (go_at_call 67; refine (percent_any p _ hp hp2).mono ?_; rintro e w' ⟨⟨x, rfl, hx, hx2⟩, rfl⟩))
  refine bodyPost_ret (v := .tuple #[.agg #[.string ⟨#[102, 105, 120, 101, 100]⟩, .slice (some ⟨w.heap.size + 1 + 1, 0, none⟩) 2 2, .int .i64 8], .int .i64 0]) (by simp [results, Try.results42, go_sem]) rfl ⟨⟨_, ⟨⟨#[102, 105, 120, 101, 100]⟩, [⟨x, 1, 0, 1⟩, ⟨0, 0, 0, 1⟩], 8⟩, rfl, ⟨_, rfl, own_lit (cs := #[.float .f64 x, .int .i64 1, .int .i64 0, .int .i64 1, .float .f64 0, .int .i64 0, .int .i64 0, .int .i64 1]) (by omega) ?_ rfl rfl (by decide)⟩, ?_⟩, ?_⟩
  · exact heap_alloc_at _ _ _ (by simp)
  · refine ⟨nameOk_of (s := ⟨#[102, 105, 120, 101, 100]⟩) (by decide) (by decide) (by decide), by simp, by simp, ?_, ?_, ?_⟩
    · intro b h
      simp only [List.length_cons, List.length_nil] at h
      have hb : b = 0 ∨ b = 1 := by omega
      rcases hb with rfl | rfl <;> simp [RuleOk, share0, hx]
    · intro b h1 h2
      simp only [List.length_cons, List.length_nil] at h2
      obtain rfl : b = 1 := by omega
      · exact ⟨0, by simp, by simp, by simp⟩
    · intro h
      simp [order0]
  · repeat (first | exact Below.refl _ _ | refine Below.drew ?_ | refine Below.setCell ?_ (by first | (simp; done) | (simp; omega)) _ | refine Below.alloc ?_ (by first | exact Nat.le_refl _ | (simp; done) | (simp; omega)) _)

set_option maxRecDepth 100000 in
set_option maxHeartbeats 4000000 in
theorem get_older (p : Int) (w : World) (hp : 1 ≤ p) (hp2 : p ≤ 100) : Calls Try.prog 42 #[.string ⟨#[111, 108, 100, 101, 114, 45, 102, 105, 114, 115, 116]⟩, .int .i64 p] w fun e w' => (∃ v c, e = .returned (.tuple #[v, .int .i64 0]) ∧ CfO w' w.heap.size v c ∧ CfOk c) ∧ Below w.heap.size w w' := by
  go_enter Try.func42, Try.ntmps42
  go_wp2_with (first | (go_at_call 67; refine (percent_any p _ hp hp2).mono ?_; rintro e w' ⟨⟨x, rfl, hx, hx2⟩, rfl⟩))
  refine bodyPost_ret (v := .tuple #[.agg #[.string ⟨#[111, 108, 100, 101, 114, 45, 102, 105, 114, 115, 116]⟩, .slice (some ⟨w.heap.size + 1 + 1, 0, none⟩) 1 1, .int .i64 0], .int .i64 0]) (by simp [results, Try.results42, go_sem]) rfl ⟨⟨_, ⟨⟨#[111, 108, 100, 101, 114, 45, 102, 105, 114, 115, 116]⟩, [⟨x, 0, 1, 0⟩], 0⟩, rfl, ⟨_, rfl, own_lit (cs := #[.float .f64 x, .int .i64 0, .int .i64 1, .int .i64 0]) (by omega) ?_ rfl rfl (by decide)⟩, ?_⟩, ?_⟩
  · exact heap_alloc_at _ _ _ (by simp)
  · refine ⟨nameOk_of (s := ⟨#[111, 108, 100, 101, 114, 45, 102, 105, 114, 115, 116]⟩) (by decide) (by decide) (by decide), by simp, by simp, ?_, ?_, ?_⟩
    · intro b h
      simp only [List.length_cons, List.length_nil] at h
      have hb : b = 0 := by omega
      rcases hb with rfl <;> simp [RuleOk, hx]
    · intro b h1 h2
      simp only [List.length_cons, List.length_nil] at h2
      exfalso; omega

    · intro h
      simp [hx2]
  · repeat (first | exact Below.refl _ _ | refine Below.drew ?_ | refine Below.setCell ?_ (by first | (simp; done) | (simp; omega)) _ | refine Below.alloc ?_ (by first | exact Nat.le_refl _ | (simp; done) | (simp; omega)) _)

set_option maxRecDepth 100000 in
set_option maxHeartbeats 4000000 in
theorem get_xx (p : Int) (w : World) (hp : 1 ≤ p) (hp2 : p ≤ 100) : Calls Try.prog 42 #[.string ⟨#[120, 120]⟩, .int .i64 p] w fun e w' => (∃ v c, e = .returned (.tuple #[v, .int .i64 0]) ∧ CfO w' w.heap.size v c ∧ CfOk c) ∧ Below w.heap.size w w' := by
  go_enter Try.func42, Try.ntmps42
  go_wp2_with (first | (go_at_call 67; refine (percent_any p _ hp hp2).mono ?_; rintro e w' ⟨⟨x, rfl, hx, hx2⟩, rfl⟩))
  refine bodyPost_ret (v := .tuple #[.agg #[.string ⟨#[120, 120]⟩, .slice (some ⟨w.heap.size + 1 + 1, 0, none⟩) 2 2, .int .i64 0], .int .i64 0]) (by simp [results, Try.results42, go_sem]) rfl ⟨⟨_, ⟨⟨#[120, 120]⟩, [⟨x, 0, 1, 1⟩, ⟨x, 0, 1, 1⟩], 0⟩, rfl, ⟨_, rfl, own_lit (cs := #[.float .f64 x, .int .i64 0, .int .i64 1, .int .i64 1, .float .f64 x, .int .i64 0, .int .i64 1, .int .i64 1]) (by omega) ?_ rfl rfl (by decide)⟩, ?_⟩, ?_⟩
  · exact heap_alloc_at _ _ _ (by simp)
  · refine ⟨nameOk_of (s := ⟨#[120, 120]⟩) (by decide) (by decide) (by decide), by simp, by simp, ?_, ?_, ?_⟩
    · intro b h
      simp only [List.length_cons, List.length_nil] at h
      have hb : b = 0 ∨ b = 1 := by omega
      rcases hb with rfl | rfl <;> simp [RuleOk, hx]
    · intro b h1 h2
      simp only [List.length_cons, List.length_nil] at h2
      obtain rfl : b = 1 := by omega
      · exact ⟨0, by simp, by simp, by simp⟩
    · intro h
      simp [hx2]
  · repeat (first | exact Below.refl _ _ | refine Below.drew ?_ | refine Below.setCell ?_ (by first | (simp; done) | (simp; omega)) _ | refine Below.alloc ?_ (by first | exact Nat.le_refl _ | (simp; done) | (simp; omega)) _)

set_option maxRecDepth 100000 in
set_option maxHeartbeats 4000000 in
theorem get_xxc (p : Int) (w : World) (hp : 1 ≤ p) (hp2 : p ≤ 100) : Calls Try.prog 42 #[.string ⟨#[120, 120, 49, 48, 48]⟩, .int .i64 p] w fun e w' => (∃ v c, e = .returned (.tuple #[v, .int .i64 0]) ∧ CfO w' w.heap.size v c ∧ CfOk c) ∧ Below w.heap.size w w' := by
  go_enter Try.func42, Try.ntmps42
  go_wp2_with (first | (go_at_call 67; refine (percent_any p _ hp hp2).mono ?_; rintro e w' ⟨⟨x, rfl, hx, hx2⟩, rfl⟩))
  refine bodyPost_ret (v := .tuple #[.agg #[.string ⟨#[120, 120, 49, 48, 48]⟩, .slice (some ⟨w.heap.size + 1 + 1, 0, none⟩) 3 3, .int .i64 8], .int .i64 0]) (by simp [results, Try.results42, go_sem]) rfl ⟨⟨_, ⟨⟨#[120, 120, 49, 48, 48]⟩, [⟨x, 0, 1, 1⟩, ⟨x, 0, 1, 2⟩, ⟨0, 0, 0, 2⟩], 8⟩, rfl, ⟨_, rfl, own_lit (cs := #[.float .f64 x, .int .i64 0, .int .i64 1, .int .i64 1, .float .f64 x, .int .i64 0, .int .i64 1, .int .i64 2, .float .f64 0, .int .i64 0, .int .i64 0, .int .i64 2]) (by omega) ?_ rfl rfl (by decide)⟩, ?_⟩, ?_⟩
  · exact heap_alloc_at _ _ _ (by simp)
  · refine ⟨nameOk_of (s := ⟨#[120, 120, 49, 48, 48]⟩) (by decide) (by decide) (by decide), by simp, by simp, ?_, ?_, ?_⟩
    · intro b h
      simp only [List.length_cons, List.length_nil] at h
      have hb : b = 0 ∨ b = 1 ∨ b = 2 := by omega
      rcases hb with rfl | rfl | rfl <;> simp [RuleOk, share0, hx]
    · intro b h1 h2
      simp only [List.length_cons, List.length_nil] at h2
      obtain rfl | rfl : b = 1 ∨ b = 2 := by omega
      · exact ⟨0, by simp, by simp, by simp⟩
      · exact ⟨1, by simp, by simp, by simp⟩
    · intro h
      simp [order0]
  · repeat (first | exact Below.refl _ _ | refine Below.drew ?_ | refine Below.setCell ?_ (by first | (simp; done) | (simp; omega)) _ | refine Below.alloc ?_ (by first | exact Nat.le_refl _ | (simp; done) | (simp; omega)) _)
end Go.Proofs.Ytchdmemgkegefaa
