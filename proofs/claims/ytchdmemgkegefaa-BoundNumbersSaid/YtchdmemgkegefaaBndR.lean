/- The reference: what is safe, and when a round is due, in general. Condition: a configuration whose rules read as a list. -/
import Derived.Test.YtchdmemgkegefaaCfgQ
import Derived.Test.YtchdmemgkegefaaBndG
namespace Go.Proofs.Ytchdmemgkegefaa
open Go.RowKit
set_option linter.unusedVariables false

theorem rpermitted_any (s n : Int) (w : World) : Calls Try.prog 48 #[.int .i64 s, .int .i64 n] w fun e w' => e = .returned (.bool (permB s n)) ∧ w = w' := by
  go_enter Try.func48, Try.ntmps48
  go_wp2
  all_goals (go_ret; refine ⟨?_, rfl⟩)
  all_goals (refine congrArg Ending.returned (congrArg Value.bool ?_); unfold permB; first | (simp_all; done) | (simp_all; intros; omega))

theorem rslack_at (s z : Int) (w : World) (h : Sh s z) : Calls Try.prog 16 #[.int .i64 s] w fun e w' => e = .returned (.int .i64 (4 * z)) ∧ w = w' := by
  rcases h with ⟨rfl, rfl⟩ | ⟨rfl, rfl⟩ | ⟨rfl, rfl⟩ | ⟨rfl, rfl⟩ | ⟨rfl, rfl⟩ | ⟨rfl, rfl⟩
  all_goals
    go_enter Try.func16, Try.ntmps16
    go_wp2_with (first | go_in)
    go_ret
    exact ⟨rint (by decide), rfl⟩
/-- the slack of a shift -/
def SlackP (s x : Int) : Prop := (∃ z, Sh s z ∧ x = 4 * z) ∨ (¬ (3 ≤ s ∧ s ≤ 8) ∧ x = 0)
theorem SlackP.unique {s x y : Int} (h : SlackP s x) (k : SlackP s y) : x = y := by
  rcases h with ⟨z, hz, rfl⟩ | ⟨h, rfl⟩
  · rcases k with ⟨z', hz', rfl⟩ | ⟨k, rfl⟩
    · unfold Sh at hz hz'
      omega
    · unfold Sh at hz
      omega
  · rcases k with ⟨z', hz', rfl⟩ | ⟨k, rfl⟩
    · unfold Sh at hz'
      omega
    · rfl
theorem DueP.unique {c : Cf} {s n x y : Int} (h : DueP c s n x) (k : DueP c s n y) : x = y := by
  rcases h with ⟨h1, rfl⟩ | ⟨h1, rfl⟩
  · rcases k with ⟨k1, rfl⟩ | ⟨k1, rfl⟩
    · rfl
    · exact absurd h1 k1
  · rcases k with ⟨k1, rfl⟩ | ⟨k1, rfl⟩
    · exact absurd k1 h1
    · rfl
theorem slack_any (s : Int) (w : World) : Calls Try.prog 15 #[.int .i64 s] w fun e w' => (∃ x : Int, e = .returned (.int .i64 x) ∧ SlackP s x) ∧ w = w' := by
  by_cases h : 3 ≤ s ∧ s ≤ 8
  · obtain ⟨z, hz⟩ := Sh.of h.1 h.2
    refine (slack_at s z w hz).mono ?_
    rintro e w' ⟨rfl, rfl⟩
    exact ⟨⟨_, rfl, .inl ⟨z, hz, rfl⟩⟩, rfl⟩
  · have hp : permB s 2 = false := by unfold permB; simp; omega
    have HN := Lib.hid h
    clear h
    go_enter Try.func15, Try.ntmps15
    go_wp2_with (first | (go_at_call 45; refine (permitted_any _ _ _).mono ?_; rintro e w' ⟨rfl, rfl⟩))
    go_ret
    exact ⟨⟨0, rfl, .inr ⟨HN.out, rfl⟩⟩, rfl⟩
theorem rslack_any (s : Int) (w : World) : Calls Try.prog 16 #[.int .i64 s] w fun e w' => (∃ x : Int, e = .returned (.int .i64 x) ∧ SlackP s x) ∧ w = w' := by
  by_cases h : 3 ≤ s ∧ s ≤ 8
  · obtain ⟨z, hz⟩ := Sh.of h.1 h.2
    refine (rslack_at s z w hz).mono ?_
    rintro e w' ⟨rfl, rfl⟩
    exact ⟨⟨_, rfl, .inl ⟨z, hz, rfl⟩⟩, rfl⟩
  · have HN := Lib.hid h
    by_cases h1 : s < 3
    · have k1 : decide (s < 3) = true := by simpa using h1
      clear h h1
      go_enter Try.func16, Try.ntmps16
      go_wp2
      go_ret
      exact ⟨⟨0, rfl, .inr ⟨HN.out, rfl⟩⟩, rfl⟩
    · have k1 : decide (s < 3) = false := by simpa using h1
      have k2 : decide (8 < s) = true := by simp; omega
      clear h h1
      go_enter Try.func16, Try.ntmps16
      go_wp2
      go_ret
      exact ⟨⟨0, rfl, .inr ⟨HN.out, rfl⟩⟩, rfl⟩

set_option maxRecDepth 100000 in
set_option maxHeartbeats 4000000 in
theorem rcomplete_any (c : Cf) (v : Value) (w : World) (hc : CfV w v c) (hs : c.name.size ≤ 9223372036854775807) :
    Calls Try.prog 47 #[v] w fun e w' => RB e (CfDone c) ∧ Below w.heap.size w w' := by
  obtain ⟨nm, rs, fu⟩ := c
  obtain ⟨rv, rfl, hr⟩ := hc
  dsimp only at hr hs ⊢
  obtain ⟨a, cap, rfl, hl, hm, hf⟩ := id hr
  clear hf
  unfold maxLen at hm
  have HR := Lib.hid hr
  clear hr
  have hst : CkW w nm a cap rs fu (w.alloc (.cells #[.string nm, .slice a rs.length cap, .int .i64 fu] 24)) := ⟨(Below.refl _ _).alloc (Nat.le_refl _) _, heap_alloc_new _ _⟩
  have HST := Lib.hid hst
  clear hst
  go_enter Try.func47, Try.ntmps47
  go_wp2_with fail
  refine (rcheck_any ⟨nm, rs, fu⟩ _ _ ⟨_, rfl, HR.out.below HST.out.bel⟩ hs).mono ?_
  rintro e w1 ⟨⟨x, rfl, hx⟩, hb1⟩
  have hs1 := HST.out.keep hb1
  obtain ⟨z0, z1, z2, z3⟩ := hs1.cells
  have HX := Lib.hid hx
  have HS1 := Lib.hid hs1
  clear hx hs1 hb1 HST
  by_cases hx0 : x = 0
  · subst hx0
    have HOK : Hid (CfOk ⟨nm, rs, fu⟩) := Lib.hid (HX.out.1 rfl)
    have hn1 : 1 ≤ rs.length := HOK.out.2.1
    have hn4 : rs.length ≤ 4 := HOK.out.2.2.1
    obtain ⟨n, hn⟩ : ∃ n, rs.length = n + 1 := ⟨rs.length - 1, by omega⟩
    have hlast : n < rs.length := by omega
    have hrr := HR.out.below HS1.out.bel
    obtain ⟨b, off, rfl⟩ : ∃ b off, a = some ⟨b, off, none⟩ := by
      obtain ⟨a', c', e, _, _, hf⟩ := hrr
      simp only [Value.slice.injEq] at e
      obtain ⟨rfl, _, _⟩ := e
      rcases hf with h | ⟨b, off, h, _⟩
      · rw [h] at hn; simp at hn
      · exact ⟨b, off, h⟩
    obtain ⟨hq, x0, x1, x2, x3⟩ := rule_cells hrr hlast
    have hiff : Hid (CfDone ⟨nm, rs, fu⟩ ↔ FloatKind.f64.format.order (rs[n]).s 0 = some Ordering.eq) := Lib.hid (by
      have e : rs.length - 1 = n := by omega
      constructor
      · intro h; simpa [e] using h.2 (by dsimp only; omega)
      · intro h; exact ⟨HOK.out, fun _ => by simpa [e] using h⟩)
    clear hrr
    generalize rs[n] = r at *
    obtain ⟨s, lim, bat, tgt⟩ := r
    dsimp only at *
    go_wp2
    all_goals go_ret
    all_goals exact ⟨⟨_, rfl, by rw [hiff.out]; simp⟩, HS1.out.bel⟩
  · have hxb : (x == 0) = false := by simpa using hx0
    have HX0 := Lib.hid hx0
    clear hx0
    go_wp2
    go_ret
    exact ⟨⟨false, rfl, fun h => (by cases h), fun h => absurd (HX.out.2 h.1) HX0.out⟩, HS1.out.bel⟩

set_option maxRecDepth 100000 in
set_option maxHeartbeats 4000000 in
theorem rsafe_any (c : Cf) (v : Value) (w : World) (hc : CfV w v c) (hs : c.name.size ≤ 9223372036854775807) (s n live words : Int) :
    Calls Try.prog 18 #[v, .int .i64 s, .int .i64 n, .int .i64 live, .int .i64 words] w fun e w' => RB e (SafeP c s n live words) ∧ Below w.heap.size w w' := by
  obtain ⟨nm, rs, fu⟩ := c
  obtain ⟨rv, rfl, hr⟩ := hc
  dsimp only at hr hs ⊢
  obtain ⟨a, cap, rfl, hl, hm, hf⟩ := id hr
  clear hf
  unfold maxLen at hm
  have HR := Lib.hid hr
  clear hr
  have hst : CkW w nm a cap rs fu (w.alloc (.cells #[.string nm, .slice a rs.length cap, .int .i64 fu] 24)) := ⟨(Below.refl _ _).alloc (Nat.le_refl _) _, heap_alloc_new _ _⟩
  have HST := Lib.hid hst
  clear hst
  by_cases hp : permB s n = true
  · have hp3 : 3 ≤ s ∧ s ≤ 8 ∧ 2 ≤ n ∧ n ≤ 64 := by simpa [permB] using hp
    obtain ⟨z, hz⟩ := Sh.of hp3.1 hp3.2.1
    have HP := Lib.hid hp3
    have HZ := Lib.hid hz
    have hz2 := hz
    have hiff : Hid (SafeP ⟨nm, rs, fu⟩ s n live words ↔ (CfDone ⟨nm, rs, fu⟩ ∧ 0 ≤ live ∧ live ≤ n * z ∧ 1 ≤ words ∧ words ≤ 48 ∧ 2 * (live + words) + 4 * z ≤ n * z)) := Lib.hid (by
      unfold SafeP
      rw [hz.pow]
      constructor
      · rintro ⟨h1, _, h⟩; exact ⟨h1, h⟩
      · rintro ⟨h1, h⟩; exact ⟨h1, hp3, h⟩)
    obtain ⟨-, -, hn2, hn64⟩ := hp3
    rcases hz with ⟨rfl, rfl⟩ | ⟨rfl, rfl⟩ | ⟨rfl, rfl⟩ | ⟨rfl, rfl⟩ | ⟨rfl, rfl⟩ | ⟨rfl, rfl⟩
    all_goals
      go_enter Try.func18, Try.ntmps18
      go_wp2_with fail
      refine (rcomplete_any ⟨nm, rs, fu⟩ _ _ ⟨_, rfl, HR.out.below HST.out.bel⟩ hs).mono ?_
      rintro e w1 ⟨⟨x, rfl, hx⟩, hb1⟩
      have hs1 := HST.out.keep hb1
      have HX := Lib.hid hx
      have HS1 := Lib.hid hs1
      clear hx hs1 hb1
      cases x with
      | false =>
        go_wp2
        go_ret
        exact ⟨⟨false, rfl, fun h => (by cases h), fun h => absurd (HX.out.2 h.1) (by simp)⟩, HS1.out.bel⟩
      | true =>
        have HD : Hid (CfDone ⟨nm, rs, fu⟩) := Lib.hid (HX.out.1 rfl)
        by_cases hl0 : live < 0
        · have k1 : decide (live < 0) = true := by simpa using hl0
          go_wp2_with (first | (go_at_call 48; refine (rpermitted_any _ _ _).mono ?_; rintro e w' ⟨rfl, rfl⟩))
          go_ret
          exact ⟨⟨false, rfl, fun h => (by cases h), fun h => (by have := (hiff.out.1 h).2.1; omega)⟩, HS1.out.bel⟩
        have k1 : decide (live < 0) = false := by simpa using hl0
        go_wp2_with (first | (go_at_call 48; refine (rpermitted_any _ _ _).mono ?_; rintro e w' ⟨rfl, rfl⟩) | (go_at_call 16; refine (rslack_at _ _ _ HZ.out).mono ?_; rintro e w' ⟨rfl, rfl⟩))
        all_goals go_ret
        all_goals refine ⟨⟨_, rfl, ?_⟩, HS1.out.bel⟩
        all_goals rw [hiff.out]
        all_goals have hd := HD.out
        all_goals first | (simp_all; done) | (simp_all; omega) | (simp_all; intros; omega)
  · have hp2 : permB s n = false := by simpa using hp
    have HN : Hid (¬ SafeP ⟨nm, rs, fu⟩ s n live words) := Lib.hid (fun h => hp (by simpa [permB] using h.2.1))
    clear hp
    go_enter Try.func18, Try.ntmps18
    go_wp2_with fail
    refine (rcomplete_any ⟨nm, rs, fu⟩ _ _ ⟨_, rfl, HR.out.below HST.out.bel⟩ hs).mono ?_
    rintro e w1 ⟨⟨x, rfl, hx⟩, hb1⟩
    have hs1 := HST.out.keep hb1
    have HS1 := Lib.hid hs1
    clear hx hs1 hb1
    cases x
    all_goals go_wp2_with (first | (go_at_call 48; refine (rpermitted_any _ _ _).mono ?_; rintro e w' ⟨rfl, rfl⟩))
    all_goals go_ret
    all_goals exact ⟨⟨false, rfl, fun h => (by cases h), fun h => absurd h HN.out⟩, HS1.out.bel⟩

set_option maxRecDepth 100000 in
set_option maxHeartbeats 4000000 in
theorem rdue_any (c : Cf) (v : Value) (w : World) (hc : CfV w v c) (hs : c.name.size ≤ 9223372036854775807) (s n : Int) :
    Calls Try.prog 20 #[v, .int .i64 s, .int .i64 n] w fun e w' => (∃ x : Int, e = .returned (.int .i64 x) ∧ DueP c s n x) ∧ Below w.heap.size w w' := by
  obtain ⟨nm, rs, fu⟩ := c
  obtain ⟨rv, rfl, hr⟩ := hc
  dsimp only at hr hs ⊢
  obtain ⟨a, cap, rfl, hl, hm, hf⟩ := id hr
  clear hf
  unfold maxLen at hm
  have HR := Lib.hid hr
  clear hr
  have hst : CkW w nm a cap rs fu (w.alloc (.cells #[.string nm, .slice a rs.length cap, .int .i64 fu] 24)) := ⟨(Below.refl _ _).alloc (Nat.le_refl _) _, heap_alloc_new _ _⟩
  have HST := Lib.hid hst
  clear hst
  by_cases hp : permB s n = true
  · have hp3 : 3 ≤ s ∧ s ≤ 8 ∧ 2 ≤ n ∧ n ≤ 64 := by simpa [permB] using hp
    obtain ⟨z, hz⟩ := Sh.of hp3.1 hp3.2.1
    have hpow := hz.pow
    have HP := Lib.hid hp3
    have HW := Lib.hid hpow
    obtain ⟨-, -, hn2, hn64⟩ := hp3
    clear hpow
    rcases hz with ⟨rfl, rfl⟩ | ⟨rfl, rfl⟩ | ⟨rfl, rfl⟩ | ⟨rfl, rfl⟩ | ⟨rfl, rfl⟩ | ⟨rfl, rfl⟩
    · go_enter Try.func20, Try.ntmps20
      go_wp2_with fail
      refine (rcomplete_any ⟨nm, rs, fu⟩ _ _ ⟨_, rfl, HR.out.below HST.out.bel⟩ hs).mono ?_
      rintro e w1 ⟨⟨x, rfl, hx⟩, hb1⟩
      have hs1 := HST.out.keep hb1
      obtain ⟨z0, z1, z2, z3⟩ := hs1.cells
      have HX := Lib.hid hx
      have HS1 := Lib.hid hs1
      clear hx hs1 hb1
      cases x with
      | false =>
        go_wp2
        go_ret
        exact ⟨⟨0, rfl, .inr ⟨fun h => absurd (HX.out.2 h.1) (by simp), rfl⟩⟩, HS1.out.bel⟩
      | true =>
        have HD : Hid (CfDone ⟨nm, rs, fu⟩) := Lib.hid (HX.out.1 rfl)
        have hfu : 1 ≤ fu ∧ fu ≤ 64 := done_full HD.out
        obtain ⟨hf1, hf2⟩ := hfu
        have hm1 : 0 ≤ (fu + 2) * (n * 8) := Int.mul_nonneg (by omega) (by omega)
        have hm2 : (fu + 2) * (n * 8) ≤ 66 * (64 * 8) := Int.mul_le_mul (by omega) (by omega) (by omega) (by omega)
        have hwr : IntKind.i64.wrap ((fu + 2) * (n * 8)) = (fu + 2) * (n * 8) := IntWalk.i64_in _ (by omega)
        go_wp2_with (first | (go_at_call 48; refine (rpermitted_any _ _ _).mono ?_; rintro e w' ⟨rfl, rfl⟩))
        go_ret
        exact ⟨⟨_, rfl, .inl ⟨⟨HD.out, HP.out⟩, by rw [HW.out]⟩⟩, HS1.out.bel⟩

    · go_enter Try.func20, Try.ntmps20
      go_wp2_with fail
      refine (rcomplete_any ⟨nm, rs, fu⟩ _ _ ⟨_, rfl, HR.out.below HST.out.bel⟩ hs).mono ?_
      rintro e w1 ⟨⟨x, rfl, hx⟩, hb1⟩
      have hs1 := HST.out.keep hb1
      obtain ⟨z0, z1, z2, z3⟩ := hs1.cells
      have HX := Lib.hid hx
      have HS1 := Lib.hid hs1
      clear hx hs1 hb1
      cases x with
      | false =>
        go_wp2
        go_ret
        exact ⟨⟨0, rfl, .inr ⟨fun h => absurd (HX.out.2 h.1) (by simp), rfl⟩⟩, HS1.out.bel⟩
      | true =>
        have HD : Hid (CfDone ⟨nm, rs, fu⟩) := Lib.hid (HX.out.1 rfl)
        have hfu : 1 ≤ fu ∧ fu ≤ 64 := done_full HD.out
        obtain ⟨hf1, hf2⟩ := hfu
        have hm1 : 0 ≤ (fu + 2) * (n * 16) := Int.mul_nonneg (by omega) (by omega)
        have hm2 : (fu + 2) * (n * 16) ≤ 66 * (64 * 16) := Int.mul_le_mul (by omega) (by omega) (by omega) (by omega)
        have hwr : IntKind.i64.wrap ((fu + 2) * (n * 16)) = (fu + 2) * (n * 16) := IntWalk.i64_in _ (by omega)
        go_wp2_with (first | (go_at_call 48; refine (rpermitted_any _ _ _).mono ?_; rintro e w' ⟨rfl, rfl⟩))
        go_ret
        exact ⟨⟨_, rfl, .inl ⟨⟨HD.out, HP.out⟩, by rw [HW.out]⟩⟩, HS1.out.bel⟩

    · go_enter Try.func20, Try.ntmps20
      go_wp2_with fail
      refine (rcomplete_any ⟨nm, rs, fu⟩ _ _ ⟨_, rfl, HR.out.below HST.out.bel⟩ hs).mono ?_
      rintro e w1 ⟨⟨x, rfl, hx⟩, hb1⟩
      have hs1 := HST.out.keep hb1
      obtain ⟨z0, z1, z2, z3⟩ := hs1.cells
      have HX := Lib.hid hx
      have HS1 := Lib.hid hs1
      clear hx hs1 hb1
      cases x with
      | false =>
        go_wp2
        go_ret
        exact ⟨⟨0, rfl, .inr ⟨fun h => absurd (HX.out.2 h.1) (by simp), rfl⟩⟩, HS1.out.bel⟩
      | true =>
        have HD : Hid (CfDone ⟨nm, rs, fu⟩) := Lib.hid (HX.out.1 rfl)
        have hfu : 1 ≤ fu ∧ fu ≤ 64 := done_full HD.out
        obtain ⟨hf1, hf2⟩ := hfu
        have hm1 : 0 ≤ (fu + 2) * (n * 32) := Int.mul_nonneg (by omega) (by omega)
        have hm2 : (fu + 2) * (n * 32) ≤ 66 * (64 * 32) := Int.mul_le_mul (by omega) (by omega) (by omega) (by omega)
        have hwr : IntKind.i64.wrap ((fu + 2) * (n * 32)) = (fu + 2) * (n * 32) := IntWalk.i64_in _ (by omega)
        go_wp2_with (first | (go_at_call 48; refine (rpermitted_any _ _ _).mono ?_; rintro e w' ⟨rfl, rfl⟩))
        go_ret
        exact ⟨⟨_, rfl, .inl ⟨⟨HD.out, HP.out⟩, by rw [HW.out]⟩⟩, HS1.out.bel⟩

    · go_enter Try.func20, Try.ntmps20
      go_wp2_with fail
      refine (rcomplete_any ⟨nm, rs, fu⟩ _ _ ⟨_, rfl, HR.out.below HST.out.bel⟩ hs).mono ?_
      rintro e w1 ⟨⟨x, rfl, hx⟩, hb1⟩
      have hs1 := HST.out.keep hb1
      obtain ⟨z0, z1, z2, z3⟩ := hs1.cells
      have HX := Lib.hid hx
      have HS1 := Lib.hid hs1
      clear hx hs1 hb1
      cases x with
      | false =>
        go_wp2
        go_ret
        exact ⟨⟨0, rfl, .inr ⟨fun h => absurd (HX.out.2 h.1) (by simp), rfl⟩⟩, HS1.out.bel⟩
      | true =>
        have HD : Hid (CfDone ⟨nm, rs, fu⟩) := Lib.hid (HX.out.1 rfl)
        have hfu : 1 ≤ fu ∧ fu ≤ 64 := done_full HD.out
        obtain ⟨hf1, hf2⟩ := hfu
        have hm1 : 0 ≤ (fu + 2) * (n * 64) := Int.mul_nonneg (by omega) (by omega)
        have hm2 : (fu + 2) * (n * 64) ≤ 66 * (64 * 64) := Int.mul_le_mul (by omega) (by omega) (by omega) (by omega)
        have hwr : IntKind.i64.wrap ((fu + 2) * (n * 64)) = (fu + 2) * (n * 64) := IntWalk.i64_in _ (by omega)
        go_wp2_with (first | (go_at_call 48; refine (rpermitted_any _ _ _).mono ?_; rintro e w' ⟨rfl, rfl⟩))
        go_ret
        exact ⟨⟨_, rfl, .inl ⟨⟨HD.out, HP.out⟩, by rw [HW.out]⟩⟩, HS1.out.bel⟩

    · go_enter Try.func20, Try.ntmps20
      go_wp2_with fail
      refine (rcomplete_any ⟨nm, rs, fu⟩ _ _ ⟨_, rfl, HR.out.below HST.out.bel⟩ hs).mono ?_
      rintro e w1 ⟨⟨x, rfl, hx⟩, hb1⟩
      have hs1 := HST.out.keep hb1
      obtain ⟨z0, z1, z2, z3⟩ := hs1.cells
      have HX := Lib.hid hx
      have HS1 := Lib.hid hs1
      clear hx hs1 hb1
      cases x with
      | false =>
        go_wp2
        go_ret
        exact ⟨⟨0, rfl, .inr ⟨fun h => absurd (HX.out.2 h.1) (by simp), rfl⟩⟩, HS1.out.bel⟩
      | true =>
        have HD : Hid (CfDone ⟨nm, rs, fu⟩) := Lib.hid (HX.out.1 rfl)
        have hfu : 1 ≤ fu ∧ fu ≤ 64 := done_full HD.out
        obtain ⟨hf1, hf2⟩ := hfu
        have hm1 : 0 ≤ (fu + 2) * (n * 128) := Int.mul_nonneg (by omega) (by omega)
        have hm2 : (fu + 2) * (n * 128) ≤ 66 * (64 * 128) := Int.mul_le_mul (by omega) (by omega) (by omega) (by omega)
        have hwr : IntKind.i64.wrap ((fu + 2) * (n * 128)) = (fu + 2) * (n * 128) := IntWalk.i64_in _ (by omega)
        go_wp2_with (first | (go_at_call 48; refine (rpermitted_any _ _ _).mono ?_; rintro e w' ⟨rfl, rfl⟩))
        go_ret
        exact ⟨⟨_, rfl, .inl ⟨⟨HD.out, HP.out⟩, by rw [HW.out]⟩⟩, HS1.out.bel⟩

    · go_enter Try.func20, Try.ntmps20
      go_wp2_with fail
      refine (rcomplete_any ⟨nm, rs, fu⟩ _ _ ⟨_, rfl, HR.out.below HST.out.bel⟩ hs).mono ?_
      rintro e w1 ⟨⟨x, rfl, hx⟩, hb1⟩
      have hs1 := HST.out.keep hb1
      obtain ⟨z0, z1, z2, z3⟩ := hs1.cells
      have HX := Lib.hid hx
      have HS1 := Lib.hid hs1
      clear hx hs1 hb1
      cases x with
      | false =>
        go_wp2
        go_ret
        exact ⟨⟨0, rfl, .inr ⟨fun h => absurd (HX.out.2 h.1) (by simp), rfl⟩⟩, HS1.out.bel⟩
      | true =>
        have HD : Hid (CfDone ⟨nm, rs, fu⟩) := Lib.hid (HX.out.1 rfl)
        have hfu : 1 ≤ fu ∧ fu ≤ 64 := done_full HD.out
        obtain ⟨hf1, hf2⟩ := hfu
        have hm1 : 0 ≤ (fu + 2) * (n * 256) := Int.mul_nonneg (by omega) (by omega)
        have hm2 : (fu + 2) * (n * 256) ≤ 66 * (64 * 256) := Int.mul_le_mul (by omega) (by omega) (by omega) (by omega)
        have hwr : IntKind.i64.wrap ((fu + 2) * (n * 256)) = (fu + 2) * (n * 256) := IntWalk.i64_in _ (by omega)
        go_wp2_with (first | (go_at_call 48; refine (rpermitted_any _ _ _).mono ?_; rintro e w' ⟨rfl, rfl⟩))
        go_ret
        exact ⟨⟨_, rfl, .inl ⟨⟨HD.out, HP.out⟩, by rw [HW.out]⟩⟩, HS1.out.bel⟩
  · have hp2 : permB s n = false := by simpa using hp
    have HN : Hid (¬ (CfDone ⟨nm, rs, fu⟩ ∧ 3 ≤ s ∧ s ≤ 8 ∧ 2 ≤ n ∧ n ≤ 64)) := Lib.hid (fun h => hp (by simpa [permB] using h.2))
    clear hp
    go_enter Try.func20, Try.ntmps20
    go_wp2_with fail
    refine (rcomplete_any ⟨nm, rs, fu⟩ _ _ ⟨_, rfl, HR.out.below HST.out.bel⟩ hs).mono ?_
    rintro e w1 ⟨⟨x, rfl, hx⟩, hb1⟩
    have hs1 := HST.out.keep hb1
    have HS1 := Lib.hid hs1
    clear hx hs1 hb1
    cases x
    all_goals go_wp2_with (first | (go_at_call 48; refine (rpermitted_any _ _ _).mono ?_; rintro e w' ⟨rfl, rfl⟩))
    all_goals go_ret
    all_goals exact ⟨⟨0, rfl, .inr ⟨HN.out, rfl⟩⟩, HS1.out.bel⟩
end Go.Proofs.Ytchdmemgkegefaa
