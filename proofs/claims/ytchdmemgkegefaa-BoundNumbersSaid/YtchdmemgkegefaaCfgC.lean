/- Configurations in memory, and what the program says of them. Condition: a configuration whose rules read as a list. -/
import Derived.Test.YtchdmemgkegefaaCfgV
import Derived.Test.YtchdmemgkegefaaRegV
import Derived.Deep.RegionWith
namespace Go.Proofs.Ytchdmemgkegefaa
open Go.RowKit
set_option linter.unusedVariables false

structure Rl where
  (s : Nat) (lim bat tgt : Int)
def Rl.cells (r : Rl) : List Value := [.float .f64 r.s, .int .i64 r.lim, .int .i64 r.bat, .int .i64 r.tgt]
def ruleE : El Rl := flat 4 Rl.cells fun _ => rfl
structure Cf where
  (name : ByteArray) (rules : List Rl) (full : Int)
def CfV (w : World) (v : Value) (c : Cf) : Prop := ∃ rv, v = .agg #[.string c.name, rv, .int .i64 c.full] ∧ Rd ruleE w rv c.rules
theorem CfV.below {w w' : World} {v : Value} {c : Cf} (h : CfV w v c) (hb : Below w.heap.size w w') : CfV w' v c := by
  obtain ⟨rv, e, r⟩ := h
  exact ⟨rv, e, r.below hb⟩

/-- the rule of belt b of n is permitted -/
def RuleOk (n b : Nat) (r : Rl) : Prop :=
  shareB r.s = true ∧ (0 ≤ r.lim ∧ r.lim ≤ 64) ∧ (0 ≤ r.bat ∧ r.bat ≤ 64) ∧ ((b : Int) = n - 1 → r.lim = 0) ∧ ((b : Int) = n - 1 → r.tgt = b) ∧ ((b : Int) < n - 1 → (b : Int) < r.tgt ∧ r.tgt ≤ n - 1)

/-- the cells of rule i of a slice -/
theorem rule_cells {w : World} {b off : Nat} {n cap : Nat} {rs : List Rl} (h : Rd ruleE w (.slice (some ⟨b, off, none⟩) n cap) rs) {i : Nat} (hi : i < rs.length) :
    b < w.heap.size ∧ w.cell? ⟨b, off + i * 4, none⟩ = some (.float .f64 rs[i].s) ∧ w.cell? ⟨b, off + i * 4 + 1, none⟩ = some (.int .i64 rs[i].lim) ∧ w.cell? ⟨b, off + i * 4 + 2, none⟩ = some (.int .i64 rs[i].bat) ∧ w.cell? ⟨b, off + i * 4 + 3, none⟩ = some (.int .i64 rs[i].tgt) := by
  obtain ⟨a, c, e, _, _, hf⟩ := h.flat
  simp only [Value.slice.injEq] at e
  obtain ⟨rfl, rfl, rfl⟩ := e
  rcases hf with rfl | ⟨b', off', e, hb, hf⟩
  · exact absurd hi (Nat.not_lt_zero _)
  · simp only [Option.some.injEq, Addr.mk.injEq, and_true] at e
    obtain ⟨rfl, rfl⟩ := e
    exact ⟨hb (by decide), by simpa [Rl.cells] using hf i hi 0 (by decide), by simpa [Rl.cells] using hf i hi 1 (by decide), by simpa [Rl.cells] using hf i hi 2 (by decide), by simpa [Rl.cells] using hf i hi 3 (by decide)⟩

set_option maxRecDepth 100000 in
set_option maxHeartbeats 4000000 in
theorem rule_any (c : Cf) (v : Value) (w : World) (hc : CfV w v c) (b : Nat) (hb : b < c.rules.length) :
    Calls Try.prog 82 #[v, .int .i64 b] w fun e w' => (∃ x : Int, e = .returned (.int .i64 x) ∧ (x = 0 ↔ RuleOk c.rules.length b c.rules[b])) ∧ Below w.heap.size w w' := by
  obtain ⟨nm, rs, fu⟩ := c
  obtain ⟨rv, rfl, hr⟩ := hc
  dsimp only at hr hb ⊢
  obtain ⟨a, cap, rfl, hl, hm, hf⟩ := id hr
  rcases hf with rfl | ⟨q, off, rfl, hf⟩
  · exact absurd hb (Nat.not_lt_zero _)
  obtain ⟨hq, x0, x1, x2, x3⟩ := rule_cells hr hb
  clear hf hr
  unfold maxLen at hm
  have hRO : RuleOk rs.length b rs[b] ↔ _ := Iff.rfl
  have HRO := Lib.hid hRO
  clear hRO
  generalize rs[b] = r at *
  obtain ⟨s, lim, bat, tgt⟩ := r
  dsimp only at *
  go_enter Try.func82, Try.ntmps82
  go_wp2_with fail
  go_region
  go_wp2_with (first | (go_at_call 99; refine (valid_any _ _).mono ?_; rintro e w' ⟨rfl, rfl⟩) | (go_at_call 100; refine (count_any _ _).mono ?_; rintro e w' ⟨rfl, rfl⟩))
  all_goals go_ret
  all_goals refine ⟨⟨_, rfl, ?_⟩, ?_⟩
  all_goals first | (repeat (first | exact Below.refl _ _ | refine Below.drew ?_ | refine Below.setCell ?_ (by simp) _ | refine Below.alloc ?_ (by simp) _)) | skip
  all_goals (unfold RuleOk; first | (simp_all; done) | (simp_all; omega) | (simp_all; intros; omega))

/-- it returned whether p -/
def RB (e : Ending) (p : Prop) : Prop := ∃ x : Bool, e = .returned (.bool x) ∧ (x = true ↔ p)

/-- another rule has belt b as its target -/
def Aimed (rs : List Rl) (b : Nat) : Prop := ∃ k, ∃ h : k < rs.length, k ≠ b ∧ rs[k].tgt = b

set_option maxRecDepth 100000 in
set_option maxHeartbeats 4000000 in
theorem targeted_any (c : Cf) (v : Value) (w : World) (hc : CfV w v c) (b : Nat) (hb : b < c.rules.length) :
    Calls Try.prog 83 #[v, .int .i64 b] w fun e w' => RB e (Aimed c.rules b) ∧ Below w.heap.size w w' := by
  obtain ⟨nm, rs, fu⟩ := c
  obtain ⟨rv, rfl, hr⟩ := hc
  dsimp only at hr hb ⊢
  obtain ⟨a, cap, rfl, hl, hm, hf⟩ := id hr
  rcases hf with rfl | ⟨q, off, rfl, hf⟩
  · exact absurd hb (Nat.not_lt_zero _)
  clear hf
  unfold maxLen at hm
  have HR := Lib.hid hr
  clear hr
  go_enter Try.func83, Try.ntmps83
  go_wp2_with fail
  go_loopw [10] (fun i wr => ∃ k : Nat, k ≤ rs.length ∧ i = .int .i64 k ∧ Below w.heap.size w wr ∧ ∀ j (h : j < rs.length), j < k → ¬ (j ≠ b ∧ rs[j].tgt = b)) (fun i _ => rs.length - (intOf i).toNat)
  case atStart => exact ⟨0, by omega, rfl, (Below.refl _ _).alloc (Nat.le_refl _) _, fun j _ h => absurd h (Nat.not_lt_zero _)⟩
  case round =>
    obtain ⟨k, hk, rfl, hbel, hno⟩ := hrel
    have HN := Lib.hid hno
    have hrr := HR.out.below hbel
    clear hno
    by_cases hlt : k < rs.length
    · obtain ⟨hq, x0, x1, x2, x3⟩ := rule_cells hrr hlt
      have HSZ := Lib.hid hbel.size
      have HBB := Lib.hid hbel
      have hs0 := hbel.size
      clear hrr hbel
      have ht : Hid (k ≠ b → rs[k].tgt = b → Aimed rs b) := Lib.hid fun h1 h2 => ⟨k, hlt, h1, h2⟩
      have hn : Hid (¬ (k ≠ b ∧ rs[k].tgt = b) → ∀ j (h : j < rs.length), j < k + 1 → ¬ (j ≠ b ∧ rs[j].tgt = b)) := Lib.hid fun h0 j hj hjk => by
        by_cases e : j = k
        · subst e; exact h0
        · exact HN.out j hj (by omega)
      generalize rs[k] = r at *
      obtain ⟨s, lim, bat, tgt⟩ := r
      dsimp only at *
      have hw : ∀ W, W = W → Below w.heap.size w wr → Below w.heap.size wr W → Below w.heap.size w W := fun W _ h1 h2 => h1.trans h2
      by_cases hkb : k = b
      · subst hkb
        have k1 : ((k : Int) != (k : Int)) = false := by simp
        go_wp2
        go_roundw
        case rel =>
          refine ⟨k + 1, by omega, by go_num, HBB.out.trans ?_, hn.out (fun h => h.1 rfl)⟩
          have := HSZ.out
          repeat (first | exact Below.refl _ _ | refine Below.drew ?_ | refine Below.setCell ?_ (by first | (simp; done) | (simp; omega)) _ | refine Below.alloc ?_ (by first | assumption | (simp; done) | (simp; omega)) _)
        case measure => simp [intOf]; omega
      · have k1 : ((k : Int) != (b : Int)) = true := by simp; omega
        by_cases htb : tgt = b
        · have k2 : (tgt == (b : Int)) = true := by simp; omega
          go_wp2
          go_ret
          refine ⟨⟨true, rfl, fun _ => ht.out hkb htb, fun _ => rfl⟩, HBB.out.trans ?_⟩
          have := HSZ.out
          repeat (first | exact Below.refl _ _ | refine Below.drew ?_ | refine Below.setCell ?_ (by first | (simp; done) | (simp; omega)) _ | refine Below.alloc ?_ (by first | assumption | (simp; done) | (simp; omega)) _)
        · have k2 : (tgt == (b : Int)) = false := by simp; omega
          go_wp2
          go_roundw
          case rel =>
            refine ⟨k + 1, by omega, by go_num, HBB.out.trans ?_, hn.out (fun h => htb h.2)⟩
            have := HSZ.out
            repeat (first | exact Below.refl _ _ | refine Below.drew ?_ | refine Below.setCell ?_ (by first | (simp; done) | (simp; omega)) _ | refine Below.alloc ?_ (by first | assumption | (simp; done) | (simp; omega)) _)
          case measure => simp [intOf]; omega
    · go_wp2
      go_ret
      refine ⟨⟨false, rfl, fun h => (by cases h), fun ⟨j, hj, h1, h2⟩ => absurd ⟨h1, h2⟩ (HN.out j hj (by omega))⟩, ?_⟩
      refine hbel.trans ?_
      have := hbel.size
      repeat (first | exact Below.refl _ _ | refine Below.drew ?_ | refine Below.setCell ?_ (by first | (simp; done) | (simp; omega)) _ | refine Below.alloc ?_ (by first | assumption | (simp; done) | (simp; omega)) _)

/-- a configuration is permitted -/
def CfOk (c : Cf) : Prop :=
  NameOk c.name ∧ 1 ≤ c.rules.length ∧ c.rules.length ≤ 4 ∧ (∀ b (h : b < c.rules.length), RuleOk c.rules.length b c.rules[b]) ∧ (∀ b, 1 ≤ b → b < c.rules.length → Aimed c.rules b) ∧
    (∀ h : c.rules.length - 1 < c.rules.length, if FloatKind.f64.format.order (c.rules[c.rules.length - 1]).s 0 = some Ordering.eq then 1 ≤ c.full ∧ c.full ≤ 64 else c.full = 0)
/-- it returned an error, none if p -/
def RE (e : Ending) (p : Prop) : Prop := ∃ x : Int, e = .returned (.int .i64 x) ∧ (x = 0 ↔ p)

end Go.Proofs.Ytchdmemgkegefaa
