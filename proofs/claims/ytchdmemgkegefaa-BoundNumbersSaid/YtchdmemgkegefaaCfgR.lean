/- The reference's names of configurations. No condition. -/
import Derived.Test.YtchdmemgkegefaaCfgK
namespace Go.Proofs.Ytchdmemgkegefaa
open Go.RowKit
set_option linter.unusedVariables false

def letterB (c : Nat) : Bool := decide (97 ≤ c) && decide (c ≤ 122)
theorem letter_ok {c : Nat} (h : letterB c = true) : okCh c = true := by
  simp [letterB] at h
  simp [okCh]
  omega
/-- byte i of a name is permitted -/
def ChOk (s : ByteArray) (i : Nat) (h : i < s.size) : Prop := okCh (s[i]'h).toNat = true ∧ (i = 0 → letterB (s[i]'h).toNat = true)

set_option maxRecDepth 100000 in
set_option maxHeartbeats 2000000 in
theorem rnamed_any (s : ByteArray) (w : World) (hs : s.size ≤ 9223372036854775807) : Calls Try.prog 84 #[.string s] w fun e w' => RB e (NameOk s) ∧ Below w.heap.size w w' := by
  go_enter Try.func84, Try.ntmps84
  go_wp2_with fail
  go_loopw [3] (fun i wr => ∃ k : Nat, k ≤ s.size ∧ i = .int .i64 k ∧ wr = w ∧ ∀ j (h : j < s.size), j < k → ChOk s j h) (fun i _ => s.size - (intOf i).toNat)
  case atStart => exact ⟨0, by omega, rfl, rfl, fun j _ h => absurd h (Nat.not_lt_zero _)⟩
  case round =>
    obtain ⟨k, hk, rfl, rfl, hok⟩ := hrel
    have HP := Lib.hid hok
    clear hok
    by_cases hlt : k < s.size
    · by_cases hc : ChOk s k hlt
      · have HP2 : Hid (∀ j (h : j < s.size), j < k + 1 → ChOk s j h) := Lib.hid fun j h h' => by
          by_cases e : j = k
          · subst e; exact hc
          · exact HP.out j h (by omega)
        obtain ⟨hc1, hc2⟩ := hc
        clear HP
        have hcb : Hid (ChOk s k hlt) := Lib.hid ⟨hc1, hc2⟩
        by_cases hl : letterB (s[k]'hlt).toNat = true
        · have k1 : decide ((97 : Int) ≤ ((s[k]'hlt).toNat : Nat)) = true := by simp [letterB] at hl; simp; omega
          have k2 : decide ((((s[k]'hlt).toNat : Nat) : Int) ≤ 122) = true := by simp [letterB] at hl; simp; omega
          clear hl hc1 hc2
          go_wp2
          go_roundw
          case rel => exact ⟨k + 1, hlt, by go_num, by first | rfl | trivial, HP2.out⟩
          case measure => simp [intOf]; omega
        · have hk0 : k ≠ 0 := fun e => hl (hc2 e)
          have k0 : ((k : Int) == 0) = false := by simp; omega
          simp [letterB] at hl
          simp [okCh] at hc1
          clear hc2
          go_wp2
          all_goals first | (exfalso; omega) | (exfalso; simp_all; omega) | skip
          all_goals go_roundw
          all_goals first | exact ⟨k + 1, hlt, by go_num, by first | rfl | trivial, HP2.out⟩ | (simp [intOf]; omega)
      · have HN : Hid (¬ NameOk s) := Lib.hid fun h => hc ⟨h.2.2.2 k hlt, fun e => by subst e; have := h.2.2.1 hlt; simp [letterB]; exact this⟩
        clear HP
        by_cases hl : letterB (s[k]'hlt).toNat = true
        · exact absurd ⟨letter_ok hl, fun _ => hl⟩ hc
        · by_cases hk0 : k = 0
          · have k0 : ((k : Int) == 0) = true := by simp; omega
            simp [letterB] at hl
            clear hc hk0
            go_wp2
            all_goals first | (exfalso; omega) | (exfalso; simp_all; omega) | skip
            all_goals go_ret
            all_goals exact ⟨⟨false, rfl, fun h => (by cases h), fun h => absurd h HN.out⟩, Below.refl _ _⟩
          · have k0 : ((k : Int) == 0) = false := by simp; omega
            have hc1 : okCh (s[k]'hlt).toNat ≠ true := fun e => hc ⟨e, fun e2 => absurd e2 hk0⟩
            simp [letterB] at hl
            simp [okCh] at hc1
            clear hc
            go_wp2
            all_goals first | (exfalso; omega) | (exfalso; simp_all; omega) | skip
            all_goals go_ret
            all_goals exact ⟨⟨false, rfl, fun h => (by cases h), fun h => absurd h HN.out⟩, Below.refl _ _⟩
    · have HI : Hid (NameOk s ↔ (1 ≤ s.size ∧ s.size ≤ 16)) := Lib.hid ⟨fun h => ⟨h.1, h.2.1⟩, fun h => ⟨h.1, h.2, fun h0 => by have := (HP.out 0 h0 (by omega)).2 rfl; simp [letterB] at this; exact this, fun i hi => (HP.out i hi (by omega)).1⟩⟩
      clear HP
      go_wp2
      all_goals go_ret
      all_goals refine ⟨⟨_, rfl, ?_⟩, Below.refl _ _⟩
      all_goals rw [HI.out]
      all_goals first | (simp_all; done) | (simp_all; omega) | (simp; omega)
end Go.Proofs.Ytchdmemgkegefaa
