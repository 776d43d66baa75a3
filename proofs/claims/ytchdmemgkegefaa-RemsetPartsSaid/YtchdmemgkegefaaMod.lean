/- The remainder from 0 on. -/
import Derived.Test.YtchdmemgkegefaaRows
import Derived.Test.YtchdmemgkegefaaBas2
namespace Go.Proofs.Ytchdmemgkegefaa
open Go.RowKit

/-- Mod: the remainder from 0 on. -/
theorem mod_any (v n : Int) (w : World) (hn : 1 ≤ n) (hn2 : n ≤ 9223372036854775807) :
    Calls Try.prog 14 #[.int .i64 v, .int .i64 n] w fun e w' => e = .returned (.int .i64 (v % n)) ∧ w = w' := by
  have ht1 : v.tmod n < n := Int.tmod_lt_of_pos v (by omega)
  have ht2 : -n < v.tmod n := by have := Int.tmod_lt_of_pos (-v) (b := n) (by omega); rw [Int.neg_tmod] at this; omega
  have hsum : v % n = if v.tmod n < 0 then v.tmod n + n else v.tmod n := by
    have e1 := Int.emod_emod_of_dvd v (Int.dvd_refl n)
    have e2 : v = n * v.tdiv n + v.tmod n := (Int.mul_tdiv_add_tmod v n).symm
    have e3 : v % n = v.tmod n % n := by
      conv => lhs; rw [e2]
      rw [Int.add_comm, Int.add_mul_emod_self_left]
    rw [e3]
    split
    · rw [← Int.add_emod_right, Int.emod_eq_of_lt (by omega) (by omega)]
    · rw [Int.emod_eq_of_lt (by omega) ht1]
  have HS := Lib.hid hsum; clear hsum
  by_cases h : v.tmod n < 0
  · go_enter Try.func14, Try.ntmps14
    go_wp2
    go_ret
    refine ⟨?_, rfl⟩
    rw [HS.out, if_pos h]
    rfl
  · go_enter Try.func14, Try.ntmps14
    go_wp2
    go_ret
    refine ⟨?_, rfl⟩
    rw [HS.out, if_neg (by omega)]
    rfl

/-- the same, told by bounds -/
theorem mod_bd (v n : Int) (w : World) (hn : 1 ≤ n) (hn2 : n ≤ 9223372036854775807) :
    Calls Try.prog 14 #[.int .i64 v, .int .i64 n] w fun e w' => ∃ r : Int, 0 ≤ r ∧ r < n ∧ e = .returned (.int .i64 r) ∧ w = w' :=
  (mod_any v n w hn hn2).mono fun _ _ ⟨h1, h2⟩ => ⟨v % n, Int.emod_nonneg _ (by omega), Int.emod_lt_of_pos _ (by omega), h1, h2⟩
end Go.Proofs.Ytchdmemgkegefaa
