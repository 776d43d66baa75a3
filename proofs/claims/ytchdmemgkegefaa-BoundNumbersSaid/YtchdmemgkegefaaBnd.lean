/- The slack and the safe allocations, at the semispace configuration. -/
import Derived.Test.YtchdmemgkegefaaCfgS
namespace Go.Proofs.Ytchdmemgkegefaa
open Go.RowKit

theorem rint {k : IntKind} {a b : Int} (h : a = b) : Ending.returned (.int k a) = .returned (.int k b) := by rw [h]
theorem rbool {a b : Bool} (h : a = b) : Ending.returned (.bool a) = .returned (.bool b) := by rw [h]
/-- a shift that is permitted, and the size of its frames -/
def Sh (s z : Int) : Prop := (s = 3 ∧ z = 8) ∨ (s = 4 ∧ z = 16) ∨ (s = 5 ∧ z = 32) ∨ (s = 6 ∧ z = 64) ∨ (s = 7 ∧ z = 128) ∨ (s = 8 ∧ z = 256)
theorem Sh.of {s : Int} (h1 : 3 ≤ s) (h2 : s ≤ 8) : ∃ z, Sh s z := by
  obtain rfl | rfl | rfl | rfl | rfl | rfl : s = 3 ∨ s = 4 ∨ s = 5 ∨ s = 6 ∨ s = 7 ∨ s = 8 := by omega
  · exact ⟨8, by simp [Sh]⟩
  · exact ⟨16, by simp [Sh]⟩
  · exact ⟨32, by simp [Sh]⟩
  · exact ⟨64, by simp [Sh]⟩
  · exact ⟨128, by simp [Sh]⟩
  · exact ⟨256, by simp [Sh]⟩

theorem slack_at (s z : Int) (w : World) (h : Sh s z) : Calls Try.prog 15 #[.int .i64 s] w fun e w' => e = .returned (.int .i64 (4 * z)) ∧ w = w' := by
  rcases h with ⟨rfl, rfl⟩ | ⟨rfl, rfl⟩ | ⟨rfl, rfl⟩ | ⟨rfl, rfl⟩ | ⟨rfl, rfl⟩ | ⟨rfl, rfl⟩
  all_goals
    go_enter Try.func15, Try.ntmps15
    go_wp2_with (first | go_in)
    go_ret
    exact ⟨rint (by decide), rfl⟩

set_option maxRecDepth 100000 in
set_option maxHeartbeats 1000000 in
theorem safe_at (c : Value) (s z n live words : Int) (w : World) (hc : Semi w c) (h : Sh s z) (hn : 2 ≤ n) (hn2 : n ≤ 64) (hl : 0 ≤ live) (hl2 : live ≤ n * z) (hw : 1 ≤ words) (hw2 : words ≤ 48) :
    Calls Try.prog 17 #[c, .int .i64 s, .int .i64 n, .int .i64 live, .int .i64 words] w fun e w' => e = .returned (.bool (decide (2 * (live + words) + 4 * z ≤ n * z))) ∧ Below w.heap.size w w' := by
  have hS := h
  obtain ⟨g, rfl, h0, h1, h2, h3⟩ := hc
  have hg : g < w.heap.size := World.block_lt_of_cell? w (a := ⟨g, 0, none⟩) h0
  have hp : permB s n = true := by
    unfold permB Sh at *
    simp
    omega
  have HS := Lib.hid hS; clear hS
  rcases h with ⟨rfl, rfl⟩ | ⟨rfl, rfl⟩ | ⟨rfl, rfl⟩ | ⟨rfl, rfl⟩ | ⟨rfl, rfl⟩ | ⟨rfl, rfl⟩
  all_goals
    go_enter Try.func17, Try.ntmps17
    go_wp2_with fail
    refine (complete_s _ _ ⟨g, rfl, ?_, ?_, ?_, ?_⟩).mono ?_
    · rw [World.cell?_alloc_past _ _ _ hg]; exact h0
    · rw [World.cell?_alloc_past _ _ _ hg]; exact h1
    · rw [World.cell?_alloc_past _ _ _ hg]; exact h2
    · rw [World.cell?_alloc_past _ _ _ hg]; exact h3
    rintro e w2 ⟨rfl, hb2⟩
    go_wp2_with (first | (go_at_call 45; refine (permitted_any _ _ _).mono ?_; rintro e w' ⟨rfl, rfl⟩) | (go_at_call 15; refine (slack_at _ _ _ HS.out).mono ?_; rintro e w' ⟨rfl, rfl⟩))
    go_ret
    exact ⟨rbool (by first | rfl | simp), ((Below.refl _ _).alloc (Nat.le_refl _) _).trans (hb2.mono (by simp))⟩

set_option maxRecDepth 100000 in
set_option maxHeartbeats 1000000 in
theorem due_s (c : Value) (w : World) (hc : Semi w c) :
    Calls Try.prog 19 #[c, .int .i64 4, .int .i64 32] w fun e w' => e = .returned (.int .i64 1536) ∧ Below w.heap.size w w' := by
  obtain ⟨g, rfl, h0, h1, h2, h3⟩ := hc
  have hg : g < w.heap.size := World.block_lt_of_cell? w (a := ⟨g, 0, none⟩) h0
  go_enter Try.func19, Try.ntmps19
  go_wp2_with fail
  refine (complete_s _ _ ⟨g, rfl, ?_, ?_, ?_, ?_⟩).mono ?_
  · rw [World.cell?_alloc_past _ _ _ hg]; exact h0
  · rw [World.cell?_alloc_past _ _ _ hg]; exact h1
  · rw [World.cell?_alloc_past _ _ _ hg]; exact h2
  · rw [World.cell?_alloc_past _ _ _ hg]; exact h3
  rintro e w2 ⟨rfl, hb2⟩
  obtain ⟨q3, q4⟩ := bcell hb2
  go_wp2_with (first | go_in)
  go_ret
  exact ⟨rint (by first | rfl | simp), ((Below.refl _ _).alloc (Nat.le_refl _) _).trans (hb2.mono (by simp))⟩

set_option maxRecDepth 100000 in
theorem semi_any (w : World) : Calls Try.prog 21 #[] w fun e w' => ∃ c, e = .returned c ∧ Semi w' c ∧ Below w.heap.size w w' := by
  go_enter Try.func21, Try.ntmps21
  go_wp2
  refine bodyPost_ret (v := .agg #[.string ⟨#[115]⟩, .slice (some ⟨w.heap.size + 1, 0, none⟩) 1 1, .int .i64 1]) (by simp [results, Try.results21, go_sem]) rfl ⟨_, rfl, ⟨w.heap.size + 1, rfl, ?_, ?_, ?_, ?_⟩, ?_⟩
  · simp [go_sem]
  · simp [go_sem]
  · simp [go_sem]
  · simp [go_sem]
  · repeat (first | exact Below.refl _ _ | refine Below.drew ?_ | refine Below.setCell ?_ (by simp) _ | refine Below.alloc ?_ (by simp) _)

theorem Semi.below {w w' : World} {c : Value} (h : Semi w c) (hb : Below w.heap.size w w') : Semi w' c := by
  obtain ⟨g, rfl, h0, h1, h2, h3⟩ := h
  have hg : g < w.heap.size := World.block_lt_of_cell? w (a := ⟨g, 0, none⟩) h0
  exact ⟨g, rfl, by rw [hb.cell (p := ⟨g, 0, none⟩) hg]; exact h0, by rw [hb.cell (p := ⟨g, 1, none⟩) hg]; exact h1, by rw [hb.cell (p := ⟨g, 2, none⟩) hg]; exact h2, by rw [hb.cell (p := ⟨g, 3, none⟩) hg]; exact h3⟩

set_option maxRecDepth 100000 in
set_option maxHeartbeats 1000000 in
theorem awake33 (w : World) : Calls Try.prog 10 #[] w fun e w' => e = .returned (.bool true) ∧ Below w.heap.size w w' := by
  have hsh : Sh 4 16 := by simp [Sh]
  go_enter Try.func10, Try.ntmps10
  go_wp2_with fail
  refine (slack_at _ _ _ hsh).mono ?_
  rintro e w' ⟨rfl, rfl⟩
  go_wp2_with fail
  refine (semi_any _).mono ?_
  rintro e w1 ⟨c1, rfl, hc1, hb1⟩
  go_wp2_with fail
  refine (safe_at _ _ _ _ _ _ _ hc1 hsh (by omega) (by omega) (by omega) (by omega) (by omega) (by omega)).mono ?_
  rintro e w2 ⟨rfl, hb2⟩
  go_wp2_with fail
  refine (semi_any _).mono ?_
  rintro e w3 ⟨c3, rfl, hc3, hb3⟩
  go_wp2_with fail
  refine (safe_at _ _ _ _ _ _ _ hc3 hsh (by omega) (by omega) (by omega) (by omega) (by omega) (by omega)).mono ?_
  rintro e w4 ⟨rfl, hb4⟩
  go_wp2_with fail
  refine (semi_any _).mono ?_
  rintro e w5 ⟨c5, rfl, hc5, hb5⟩
  go_wp2_with fail
  refine (due_s _ _ hc5).mono ?_
  rintro e w6 ⟨rfl, hb6⟩
  go_wp2
  go_ret
  have e2 := hb1.trans (hb2.mono hb1.size)
  have e3 := e2.trans (hb3.mono e2.size)
  have e4 := e3.trans (hb4.mono e3.size)
  have e5 := e4.trans (hb5.mono e4.size)
  exact ⟨rbool (by first | rfl | simp), e5.trans (hb6.mono e5.size)⟩

theorem up_at (a s z : Int) (b : Nat) (w : World) (h : Sh s z) (hb : w.cell? ⟨b, 0, none⟩ = some (.int .i64 s)) (ha : 0 ≤ a) (ha2 : a ≤ 100000) :
    Calls Try.prog 22 #[.int .i64 a, .pointer (some ⟨b, 0, none⟩)] w fun e w' => e = .returned (.int .i64 ((a + z - 1) / z)) ∧ w = w' := by
  rcases h with ⟨rfl, rfl⟩ | ⟨rfl, rfl⟩ | ⟨rfl, rfl⟩ | ⟨rfl, rfl⟩ | ⟨rfl, rfl⟩ | ⟨rfl, rfl⟩
  all_goals
    go_enter Try.func22, Try.ntmps22
    go_wp2_with fail
    go_ret
    exact ⟨rint rfl, rfl⟩

end Go.Proofs.Ytchdmemgkegefaa
