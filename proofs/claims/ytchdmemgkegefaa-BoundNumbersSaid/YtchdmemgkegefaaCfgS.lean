/- The semispace configuration: what the program says of it. -/
import Derived.Test.YtchdmemgkegefaaMod
import Derived.Deep.QuietTactic
import Derived.BigQuiet
import Derived.Deep.RegionHeld3
namespace Go.Proofs.Ytchdmemgkegefaa
open Go.RowKit

set_option maxHeartbeats 1000000 in
theorem named_s (w : World) : Calls Try.prog 81 #[.string ⟨#[115]⟩] w fun e w' => e = .returned (.bool true) ∧ Below w.heap.size w w' := by
  have h115 : ((⟨#[115]⟩ : ByteArray)[0]'(by decide)).toNat = 115 := rfl
  have hn0 := run_next_ascii (P := Try.prog) w ⟨#[115]⟩ 0 0 (by decide) (by decide)
  have hn1 := run_next_end (P := Try.prog) w ⟨#[115]⟩ 1 0 (by decide)
  go_enter Try.func81, Try.ntmps81
  go_wp2
  refine wp_loop_rounds 2 ?_
  rw [rounds_succ]
  go_wp2
  rw [rounds_succ]
  go_wp2
  go_ret
  exact ⟨rfl, (Below.refl _ _).alloc (Nat.le_refl _) _⟩

theorem bcell {W w1 : World} (hb : Below W.heap.size W w1) : (∀ b o, b < W.heap.size → w1.cell? ⟨b, o, none⟩ = W.cell? ⟨b, o, none⟩) ∧ (∀ b o, b < W.heap.size → w1.frozen? ⟨b, o, none⟩ = W.frozen? ⟨b, o, none⟩) :=
  ⟨fun b o h => hb.cell (p := ⟨b, o, none⟩) h, fun b o h => hb.frozen (p := ⟨b, o, none⟩) h⟩

@[go_sem] theorem run_store_float {P : Program} (w : World) (a : Addr) (k : FloatKind) (n : Nat) (m : Mode) : (store a (.float k n) m).run P w = stored P w a (.float k n) m := run_store P w a _ m rfl

theorem f64bits (b : Nat) (w : World) : Sem.run Try.prog (callFunc 101 #[Value.float .f64 b]) w = .ok (.value (.int .u64 b)) w := by kernel_rfl

set_option maxRecDepth 100000 in
set_option maxHeartbeats 1000000 in
theorem valid_zero (w : World) : Calls Try.prog 99 #[.float .f64 0] w fun e w' => e = .returned (.bool true) ∧ w = w' := by
  have h64 := f64bits 0
  go_enter Try.func99, Try.ntmps99
  go_wp2
  go_ret
  exact ⟨rfl, rfl⟩

/-- the value of the semispace configuration -/
def Semi (w : World) (c : Value) : Prop := ∃ g, c = .agg #[.string ⟨#[115]⟩, .slice (some ⟨g, 0, none⟩) 1 1, .int .i64 1] ∧
  w.cell? ⟨g, 0, none⟩ = some (.float .f64 0) ∧ w.cell? ⟨g, 1, none⟩ = some (.int .i64 0) ∧ w.cell? ⟨g, 2, none⟩ = some (.int .i64 0) ∧ w.cell? ⟨g, 3, none⟩ = some (.int .i64 0)

set_option maxRecDepth 100000 in
set_option maxHeartbeats 1000000 in
theorem rule_s (c : Value) (w : World) (hc : Semi w c) : Calls Try.prog 82 #[c, .int .i64 0] w fun e w' => e = .returned (.int .i64 0) ∧ Below w.heap.size w w' := by
  obtain ⟨g, rfl, h0, h1, h2, h3⟩ := hc
  have hg : g < w.heap.size := World.block_lt_of_cell? w (a := ⟨g, 0, none⟩) h0
  go_enter Try.func82, Try.ntmps82
  go_wp2_with fail
  go_region
  go_wp2_with (first | (go_at_call 99; refine (valid_zero _).mono ?_; rintro e w' ⟨rfl, rfl⟩) | go_in)
  go_ret
  refine ⟨rfl, ?_⟩
  repeat (first | exact Below.refl _ _ | refine Below.drew ?_ | refine Below.setCell ?_ (by simp) _ | refine Below.alloc ?_ (by simp) _)

set_option maxRecDepth 100000 in
set_option maxHeartbeats 1000000 in
theorem check_s (c : Value) (w : World) (hc : Semi w c) : Calls Try.prog 68 #[c] w fun e w' => e = .returned (.int .i64 0) ∧ Below w.heap.size w w' := by
  obtain ⟨g, rfl, h0, h1, h2, h3⟩ := hc
  have hg : g < w.heap.size := World.block_lt_of_cell? w (a := ⟨g, 0, none⟩) h0
  go_enter Try.func68, Try.ntmps68
  go_wp2_with (first | (go_at_call 81; refine (named_s _).mono ?_; rintro e w' ⟨rfl, hb⟩; obtain ⟨q1, q2⟩ := bcell hb))
  refine wp_loop_rounds 2 ?_
  rw [rounds_succ]
  go_wp2_with (first | (go_at_call 82; refine (rule_s _ _ ⟨g, rfl, ?_, ?_, ?_, ?_⟩).mono ?_))
  · rw [q1 _ _ (by simp; omega), World.cell?_alloc_past _ _ _ hg]; exact h0
  · rw [q1 _ _ (by simp; omega), World.cell?_alloc_past _ _ _ hg]; exact h1
  · rw [q1 _ _ (by simp; omega), World.cell?_alloc_past _ _ _ hg]; exact h2
  · rw [q1 _ _ (by simp; omega), World.cell?_alloc_past _ _ _ hg]; exact h3
  rintro e w2 ⟨rfl, hb2⟩
  obtain ⟨q3, q4⟩ := bcell hb2
  have hsz : w.heap.size + 1 ≤ w'.heap.size := by have := hb.size; simpa using this
  have hsz2 : w.heap.size < w'.heap.size := by omega
  have hg2 : g < w'.heap.size := by omega
  go_wp2
  rw [rounds_succ]
  go_wp2
  refine wp_loop_rounds 1 ?_
  rw [rounds_succ]
  go_wp2
  go_ret
  refine ⟨rfl, ?_⟩
  have e1 : Below w.heap.size w w2 := (((Below.refl _ _).alloc (Nat.le_refl _) _).trans (hb.mono (by simp))).trans (hb2.mono (by omega))
  refine e1.trans ?_
  repeat (first | exact Below.refl _ _ | refine Below.drew ?_ | refine Below.alloc ?_ (by have := hb2.size; omega) _)

set_option maxRecDepth 100000 in
set_option maxHeartbeats 1000000 in
theorem complete_s (c : Value) (w : World) (hc : Semi w c) : Calls Try.prog 46 #[c] w fun e w' => e = .returned (.bool true) ∧ Below w.heap.size w w' := by
  obtain ⟨g, rfl, h0, h1, h2, h3⟩ := hc
  have hg : g < w.heap.size := World.block_lt_of_cell? w (a := ⟨g, 0, none⟩) h0
  go_enter Try.func46, Try.ntmps46
  go_wp2_with fail
  refine (check_s _ _ ⟨g, rfl, ?_, ?_, ?_, ?_⟩).mono ?_
  · rw [World.cell?_alloc_past _ _ _ hg]; exact h0
  · rw [World.cell?_alloc_past _ _ _ hg]; exact h1
  · rw [World.cell?_alloc_past _ _ _ hg]; exact h2
  · rw [World.cell?_alloc_past _ _ _ hg]; exact h3
  rintro e w2 ⟨rfl, hb2⟩
  obtain ⟨q3, q4⟩ := bcell hb2
  have hg2 : g < w.heap.size + 1 := by omega
  go_wp2
  go_ret
  exact ⟨rfl, ((Below.refl _ _).alloc (Nat.le_refl _) _).trans (hb2.mono (by simp))⟩

def permB (s n : Int) : Bool := decide (3 ≤ s ∧ s ≤ 8 ∧ 2 ≤ n ∧ n ≤ 64)
theorem permitted_any (s n : Int) (w : World) : Calls Try.prog 45 #[.int .i64 s, .int .i64 n] w fun e w' => e = .returned (.bool (permB s n)) ∧ w = w' := by
  go_enter Try.func45, Try.ntmps45
  go_wp2
  all_goals (go_ret; refine ⟨?_, rfl⟩)
  all_goals (refine congrArg Ending.returned (congrArg Value.bool ?_); unfold permB; first | (simp_all; done) | (simp_all; intros; omega))
end Go.Proofs.Ytchdmemgkegefaa
