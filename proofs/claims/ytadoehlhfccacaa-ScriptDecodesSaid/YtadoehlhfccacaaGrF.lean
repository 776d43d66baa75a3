/- The small functions of the reference model: free, handle, node, fail; they read a graph and return. Condition: the graph is in memory, its table has 32 entries. -/
import Derived.Test.YtadoehlhfccacaaGr
import Derived.BigQuiet
import Derived.Deep.QuietTactic
namespace Go.Proofs.Ytadoehlhfccacaa
open Go.RowKit

theorem GrM.uc {w : World} {B rb : Nat} {nv uv rv : Value} {g : Gr} (h : GrM w B rb nv uv rv g) (hl : g.used.length = 32) :
    ∃ na nc ub uc rc, nv = .slice na g.nodes.length nc ∧ uv = .slice (some ⟨ub, 0, none⟩) 32 uc ∧ rv = .slice (some ⟨rb, 0, none⟩) g.roots.length rc ∧ 32 ≤ uc ∧ B ≤ ub ∧ ub < w.heap.size ∧
      ∀ k, k < 32 → w.cell? ⟨ub, k, none⟩ = some (.bool (g.used.getD k false)) ∧ w.frozen? ⟨ub, k, none⟩ = false := by
  obtain ⟨na, nc, ua, uc, rc, h1, h2, h3⟩ := h.forms
  have hk0 : 0 < g.used.length := by omega
  obtain ⟨q, c, e, hc, hm, hB, hlt, _⟩ := h.used.at1 hk0
  refine ⟨na, nc, q, c, rc, h1, by rw [e, hl], h3, by omega, hB, hlt, fun k hk => ?_⟩
  have hk' : k < g.used.length := by omega
  obtain ⟨q', c', e', _, _, _, _, h6, h7⟩ := h.used.at1 hk'
  rw [e] at e'
  simp only [Value.slice.injEq, Option.some.injEq, Addr.mk.injEq, and_true, true_and] at e'
  obtain ⟨rfl, rfl⟩ := e'
  exact ⟨by rw [h6]; simp [hk'], h7⟩
theorem GrM.rc {w : World} {B rb : Nat} {nv uv rv : Value} {g : Gr} (h : GrM w B rb nv uv rv g) (hl : g.roots.length = 32) :
    ∃ rc, rv = .slice (some ⟨rb, 0, none⟩) 32 rc ∧ 32 ≤ rc ∧ B ≤ rb ∧ rb < w.heap.size ∧ ∀ k, k < 32 → w.cell? ⟨rb, k, none⟩ = some (.int .i64 (g.roots.getD k 0)) ∧ w.frozen? ⟨rb, k, none⟩ = false := by
  obtain ⟨na, nc, ua, uc, rc, h1, h2, h3⟩ := h.forms
  have hk0 : 0 < g.roots.length := by omega
  obtain ⟨q, c, e, hc, hm, hB, hlt, _⟩ := h.roots.at1 hk0
  rw [h3] at e
  simp only [Value.slice.injEq, Option.some.injEq, Addr.mk.injEq, and_true, true_and] at e
  obtain ⟨rfl, rfl⟩ := e
  refine ⟨rc, by rw [h3, hl], by omega, hB, hlt, fun k hk => ?_⟩
  have hk' : k < g.roots.length := by omega
  obtain ⟨q', c', e', _, _, _, _, h6, h7⟩ := h.roots.at1 hk'
  rw [h3] at e'
  simp only [Value.slice.injEq, Option.some.injEq, Addr.mk.injEq, and_true, true_and] at e'
  obtain ⟨rfl, rfl⟩ := e'
  exact ⟨by rw [h6]; simp [hk'], h7⟩

theorem node_nil (w : World) (B rb : Nat) (nv uv rv : Value) (g : Gr) (hg : GrM w B rb nv uv rv g) :
    Calls Try.prog 29 #[.agg #[nv, uv, rv], .int .i64 0] w fun e w' => e = .returned (.int .i64 (-1)) ∧ Below w.heap.size w w' := by
  obtain ⟨na, nc, ub, uc, rc, rfl, rfl, rfl⟩ := hg.forms
  clear hg
  go_enter Try.func29, Try.ntmps29
  go_wp2
  go_ret
  exact ⟨rfl, (Below.refl _ _).alloc (Nat.le_refl _) _⟩
set_option maxHeartbeats 400000 in
theorem node_at (w : World) (B rb : Nat) (nv uv rv : Value) (g : Gr) (hg : GrM w B rb nv uv rv g) (hl : g.roots.length = 32) (k : Nat) (hk : k < 32) (r : Int) (hr : g.roots.getD k 0 = r) :
    Calls Try.prog 29 #[.agg #[nv, uv, rv], .int .i64 ((k : Int) + 1)] w fun e w' => e = .returned (.int .i64 r) ∧ Below w.heap.size w w' := by
  obtain ⟨na, nc, ua, uc, _, rfl, rfl, hj⟩ := hg.forms
  clear hj
  obtain ⟨rc, rfl, hrc, hB, hlt, hc⟩ := hg.rc hl
  have c0 := (hc k hk).1
  rw [hr] at c0
  have hlt2 : rb < w.heap.size + 1 := by omega
  have hz : ((k : Int) + 1 == 0) = false := by rw [beq_eq_false_iff_ne]; omega
  generalize g.nodes.length = nl
  generalize g.used.length = ul
  clear hg hc hr hl
  go_enter Try.func29, Try.ntmps29
  go_wp2
  go_ret
  exact ⟨rfl, (Below.refl _ _).alloc (Nat.le_refl _) _⟩
theorem node_any (w : World) (B rb : Nat) (nv uv rv : Value) (g : Gr) (hg : GrM w B rb nv uv rv g) (hl : g.roots.length = 32) (x r : Int) (h : (x = 0 ∧ r = -1) ∨ (1 ≤ x ∧ x ≤ 32 ∧ g.roots.getD (x - 1).toNat 0 = r)) :
    Calls Try.prog 29 #[.agg #[nv, uv, rv], .int .i64 x] w fun e w' => e = .returned (.int .i64 r) ∧ Below w.heap.size w w' := by
  rcases h with ⟨rfl, rfl⟩ | ⟨h1, h2, h3⟩
  · exact node_nil w B rb nv uv rv g hg
  · obtain ⟨k, hk1⟩ := Int.eq_ofNat_of_zero_le (show 0 ≤ x - 1 by omega)
    obtain rfl : x = (k : Int) + 1 := by omega
    exact node_at w B rb nv uv rv g hg hl k (by omega) r (by rw [← h3]; congr 1; omega)

def HandleOk (g : Gr) (x : Int) (need : Bool) (r : Int) : Prop := r = 0 → (x = 0 ∧ need = false) ∨ (1 ≤ x ∧ x ≤ 32 ∧ g.used.getD (x - 1).toNat false = true)
set_option maxHeartbeats 400000 in
theorem handle_any (w : World) (B rb : Nat) (nv uv rv : Value) (g : Gr) (hg : GrM w B rb nv uv rv g) (hl : g.used.length = 32) (x : Int) (need : Bool) (hx0 : -1000 ≤ x) (hx1 : x ≤ 1000) :
    Calls Try.prog 28 #[.agg #[nv, uv, rv], .int .i64 x, .bool need] w fun e w' => ∃ r : Int, e = .returned (.int .i64 r) ∧ HandleOk g x need r ∧ Below w.heap.size w w' := by
  obtain ⟨na, nc, ub, uc, rc, rfl, rfl, rfl, huc, hB, hlt, hc⟩ := hg.uc hl
  clear hg hl
  generalize g.nodes.length = nl
  generalize g.roots.length = rl
  by_cases hx : x = 0
  · subst hx
    clear hc
    cases need with
    | true =>
      go_enter Try.func28, Try.ntmps28
      go_wp2
      go_ret
      exact ⟨16, rfl, fun e => by omega, (Below.refl _ _).alloc (Nat.le_refl _) _⟩
    | false =>
      go_enter Try.func28, Try.ntmps28
      go_wp2
      go_ret
      exact ⟨0, rfl, fun _ => .inl ⟨rfl, rfl⟩, (Below.refl _ _).alloc (Nat.le_refl _) _⟩
  · have hz : (x == 0) = false := by simpa using hx
    by_cases hlo : x < 0
    · have hlo' : decide (x < 0) = true := by simpa using hlo
      clear hc
      go_enter Try.func28, Try.ntmps28
      go_wp2
      go_ret
      exact ⟨14, rfl, fun e => by omega, (Below.refl _ _).alloc (Nat.le_refl _) _⟩
    · have hlo' : decide (x < 0) = false := by simpa using hlo
      by_cases hhi : 32 < x
      · have hhi' : decide (32 < x) = true := by simpa using hhi
        clear hc
        go_enter Try.func28, Try.ntmps28
        go_wp2
        go_ret
        exact ⟨14, rfl, fun e => by omega, (Below.refl _ _).alloc (Nat.le_refl _) _⟩
      · have hhi' : decide (32 < x) = false := by simpa using hhi
        obtain ⟨k, hk1⟩ := Int.eq_ofNat_of_zero_le (show 0 ≤ x - 1 by omega)
        obtain rfl : x = (k : Int) + 1 := by omega
        clear hk1
        have hk : k < 32 := by omega
        have c0 := (hc k hk).1
        have hub : ub < w.heap.size + 1 := by omega
        clear hc hx
        cases hb : g.used.getD k false with
        | true =>
          rw [hb] at c0
          have HB := Lib.hid hb
          clear hb
          go_enter Try.func28, Try.ntmps28
          go_wp2
          go_ret
          refine ⟨0, rfl, fun _ => .inr ⟨by omega, by omega, ?_⟩, (Below.refl _ _).alloc (Nat.le_refl _) _⟩
          rw [show ((k : Int) + 1 - 1).toNat = k by omega]
          exact HB.out
        | false =>
          rw [hb] at c0
          clear hb
          go_enter Try.func28, Try.ntmps28
          go_wp2
          go_ret
          exact ⟨14, rfl, fun e => by omega, (Below.refl _ _).alloc (Nat.le_refl _) _⟩

set_option maxHeartbeats 400000 in
theorem free_any (w : World) (B rb : Nat) (nv uv rv : Value) (g : Gr) (hg : GrM w B rb nv uv rv g) (hl : g.used.length = 32) :
    Calls Try.prog 26 #[.agg #[nv, uv, rv]] w fun e w' => ∃ r : Nat, e = .returned (.int .i64 r) ∧ r ≤ 32 ∧ Below w.heap.size w w' := by
  obtain ⟨na, nc, ub, uc, rc, rfl, rfl, rfl, huc, hB, hlt, hc⟩ := hg.uc hl
  have HC := Lib.hid hc
  clear hg hc
  generalize g.nodes.length = nl
  generalize g.roots.length = rl
  go_enter Try.func26, Try.ntmps26
  go_wp2
  go_loop [8] (fun i => ∃ k : Nat, k ≤ 32 ∧ i = .int .i64 k) (fun i => 32 - (intOf i).toNat)
  case atStart => exact ⟨0, by omega, rfl⟩
  case round =>
    obtain ⟨k, hk, rfl⟩ := hrel
    by_cases hlt2 : k < 32
    · have c0 := (HC.out k hlt2).1
      generalize g.used.getD k false = b at c0
      have hub : ub < w.heap.size + 1 := by omega
      cases b with
      | true =>
        go_wp2
        go_round
        case rel => exact ⟨k + 1, by omega, by go_num⟩
        case measure => simp [intOf]; omega
      | false =>
        go_wp2
        go_ret
        exact ⟨k + 1, by simp, by omega, (Below.refl _ _).alloc (Nat.le_refl _) _⟩
    · go_wp2
      go_ret
      exact ⟨0, rfl, by omega, (Below.refl _ _).alloc (Nat.le_refl _) _⟩

theorem fail_any (w : World) (nv uv rv : Value) (h1 : ∃ a l c, nv = .slice a l c) (h2 : ∃ a l c, uv = .slice a l c) (h3 : ∃ a l c, rv = .slice a l c) (x : Int) :
    Calls Try.prog 25 #[.agg #[nv, uv, rv], .int .i64 x] w fun e w' => e = .returned (.tuple #[.agg #[nv, uv, rv], .agg #[.int .i64 x, .int .u64 0]]) ∧ Below w.heap.size w w' := by
  obtain ⟨_, _, _, rfl⟩ := h1
  obtain ⟨_, _, _, rfl⟩ := h2
  obtain ⟨_, _, _, rfl⟩ := h3
  go_enter Try.func25, Try.ntmps25
  go_wp2
  refine bodyPost_ret (v := .tuple #[.agg #[_, _, _], .agg #[.int .i64 x, .int .u64 0]]) (by simp [results, Try.results25, go_sem]) rfl ⟨rfl, ?_⟩
  repeat (first | exact Below.refl _ _ | refine bset ?_ (by simp) _ | refine Below.alloc ?_ (by first | exact Nat.le_refl _ | (simp; done) | (simp; omega)) _)
end Go.Proofs.Ytadoehlhfccacaa
