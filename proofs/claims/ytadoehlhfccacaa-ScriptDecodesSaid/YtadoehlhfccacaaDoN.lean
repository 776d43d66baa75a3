/- The region of Do that puts a node into a box: what its operations leave. -/
import Derived.Test.YtadoehlhfccacaaReg3
namespace Go.Proofs.Ytadoehlhfccacaa
open Go.RowKit
set_option linter.unusedVariables false

/-! region 41: the node of the first operand, in a box -/
def DnF (b6 nq ri : Nat) (wz : Nat) (x : Int) (nv nv' agin xa xb : Value) : Nat → Act → World → Prop
  | 0, a, _ => a.tmps[163]? = some (.pointer (some ⟨wz, 0, none⟩))
  | 1, a, _ => a.tmps[164]? = some nv
  | 2, a, _ => a.tmps[165]? = some agin
  | 3, a, _ => a.tmps[166]? = some (.pointer (some ⟨wz + 1, 1, none⟩))
  | 4, a, _ => a.tmps[167]? = some (.int .i64 x)
  | 5, a, _ => a.tmps[168]? = some (.int .i64 ri)
  | 6, a, _ => a.tmps[169]? = some (.pointer (some ⟨nq, ri * 2, none⟩))
  | 7, a, _ => a.tmps[170]? = some (.agg #[xa, xb])
  | 8, a, W => ∃ b z0 z1, a.tmps[13]? = some (.pointer (some ⟨b, 0, none⟩)) ∧ b6 ≤ b ∧ some b ≠ nv.ownBlock ∧ some b ≠ nv'.ownBlock ∧ W.heap[b]? = some (.cells #[z0, z1] 64 (0, 0))
  | 9, a, W => ∃ b, a.tmps[13]? = some (.pointer (some ⟨b, 0, none⟩)) ∧ b6 ≤ b ∧ some b ≠ nv.ownBlock ∧ some b ≠ nv'.ownBlock ∧ W.heap[b]? = some (.cells #[xa, xb] 64 (0, 0))
  | _, _, _ => True
def dnLoc : Nat → List Nat | 0 => [163] | 1 => [164] | 2 => [165] | 3 => [166] | 4 => [167] | 5 => [168] | 6 => [169] | 7 => [170] | 8 => [13] | 9 => [13] | _ => []
def DnE (i : Nat) (W W' : World) : Prop := Gn W W' ∧ (i ≠ 9 → Gw W W')
theorem DnF.loc (b6 nq ri : Nat) (wz : Nat) (x : Int) (nv nv' agin xa xb : Value) : ∀ j a d v w, d ∉ dnLoc j → DnF b6 nq ri wz x nv nv' agin xa xb j a w → DnF b6 nq ri wz x nv nv' agin xa xb j (a.put (some d) v) w := by
  intro j a d v w hd h
  match j with
  | 0 | 1 | 2 | 3 | 4 | 5 | 6 | 7 | 8 | 9 =>
    simp only [dnLoc, List.mem_singleton] at hd
    simp only [DnF] at h ⊢
    rw [put_same hd]
    exact h
  | _ + 10 => trivial
theorem DnF.stab (b6 nq ri : Nat) (wz : Nat) (x : Int) (nv nv' agin xa xb : Value) : ∀ i j a W W', i ≠ j → DnE i W W' → DnF b6 nq ri wz x nv nv' agin xa xb j a W → DnF b6 nq ri wz x nv nv' agin xa xb j a W' := by
  intro i j a W W' hij he h
  match j with
  | 0 | 1 | 2 | 3 | 4 | 5 | 6 | 7 => exact h
  | 8 =>
    obtain ⟨b, z0, z1, h1, h2, h3, h4, h5⟩ := h
    rcases he.1.2 b _ h5 with h6 | ⟨_, _, y0, y1, _, h6⟩
    · exact ⟨b, z0, z1, h1, h2, h3, h4, h6⟩
    · exact ⟨b, y0, y1, h1, h2, h3, h4, h6⟩
  | 9 =>
    obtain ⟨b, h1, h2, h3, h4, h5⟩ := h
    exact ⟨b, h1, h2, h3, h4, by rw [he.2 hij b (block_lt h5)]; exact h5⟩
  | _ + 10 => trivial

end Go.Proofs.Ytadoehlhfccacaa
