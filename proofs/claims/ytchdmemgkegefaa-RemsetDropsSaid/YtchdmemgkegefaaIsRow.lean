/- A slice of integers that came in, as a list. -/
import Derived.Test.YtchdmemgkegefaaDeck
import Derived.ChangeSlices
namespace Go.Proofs.Ytchdmemgkegefaa
open Go.RowKit

/-- what is known of a slice of integers that came in: nil, or a row of cap cells of which the first len are its elements -/
def IsRow (k : IntKind) (w : World) (a : Option Addr) (len cap : Nat) (zs : List Int) : Prop :=
  (a = none ∧ len = 0 ∧ cap = 0 ∧ zs = []) ∨
  ∃ x, a = some x ∧ len ≤ cap ∧ cap ≤ maxLen ∧ zs.length = cap ∧ (∀ i, i < zs.length → w.cell? (x.add i) = some (.int k (zs.getD i 0))) ∧ ∀ n ∈ zs, (Lit.int k n).wf = true

theorem rd_row {k : IntKind} {w : World} {a : Option Addr} {len cap : Nat} {zs : List Int} (h : IsRow k w a len cap zs) :
    ∃ l : List Int, Rd (flat 1 (fun x => [.int k x]) fun _ => rfl) w (.slice a len cap) l ∧ ∀ x ∈ l, (Lit.int k x).wf = true := by
  rcases h with ⟨rfl, rfl, rfl, rfl⟩ | ⟨x, rfl, h1, h2, h3, h4, h5⟩
  · exact ⟨[], Rd.nil _ _, by simp⟩
  · have hl : (zs.take len).length = len := by rw [List.length_take]; omega
    refine ⟨zs.take len, ⟨some x, cap, by rw [hl], by omega, h2, ?_⟩, fun y hy => h5 y (List.mem_of_mem_take hy)⟩
    by_cases h0 : len = 0
    · exact .inl (by rw [h0]; rfl)
    · obtain ⟨b, off, spot⟩ := x
      have hc := h4 0 (by omega)
      have hspot : spot = none := by simpa [Addr.add] using World.cell?_spot hc
      subst hspot
      refine .inr ⟨b, off, rfl, fun i hi => ⟨_, rfl, fun j hj => ?_⟩⟩
      have : j = 0 := by change j < 1 at hj; omega
      subst this
      change w.cell? ⟨b, off + i * 1 + 0, none⟩ = _
      rw [hl] at hi
      have hadd : (⟨b, off, none⟩ : Addr).add i = ⟨b, off + i, none⟩ := by unfold Addr.add; split <;> simp_all
      have := h4 i (by omega)
      rw [hadd] at this
      rw [Nat.mul_one, Nat.add_zero, this, List.getElem_take]
      simp [List.getD, show i < zs.length by omega]

theorem rd_i64 {w : World} {a : Option Addr} {len cap : Nat} {zs : List Int} (h : IsRow .i64 w a len cap zs) : ∃ l : List Int, Rd i64E w (.slice a len cap) l ∧ ∀ x ∈ l, I64 x := by
  obtain ⟨l, h1, h2⟩ := rd_row h
  refine ⟨l, h1, fun x hx => ?_⟩
  have := h2 x hx
  simp [Lit.wf, IntKind.min, IntKind.max, IntKind.bits, IntKind.signed] at this
  unfold I64
  omega
theorem rd_u8 {w : World} {a : Option Addr} {len cap : Nat} {zs : List Int} (h : IsRow .u8 w a len cap zs) : ∃ l : List Int, Rd (flat 1 (fun x => [.int .u8 x]) fun _ => rfl) w (.slice a len cap) l ∧ ∀ x ∈ l, 0 ≤ x ∧ x ≤ 255 := by
  obtain ⟨l, h1, h2⟩ := rd_row h
  refine ⟨l, h1, fun x hx => ?_⟩
  have := h2 x hx
  simp [Lit.wf, IntKind.min, IntKind.max, IntKind.bits, IntKind.signed] at this
  omega
end Go.Proofs.Ytchdmemgkegefaa
