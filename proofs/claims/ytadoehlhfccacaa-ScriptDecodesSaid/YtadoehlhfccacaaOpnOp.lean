/- Operations that came in as a slice, read as a list. No condition. -/
import Derived.Test.YtadoehlhfccacaaOpen
import Derived.Test.YtadoehlhfccacaaEnc
import Derived.Test.YtadoehlhfccacaaRows
namespace Go.Proofs.Ytadoehlhfccacaa
open Go.RowKit Go.ChangeShapes Go.WideShapes Go.Deep

theorem i64_of_wf {z : Int} (h : (Lit.int .i64 z).wf = true) : -9223372036854775808 ≤ z ∧ z ≤ 9223372036854775807 := by
  simp [Lit.wf, IntKind.min, IntKind.max, IntKind.bits, IntKind.signed] at h
  omega
theorem opens_i64 : Opens Try.prog 3 (numE .i64) fun z => (Lit.int .i64 z).wf = true := Opens.int Try.underlying3
theorem opens_op : ∃ ok, Opens Try.prog 35 (pairE (numE .i64) (pairE (numE .i64) (pairE (numE .i64) (pairE (numE .i64) unitE)))) ok ∧
    ∀ p, ok p → (Op4.mk p.1 p.2.1 p.2.2.1 p.2.2.2.1).I :=
  ⟨_, Opens.struct Try.underlying35 (by kernel_rfl) (.cons rfl (by kernel_rfl) opens_i64 (.cons rfl (by kernel_rfl) opens_i64 (.cons rfl (by kernel_rfl) opens_i64 (.cons rfl (by kernel_rfl) opens_i64 .nil)))),
    fun _ ⟨h1, h2, h3, h4, _⟩ => ⟨i64_of_wf h1, i64_of_wf h2, i64_of_wf h3, i64_of_wf h4⟩⟩
theorem rd_ops {H : Type} {enc : TypeId × Value → H} {w : World} {base : Nat} {spare : Nat → Bool} {held : Bool} {a : Option Addr} {l c : Nat} {d : DataW H} {ps : List MemPlace}
    (hd : DataW.Trod enc Try.prog w base spare held 25 (.slice a l c) d ps) : ∃ os : List Op4, Rd op4E w (.slice a l c) os ∧ ∀ o ∈ os, o.I := by
  obtain ⟨ok, ho, hok⟩ := opens_op
  obtain ⟨xs, hr, hx⟩ := opens_arg (Opens.slice Try.underlying25 (by kernel_rfl) (by decide) ho) hd
  refine ⟨xs.map fun p => ⟨p.1, p.2.1, p.2.2.1, p.2.2.2.1⟩, hr.map _ rfl ?_, fun o h => ?_⟩
  · rintro ⟨p1, p2, p3, p4, _⟩ cs ⟨h1, ⟨h2, ⟨h3, ⟨h4, h5, _⟩, _⟩, _⟩, hl⟩
    match cs, hl with
    | [c0, c1, c2, c3], _ =>
      simp [numE, flat] at h1 h2 h3 h4
      simp [op4E, flat, Op4.cells, h1, h2, h3, h4]
  · obtain ⟨p, hp, rfl⟩ := List.mem_map.1 h
    exact hok p (hx p hp)
end Go.Proofs.Ytadoehlhfccacaa
