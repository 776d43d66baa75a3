/- A configuration that came in, read as one. No condition. -/
import Derived.Test.YtchdmemgkegefaaOpen
import Derived.Test.YtchdmemgkegefaaCfgC
import Derived.Test.YtchdmemgkegefaaRows
namespace Go.Proofs.Ytchdmemgkegefaa
open Go.RowKit Go.ChangeShapes Go.WideShapes Go.Deep

def fltE : El Nat := flat 1 (fun x => [.float .f64 x]) fun _ => rfl
theorem opens_flt {t : TypeId} (ht : Try.prog.underlying t = some (.float .f64)) : Opens Try.prog t fltE fun _ => True := by
  intro H enc w base spare held fuel cs x h
  cases fuel with
  | zero => simp [DataW.trod] at h
  | succ n =>
    unfold DataW.trod at h
    rw [ht] at h
    split at h <;> simp_all [fltE, flat]
theorem opens_num : Opens Try.prog 3 (numE .i64) fun z => (Lit.int .i64 z).wf = true := Opens.int Try.underlying3
theorem opens_rule : ∃ ok, Opens Try.prog 67 (pairE fltE (pairE (numE .i64) (pairE (numE .i64) (pairE (numE .i64) unitE)))) ok :=
  ⟨_, Opens.struct Try.underlying67 (by kernel_rfl) (.cons rfl (by kernel_rfl) (opens_flt Try.underlying65) (.cons rfl (by kernel_rfl) opens_num (.cons rfl (by kernel_rfl) opens_num (.cons rfl (by kernel_rfl) opens_num .nil))))⟩
theorem rd_cfg {H : Type} {enc : TypeId × Value → H} {w : World} {base : Nat} {spare : Nat → Bool} {held : Bool} {cs : Array Value} {d : DataW H} {ps : List MemPlace}
    (hd : DataW.Trod enc Try.prog w base spare held 24 (.agg cs) d ps) : ∃ c : Cf, CfV w (.agg cs) c ∧ c.name.size ≤ maxLen := by
  obtain ⟨ok, ho⟩ := opens_rule
  have hsl := Opens.slice (P := Try.prog) Try.underlying22 (by kernel_rfl) (by decide) ho
  have hcf := Opens.struct (P := Try.prog) Try.underlying24 (by kernel_rfl) (.cons rfl (by kernel_rfl) (Opens.string Try.underlying9) (.cons rfl (by kernel_rfl) hsl (.cons rfl (by kernel_rfl) opens_num .nil)))
  obtain ⟨fuel, hf⟩ := hd
  obtain ⟨⟨s, rs, f, _⟩, hr, hok⟩ := hcf H enc w base spare held fuel _ _ hf
  obtain ⟨h1, ⟨h2, ⟨h3, h4, h5⟩, h6⟩, h7⟩ := hr
  obtain ⟨v, h2, hrd⟩ := h2
  have hrd2 : Rd ruleE w v (rs.map fun p => ⟨p.1, p.2.1, p.2.2.1, p.2.2.2.1⟩) := by
    refine hrd.map _ rfl ?_
    rintro ⟨p1, p2, p3, p4, _⟩ cs ⟨g1, ⟨g2, ⟨g3, ⟨g4, g5, _⟩, _⟩, _⟩, hl⟩
    match cs, hl with
    | [c0, c1, c2, c3], _ =>
      simp [numE, fltE, flat] at g1 g2 g3 g4
      simp [ruleE, flat, Rl.cells, g1, g2, g3, g4]
  refine ⟨⟨s, rs.map fun p => ⟨p.1, p.2.1, p.2.2.1, p.2.2.2.1⟩, f⟩, ⟨v, ?_, hrd2⟩, hok.1⟩
  simp only [Value.cells] at h1 h2 h3 h4 h5 h6 h7
  obtain ⟨l⟩ := cs
  match l, h7 with
  | [c0, c1, c2], _ =>
    simp [strE, numE, sliceE, flat] at h1 h2 h3
    simp [h1, h2, h3]
end Go.Proofs.Ytchdmemgkegefaa
