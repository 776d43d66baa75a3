/-
  No cell of these rows narrows 'for every input' (looked for: loops, veiled, ifaces, maps, wideKeys, modest, calm, conditions, laid).
  DERIVED. THE GIVEN ROWS OF THIS SEAT. 8 by the template 'for every input the law returns true; each argument reads behind the call as it read before'; 0 by the template 'total and deterministic' (their statements: YtbidedbpmhcoaaaTotals.lean).
  GIVEN WITH THE SEED: the statements are not yours to turn. If you find one false, say at which input.
  Laid BY PROGRAM, IN A SANDBOX (cutbox-rows.mjs): the forced cells as the released guide's own fill.sh prints them over the translation a0d0d527a2c6a88d… (all of the seat's roots in one cut). By AI agents, Wed Nov 11 2026. No macro, syntax, notation, axiom, sorry.
-/
import Derived.Test.YtbidedbpmhcoaaaChecked
import GoSem.Claim
import GoSem.ClaimJoined
import GoSem.ClaimMapViews
import Derived.JoinedTies
import Derived.KernelRfl
namespace Go.Proofs.Ytbidedbpmhcoaaa
/- THE CELL 'sum', in the pinned program and in every row, IS THE sha256 OF THE DUMP (.gsa) THAT YtbidedbpmhcoaaaProg.lean LOADS. Nothing in Lean hashes anything: it is a label: what it is worth is what the hold of that sum in a sandbox is worth. -/
noncomputable def Try.pinned : Pinned := { name := "ytbidedbpmhcoaaa", sum := "a0d0d527a2c6a88df1f4e3aeeebaf1707f76733410a6ab22cc472307aa64079a", checked := Try.checked }
namespace Rows
def none {H : Type} : Left H := { results := [], args := [] }

/-- 'beltwaylaw08.ObjectMakes': WHATEVER THE INPUT: true; the input reads as it did. -/
def objectMakesSpec : ChangeSpec := { name := "objectMakes", fn := fun _ => fun
  | [d1, d2, d3, d4, d5, d6, d7, d8] => { results := [.lit (.bool true)], args := [d1, d2, d3, d4, d5, d6, d7, d8] }
  | _ => none }
def objectMakesRow : OpenClaim := { program := "ytbidedbpmhcoaaa", sum := "a0d0d527a2c6a88df1f4e3aeeebaf1707f76733410a6ab22cc472307aa64079a", func := "beltway/beltwaylaw08.ObjectMakes", spec := "objectMakes", unfollowed := true, recurses := true, apart := false }
def ObjectMakesSaid : Prop := objectMakesRow.holds Try.pinned (OpenSpec.ofChange objectMakesSpec)

/-- ITS FALSE NEIGHBOUR: 'it returns false'. Refute it at one input. -/
def objectMakesWrong : ChangeSpec := { name := "objectMakes", fn := fun _ => fun
  | [d1, d2, d3, d4, d5, d6, d7, d8] => { results := [.lit (.bool false)], args := [d1, d2, d3, d4, d5, d6, d7, d8] }
  | _ => none }
def ObjectMakesWrongFalsely : Prop := objectMakesRow.holds Try.pinned (OpenSpec.ofChange objectMakesWrong)

/-- 'beltwaylaw08.ObjectShapes': WHATEVER THE INPUT: true; the input reads as it did. -/
def objectShapesSpec : ChangeSpec := { name := "objectShapes", fn := fun _ => fun
  | [d1, d2, d3, d4, d5, d6] => { results := [.lit (.bool true)], args := [d1, d2, d3, d4, d5, d6] }
  | _ => none }
def objectShapesRow : OpenClaim := { program := "ytbidedbpmhcoaaa", sum := "a0d0d527a2c6a88df1f4e3aeeebaf1707f76733410a6ab22cc472307aa64079a", func := "beltway/beltwaylaw08.ObjectShapes", spec := "objectShapes", unfollowed := true, recurses := true, apart := false }
def ObjectShapesSaid : Prop := objectShapesRow.holds Try.pinned (OpenSpec.ofChange objectShapesSpec)

/-- ITS FALSE NEIGHBOUR: 'it returns false'. Refute it at one input. -/
def objectShapesWrong : ChangeSpec := { name := "objectShapes", fn := fun _ => fun
  | [d1, d2, d3, d4, d5, d6] => { results := [.lit (.bool false)], args := [d1, d2, d3, d4, d5, d6] }
  | _ => none }
def ObjectShapesWrongFalsely : Prop := objectShapesRow.holds Try.pinned (OpenSpec.ofChange objectShapesWrong)

/-- 'beltwaylaw08.ObjectFields': WHATEVER THE INPUT: true; the input reads as it did. -/
def objectFieldsSpec : ChangeSpec := { name := "objectFields", fn := fun _ => fun
  | [d1, d2, d3, d4, d5, d6, d7, d8] => { results := [.lit (.bool true)], args := [d1, d2, d3, d4, d5, d6, d7, d8] }
  | _ => none }
def objectFieldsRow : OpenClaim := { program := "ytbidedbpmhcoaaa", sum := "a0d0d527a2c6a88df1f4e3aeeebaf1707f76733410a6ab22cc472307aa64079a", func := "beltway/beltwaylaw08.ObjectFields", spec := "objectFields", unfollowed := true, recurses := true, apart := false }
def ObjectFieldsSaid : Prop := objectFieldsRow.holds Try.pinned (OpenSpec.ofChange objectFieldsSpec)

/-- ITS FALSE NEIGHBOUR: 'it returns false'. Refute it at one input. -/
def objectFieldsWrong : ChangeSpec := { name := "objectFields", fn := fun _ => fun
  | [d1, d2, d3, d4, d5, d6, d7, d8] => { results := [.lit (.bool false)], args := [d1, d2, d3, d4, d5, d6, d7, d8] }
  | _ => none }
def ObjectFieldsWrongFalsely : Prop := objectFieldsRow.holds Try.pinned (OpenSpec.ofChange objectFieldsWrong)

/-- 'beltwaylaw08.ObjectFresh': WHATEVER THE INPUT: true; the input reads as it did. -/
def objectFreshSpec : ChangeSpec := { name := "objectFresh", fn := fun _ => fun
  | [d1, d2, d3] => { results := [.lit (.bool true)], args := [d1, d2, d3] }
  | _ => none }
def objectFreshRow : OpenClaim := { program := "ytbidedbpmhcoaaa", sum := "a0d0d527a2c6a88df1f4e3aeeebaf1707f76733410a6ab22cc472307aa64079a", func := "beltway/beltwaylaw08.ObjectFresh", spec := "objectFresh", unfollowed := true, recurses := true, apart := false }
def ObjectFreshSaid : Prop := objectFreshRow.holds Try.pinned (OpenSpec.ofChange objectFreshSpec)

/-- ITS FALSE NEIGHBOUR: 'it returns false'. Refute it at one input. -/
def objectFreshWrong : ChangeSpec := { name := "objectFresh", fn := fun _ => fun
  | [d1, d2, d3] => { results := [.lit (.bool false)], args := [d1, d2, d3] }
  | _ => none }
def ObjectFreshWrongFalsely : Prop := objectFreshRow.holds Try.pinned (OpenSpec.ofChange objectFreshWrong)

/-- 'beltwaylaw08.ObjectKeeps': WHATEVER THE INPUT: true; the input reads as it did. -/
def objectKeepsSpec : ChangeSpec := { name := "objectKeeps", fn := fun _ => fun
  | [d1, d2, d3, d4, d5] => { results := [.lit (.bool true)], args := [d1, d2, d3, d4, d5] }
  | _ => none }
def objectKeepsRow : OpenClaim := { program := "ytbidedbpmhcoaaa", sum := "a0d0d527a2c6a88df1f4e3aeeebaf1707f76733410a6ab22cc472307aa64079a", func := "beltway/beltwaylaw08.ObjectKeeps", spec := "objectKeeps", unfollowed := true, recurses := true, apart := false }
def ObjectKeepsSaid : Prop := objectKeepsRow.holds Try.pinned (OpenSpec.ofChange objectKeepsSpec)

/-- ITS FALSE NEIGHBOUR: 'it returns false'. Refute it at one input. -/
def objectKeepsWrong : ChangeSpec := { name := "objectKeeps", fn := fun _ => fun
  | [d1, d2, d3, d4, d5] => { results := [.lit (.bool false)], args := [d1, d2, d3, d4, d5] }
  | _ => none }
def ObjectKeepsWrongFalsely : Prop := objectKeepsRow.holds Try.pinned (OpenSpec.ofChange objectKeepsWrong)

/-- 'beltwaylaw08.ObjectApart': WHATEVER THE INPUT: true; the input reads as it did. -/
def objectApartSpec : ChangeSpec := { name := "objectApart", fn := fun _ => fun
  | [d1, d2, d3, d4, d5] => { results := [.lit (.bool true)], args := [d1, d2, d3, d4, d5] }
  | _ => none }
def objectApartRow : OpenClaim := { program := "ytbidedbpmhcoaaa", sum := "a0d0d527a2c6a88df1f4e3aeeebaf1707f76733410a6ab22cc472307aa64079a", func := "beltway/beltwaylaw08.ObjectApart", spec := "objectApart", unfollowed := true, recurses := true, apart := false }
def ObjectApartSaid : Prop := objectApartRow.holds Try.pinned (OpenSpec.ofChange objectApartSpec)

/-- ITS FALSE NEIGHBOUR: 'it returns false'. Refute it at one input. -/
def objectApartWrong : ChangeSpec := { name := "objectApart", fn := fun _ => fun
  | [d1, d2, d3, d4, d5] => { results := [.lit (.bool false)], args := [d1, d2, d3, d4, d5] }
  | _ => none }
def ObjectApartWrongFalsely : Prop := objectApartRow.holds Try.pinned (OpenSpec.ofChange objectApartWrong)

/-- 'beltwaylaw19.BarrierRecords': WHATEVER THE INPUT: true; the input reads as it did. -/
def barrierRecordsSpec : ChangeSpec := { name := "barrierRecords", fn := fun _ => fun
  | [d1, d2, d3, d4, d5, d6, d7, d8] => { results := [.lit (.bool true)], args := [d1, d2, d3, d4, d5, d6, d7, d8] }
  | _ => none }
def barrierRecordsRow : OpenClaim := { program := "ytbidedbpmhcoaaa", sum := "a0d0d527a2c6a88df1f4e3aeeebaf1707f76733410a6ab22cc472307aa64079a", func := "beltway/beltwaylaw19.BarrierRecords", spec := "barrierRecords", inPlace := ["slices.overlaps[beltway/api.Set]", "slices.overlaps[int]"], unfollowed := true, recurses := true, apart := false }
def BarrierRecordsSaid : Prop := barrierRecordsRow.holds Try.pinned (OpenSpec.ofChange barrierRecordsSpec)

/-- ITS FALSE NEIGHBOUR: 'it returns false'. Refute it at one input. -/
def barrierRecordsWrong : ChangeSpec := { name := "barrierRecords", fn := fun _ => fun
  | [d1, d2, d3, d4, d5, d6, d7, d8] => { results := [.lit (.bool false)], args := [d1, d2, d3, d4, d5, d6, d7, d8] }
  | _ => none }
def BarrierRecordsWrongFalsely : Prop := barrierRecordsRow.holds Try.pinned (OpenSpec.ofChange barrierRecordsWrong)

/-- 'beltwaylaw19.BarrierWithin': WHATEVER THE INPUT: true; the input reads as it did. -/
def barrierWithinSpec : ChangeSpec := { name := "barrierWithin", fn := fun _ => fun
  | [d1, d2, d3, d4, d5] => { results := [.lit (.bool true)], args := [d1, d2, d3, d4, d5] }
  | _ => none }
def barrierWithinRow : OpenClaim := { program := "ytbidedbpmhcoaaa", sum := "a0d0d527a2c6a88df1f4e3aeeebaf1707f76733410a6ab22cc472307aa64079a", func := "beltway/beltwaylaw19.BarrierWithin", spec := "barrierWithin", inPlace := ["slices.overlaps[beltway/api.Set]", "slices.overlaps[int]"], unfollowed := true, recurses := true, apart := false }
def BarrierWithinSaid : Prop := barrierWithinRow.holds Try.pinned (OpenSpec.ofChange barrierWithinSpec)

/-- ITS FALSE NEIGHBOUR: 'it returns false'. Refute it at one input. -/
def barrierWithinWrong : ChangeSpec := { name := "barrierWithin", fn := fun _ => fun
  | [d1, d2, d3, d4, d5] => { results := [.lit (.bool false)], args := [d1, d2, d3, d4, d5] }
  | _ => none }
def BarrierWithinWrongFalsely : Prop := barrierWithinRow.holds Try.pinned (OpenSpec.ofChange barrierWithinWrong)

/- THE SECOND FORM. 'bulk': how many values and letters a reading holds, each counted each time it is reached (what is shared counts as often as it is met; a slice's spare places count too). A statement '..UptoSaid' is the law's where the arguments, and the package variables that the reading takes, are together of bulk at most 1048576: NARROWER than '..Said'. Prove '..Said' where nothing that the law and all that it calls make is longer than what came in: it says more and counts as full. Else prove '..UptoSaid'. A law counts once. -/
mutual
def uptoBulk {H : Type} : DataW H → Nat
  | .lit (.string bytes) => bytes.length + 1
  | .lit _ => 1
  | .nil => 1
  | .ptr d => uptoBulk d + 1
  | .slice elems spare => uptoBulkAll elems + uptoBulkAll spare + 1
  | .agg parts => uptoBulkAll parts + 1
  | .iface _ d => uptoBulk d + 1
  | .map entries => uptoBulkEntries entries + 1
  | .held _ => 1
def uptoBulkAll {H : Type} : List (DataW H) → Nat
  | [] => 0
  | d :: r => uptoBulk d + uptoBulkAll r
def uptoBulkEntries {H : Type} : List (Lit × DataW H) → Nat
  | [] => 0
  | x :: r => uptoBulkEntry x + uptoBulkEntries r
def uptoBulkEntry {H : Type} : Lit × DataW H → Nat
  | (.string bytes, d) => bytes.length + uptoBulk d + 1
  | (_, d) => uptoBulk d + 1
 end
def uptoSmall : (H : Type) → List (DataW H) → Bool := fun _ ds => decide (uptoBulkAll ds ≤ 1048576)
def OpenSpec.upto (s : _root_.Go.ChangeSpec) : _root_.Go.OpenSpec := { _root_.Go.OpenSpec.ofChange s with cond := some uptoSmall }

/-- 'beltwaylaw08.ObjectMakes', WHERE WHAT IT READS IS OF BULK AT MOST 1048576: true; the input reads as it did. -/
def objectMakesUptoRow : OpenClaim := { program := "ytbidedbpmhcoaaa", sum := "a0d0d527a2c6a88df1f4e3aeeebaf1707f76733410a6ab22cc472307aa64079a", func := "beltway/beltwaylaw08.ObjectMakes", spec := "objectMakes", unfollowed := true, recurses := true, apart := false, narrowed := true }
def ObjectMakesUptoSaid : Prop := objectMakesUptoRow.holds Try.pinned (OpenSpec.upto objectMakesSpec)

/-- 'beltwaylaw08.ObjectShapes', WHERE WHAT IT READS IS OF BULK AT MOST 1048576: true; the input reads as it did. -/
def objectShapesUptoRow : OpenClaim := { program := "ytbidedbpmhcoaaa", sum := "a0d0d527a2c6a88df1f4e3aeeebaf1707f76733410a6ab22cc472307aa64079a", func := "beltway/beltwaylaw08.ObjectShapes", spec := "objectShapes", unfollowed := true, recurses := true, apart := false, narrowed := true }
def ObjectShapesUptoSaid : Prop := objectShapesUptoRow.holds Try.pinned (OpenSpec.upto objectShapesSpec)

/-- 'beltwaylaw08.ObjectFields', WHERE WHAT IT READS IS OF BULK AT MOST 1048576: true; the input reads as it did. -/
def objectFieldsUptoRow : OpenClaim := { program := "ytbidedbpmhcoaaa", sum := "a0d0d527a2c6a88df1f4e3aeeebaf1707f76733410a6ab22cc472307aa64079a", func := "beltway/beltwaylaw08.ObjectFields", spec := "objectFields", unfollowed := true, recurses := true, apart := false, narrowed := true }
def ObjectFieldsUptoSaid : Prop := objectFieldsUptoRow.holds Try.pinned (OpenSpec.upto objectFieldsSpec)

/-- 'beltwaylaw08.ObjectFresh', WHERE WHAT IT READS IS OF BULK AT MOST 1048576: true; the input reads as it did. -/
def objectFreshUptoRow : OpenClaim := { program := "ytbidedbpmhcoaaa", sum := "a0d0d527a2c6a88df1f4e3aeeebaf1707f76733410a6ab22cc472307aa64079a", func := "beltway/beltwaylaw08.ObjectFresh", spec := "objectFresh", unfollowed := true, recurses := true, apart := false, narrowed := true }
def ObjectFreshUptoSaid : Prop := objectFreshUptoRow.holds Try.pinned (OpenSpec.upto objectFreshSpec)

/-- 'beltwaylaw08.ObjectKeeps', WHERE WHAT IT READS IS OF BULK AT MOST 1048576: true; the input reads as it did. -/
def objectKeepsUptoRow : OpenClaim := { program := "ytbidedbpmhcoaaa", sum := "a0d0d527a2c6a88df1f4e3aeeebaf1707f76733410a6ab22cc472307aa64079a", func := "beltway/beltwaylaw08.ObjectKeeps", spec := "objectKeeps", unfollowed := true, recurses := true, apart := false, narrowed := true }
def ObjectKeepsUptoSaid : Prop := objectKeepsUptoRow.holds Try.pinned (OpenSpec.upto objectKeepsSpec)

/-- 'beltwaylaw08.ObjectApart', WHERE WHAT IT READS IS OF BULK AT MOST 1048576: true; the input reads as it did. -/
def objectApartUptoRow : OpenClaim := { program := "ytbidedbpmhcoaaa", sum := "a0d0d527a2c6a88df1f4e3aeeebaf1707f76733410a6ab22cc472307aa64079a", func := "beltway/beltwaylaw08.ObjectApart", spec := "objectApart", unfollowed := true, recurses := true, apart := false, narrowed := true }
def ObjectApartUptoSaid : Prop := objectApartUptoRow.holds Try.pinned (OpenSpec.upto objectApartSpec)

/-- 'beltwaylaw19.BarrierRecords', WHERE WHAT IT READS IS OF BULK AT MOST 1048576: true; the input reads as it did. -/
def barrierRecordsUptoRow : OpenClaim := { program := "ytbidedbpmhcoaaa", sum := "a0d0d527a2c6a88df1f4e3aeeebaf1707f76733410a6ab22cc472307aa64079a", func := "beltway/beltwaylaw19.BarrierRecords", spec := "barrierRecords", inPlace := ["slices.overlaps[beltway/api.Set]", "slices.overlaps[int]"], unfollowed := true, recurses := true, apart := false, narrowed := true }
def BarrierRecordsUptoSaid : Prop := barrierRecordsUptoRow.holds Try.pinned (OpenSpec.upto barrierRecordsSpec)

/-- 'beltwaylaw19.BarrierWithin', WHERE WHAT IT READS IS OF BULK AT MOST 1048576: true; the input reads as it did. -/
def barrierWithinUptoRow : OpenClaim := { program := "ytbidedbpmhcoaaa", sum := "a0d0d527a2c6a88df1f4e3aeeebaf1707f76733410a6ab22cc472307aa64079a", func := "beltway/beltwaylaw19.BarrierWithin", spec := "barrierWithin", inPlace := ["slices.overlaps[beltway/api.Set]", "slices.overlaps[int]"], unfollowed := true, recurses := true, apart := false, narrowed := true }
def BarrierWithinUptoSaid : Prop := barrierWithinUptoRow.holds Try.pinned (OpenSpec.upto barrierWithinSpec)

end Rows
end Go.Proofs.Ytbidedbpmhcoaaa
