/-
  No cell of these rows narrows 'for every input' (looked for: loops, veiled, ifaces, maps, wideKeys, modest, calm, conditions, laid).
  DERIVED. THE GIVEN ROWS OF THIS SEAT. 7 by the template 'for every input the law returns true; each argument reads behind the call as it read before'; 0 by the template 'total and deterministic' (their statements: YtchdmemgkegefaaTotals.lean).
  GIVEN WITH THE SEED: the statements are not yours to turn. If you find one false, say at which input.
  Laid BY PROGRAM, IN A SANDBOX (cutbox-rows.mjs): the forced cells as the released guide's own fill.sh prints them over the translation 9e01825efe656bfe… (all of the seat's roots in one cut). By AI agents, Wed Nov 11 2026. No macro, syntax, notation, axiom, sorry.
-/
import Derived.Test.YtchdmemgkegefaaChecked
import GoSem.Claim
import GoSem.ClaimJoined
import GoSem.ClaimMapViews
import Derived.JoinedTies
import Derived.KernelRfl
namespace Go.Proofs.Ytchdmemgkegefaa
/- THE CELL 'sum', in the pinned program and in every row, IS THE sha256 OF THE DUMP (.gsa) THAT YtchdmemgkegefaaProg.lean LOADS. Nothing in Lean hashes anything: it is a label: what it is worth is what the hold of that sum in a sandbox is worth. -/
noncomputable def Try.pinned : Pinned := { name := "ytchdmemgkegefaa", sum := "9e01825efe656bfe6f1a8598eb5a3656a0619e5683341313acb0a507b867b963", checked := Try.checked }
namespace Rows
def none {H : Type} : Left H := { results := [], args := [] }

/-- 'beltwaylaw33.BoundNumbers': WHATEVER THE INPUT: true; the input reads as it did. -/
def boundNumbersSpec : ChangeSpec := { name := "boundNumbers", fn := fun _ => fun
  | [d1, d2, d3, d4, d5, d6] => { results := [.lit (.bool true)], args := [d1, d2, d3, d4, d5, d6] }
  | _ => none }
def boundNumbersRow : OpenClaim := { program := "ytchdmemgkegefaa", sum := "9e01825efe656bfe6f1a8598eb5a3656a0619e5683341313acb0a507b867b963", func := "beltway/beltwaylaw33.BoundNumbers", spec := "boundNumbers", inPlace := ["math.Float64bits"], apart := false }
def BoundNumbersSaid : Prop := boundNumbersRow.holds Try.pinned (OpenSpec.ofChange boundNumbersSpec)

/-- ITS FALSE NEIGHBOUR: 'it returns false'. Refute it at one input. -/
def boundNumbersWrong : ChangeSpec := { name := "boundNumbers", fn := fun _ => fun
  | [d1, d2, d3, d4, d5, d6] => { results := [.lit (.bool false)], args := [d1, d2, d3, d4, d5, d6] }
  | _ => none }
def BoundNumbersWrongFalsely : Prop := boundNumbersRow.holds Try.pinned (OpenSpec.ofChange boundNumbersWrong)

/-- 'beltwaylaw33.BoundRoom': WHATEVER THE INPUT: true; the input reads as it did. -/
def boundRoomSpec : ChangeSpec := { name := "boundRoom", fn := fun _ => fun
  | [d1, d2, d3, d4] => { results := [.lit (.bool true)], args := [d1, d2, d3, d4] }
  | _ => none }
def boundRoomRow : OpenClaim := { program := "ytchdmemgkegefaa", sum := "9e01825efe656bfe6f1a8598eb5a3656a0619e5683341313acb0a507b867b963", func := "beltway/beltwaylaw33.BoundRoom", spec := "boundRoom", inPlace := ["math.Float64bits"], unfollowed := true, recurses := true, apart := false }
def BoundRoomSaid : Prop := boundRoomRow.holds Try.pinned (OpenSpec.ofChange boundRoomSpec)

/-- ITS FALSE NEIGHBOUR: 'it returns false'. Refute it at one input. -/
def boundRoomWrong : ChangeSpec := { name := "boundRoom", fn := fun _ => fun
  | [d1, d2, d3, d4] => { results := [.lit (.bool false)], args := [d1, d2, d3, d4] }
  | _ => none }
def BoundRoomWrongFalsely : Prop := boundRoomRow.holds Try.pinned (OpenSpec.ofChange boundRoomWrong)

/-- 'beltwaylaw33.BoundMore': WHATEVER THE INPUT: true; the input reads as it did. -/
def boundMoreSpec : ChangeSpec := { name := "boundMore", fn := fun _ => fun
  | [d1, d2, d3, d4, d5, d6] => { results := [.lit (.bool true)], args := [d1, d2, d3, d4, d5, d6] }
  | _ => none }
def boundMoreRow : OpenClaim := { program := "ytchdmemgkegefaa", sum := "9e01825efe656bfe6f1a8598eb5a3656a0619e5683341313acb0a507b867b963", func := "beltway/beltwaylaw33.BoundMore", spec := "boundMore", inPlace := ["math.Float64bits"], apart := false }
def BoundMoreSaid : Prop := boundMoreRow.holds Try.pinned (OpenSpec.ofChange boundMoreSpec)

/-- ITS FALSE NEIGHBOUR: 'it returns false'. Refute it at one input. -/
def boundMoreWrong : ChangeSpec := { name := "boundMore", fn := fun _ => fun
  | [d1, d2, d3, d4, d5, d6] => { results := [.lit (.bool false)], args := [d1, d2, d3, d4, d5, d6] }
  | _ => none }
def BoundMoreWrongFalsely : Prop := boundMoreRow.holds Try.pinned (OpenSpec.ofChange boundMoreWrong)

/-- 'beltwaylaw18.RemsetOrder': WHATEVER THE INPUT: true; the input reads as it did. -/
def remsetOrderSpec : ChangeSpec := { name := "remsetOrder", fn := fun _ => fun
  | [d1, d2] => { results := [.lit (.bool true)], args := [d1, d2] }
  | _ => none }
def remsetOrderRow : OpenClaim := { program := "ytchdmemgkegefaa", sum := "9e01825efe656bfe6f1a8598eb5a3656a0619e5683341313acb0a507b867b963", func := "beltway/beltwaylaw18.RemsetOrder", spec := "remsetOrder", inPlace := ["slices.overlaps[beltway/api.Set]", "slices.overlaps[int]"], unfollowed := true, recurses := true, apart := false }
def RemsetOrderSaid : Prop := remsetOrderRow.holds Try.pinned (OpenSpec.ofChange remsetOrderSpec)

/-- ITS FALSE NEIGHBOUR: 'it returns false'. Refute it at one input. -/
def remsetOrderWrong : ChangeSpec := { name := "remsetOrder", fn := fun _ => fun
  | [d1, d2] => { results := [.lit (.bool false)], args := [d1, d2] }
  | _ => none }
def RemsetOrderWrongFalsely : Prop := remsetOrderRow.holds Try.pinned (OpenSpec.ofChange remsetOrderWrong)

/-- 'beltwaylaw18.RemsetInserts': WHATEVER THE INPUT: true; the input reads as it did. -/
def remsetInsertsSpec : ChangeSpec := { name := "remsetInserts", fn := fun _ => fun
  | [d1, d2, d3, d4, d5, d6, d7, d8] => { results := [.lit (.bool true)], args := [d1, d2, d3, d4, d5, d6, d7, d8] }
  | _ => none }
def remsetInsertsRow : OpenClaim := { program := "ytchdmemgkegefaa", sum := "9e01825efe656bfe6f1a8598eb5a3656a0619e5683341313acb0a507b867b963", func := "beltway/beltwaylaw18.RemsetInserts", spec := "remsetInserts", inPlace := ["slices.overlaps[beltway/api.Set]", "slices.overlaps[int]"], unfollowed := true, recurses := true, apart := false }
def RemsetInsertsSaid : Prop := remsetInsertsRow.holds Try.pinned (OpenSpec.ofChange remsetInsertsSpec)

/-- ITS FALSE NEIGHBOUR: 'it returns false'. Refute it at one input. -/
def remsetInsertsWrong : ChangeSpec := { name := "remsetInserts", fn := fun _ => fun
  | [d1, d2, d3, d4, d5, d6, d7, d8] => { results := [.lit (.bool false)], args := [d1, d2, d3, d4, d5, d6, d7, d8] }
  | _ => none }
def RemsetInsertsWrongFalsely : Prop := remsetInsertsRow.holds Try.pinned (OpenSpec.ofChange remsetInsertsWrong)

/-- 'beltwaylaw18.RemsetDrops': WHATEVER THE INPUT: true; the input reads as it did. -/
def remsetDropsSpec : ChangeSpec := { name := "remsetDrops", fn := fun _ => fun
  | [d1, d2] => { results := [.lit (.bool true)], args := [d1, d2] }
  | _ => none }
def remsetDropsRow : OpenClaim := { program := "ytchdmemgkegefaa", sum := "9e01825efe656bfe6f1a8598eb5a3656a0619e5683341313acb0a507b867b963", func := "beltway/beltwaylaw18.RemsetDrops", spec := "remsetDrops", inPlace := ["slices.overlaps[beltway/api.Set]", "slices.overlaps[int]"], unfollowed := true, recurses := true, apart := false }
def RemsetDropsSaid : Prop := remsetDropsRow.holds Try.pinned (OpenSpec.ofChange remsetDropsSpec)

/-- ITS FALSE NEIGHBOUR: 'it returns false'. Refute it at one input. -/
def remsetDropsWrong : ChangeSpec := { name := "remsetDrops", fn := fun _ => fun
  | [d1, d2] => { results := [.lit (.bool false)], args := [d1, d2] }
  | _ => none }
def RemsetDropsWrongFalsely : Prop := remsetDropsRow.holds Try.pinned (OpenSpec.ofChange remsetDropsWrong)

/-- 'beltwaylaw18.RemsetParts': WHATEVER THE INPUT: true; the input reads as it did. -/
def remsetPartsSpec : ChangeSpec := { name := "remsetParts", fn := fun _ => fun
  | [d] => { results := [.lit (.bool true)], args := [d] }
  | _ => none }
def remsetPartsRow : OpenClaim := { program := "ytchdmemgkegefaa", sum := "9e01825efe656bfe6f1a8598eb5a3656a0619e5683341313acb0a507b867b963", func := "beltway/beltwaylaw18.RemsetParts", spec := "remsetParts", inPlace := ["slices.overlaps[beltway/api.Set]", "slices.overlaps[int]"], unfollowed := true, recurses := true, apart := false }
def RemsetPartsSaid : Prop := remsetPartsRow.holds Try.pinned (OpenSpec.ofChange remsetPartsSpec)

/-- ITS FALSE NEIGHBOUR: 'it returns false'. Refute it at one input. -/
def remsetPartsWrong : ChangeSpec := { name := "remsetParts", fn := fun _ => fun
  | [d] => { results := [.lit (.bool false)], args := [d] }
  | _ => none }
def RemsetPartsWrongFalsely : Prop := remsetPartsRow.holds Try.pinned (OpenSpec.ofChange remsetPartsWrong)

/- THE SECOND FORM. 'bulk': how many values and letters a reading holds, each counted each time it is reached (what is shared counts as often as it is met; a slice's spare places count too). A statement '..UptoSaid' is the law's where the arguments, and the package variables that the reading takes, are together of bulk at most 1048576: NARROWER than '..Said'. Prove '..Said' where nothing that the law and all that it calls make is longer than what came in: it says more and counts as full. Else prove '..UptoSaid'. A law counts once. -/
mutual
def uptoBulk {H : Type} : DataW H → Nat
  | .lit (.string bytes) => bytes.length + 1
  | .lit _ => 1
  | .nil => 1
  | .ptr d => uptoBulk d + 1
  | .slice elems spare => uptoBulkAll elems + uptoBulkAll spare + 1
  | .agg parts => uptoBulkAll parts + 1
  | .iface _ d => uptoBulk d + 1
  | .map entries => uptoBulkEntries entries + 1
  | .held _ => 1
def uptoBulkAll {H : Type} : List (DataW H) → Nat
  | [] => 0
  | d :: r => uptoBulk d + uptoBulkAll r
def uptoBulkEntries {H : Type} : List (Lit × DataW H) → Nat
  | [] => 0
  | x :: r => uptoBulkEntry x + uptoBulkEntries r
def uptoBulkEntry {H : Type} : Lit × DataW H → Nat
  | (.string bytes, d) => bytes.length + uptoBulk d + 1
  | (_, d) => uptoBulk d + 1
 end
def uptoSmall : (H : Type) → List (DataW H) → Bool := fun _ ds => decide (uptoBulkAll ds ≤ 1048576)
def OpenSpec.upto (s : _root_.Go.ChangeSpec) : _root_.Go.OpenSpec := { _root_.Go.OpenSpec.ofChange s with cond := some uptoSmall }

/-- 'beltwaylaw33.BoundNumbers', WHERE WHAT IT READS IS OF BULK AT MOST 1048576: true; the input reads as it did. -/
def boundNumbersUptoRow : OpenClaim := { program := "ytchdmemgkegefaa", sum := "9e01825efe656bfe6f1a8598eb5a3656a0619e5683341313acb0a507b867b963", func := "beltway/beltwaylaw33.BoundNumbers", spec := "boundNumbers", inPlace := ["math.Float64bits"], apart := false, narrowed := true }
def BoundNumbersUptoSaid : Prop := boundNumbersUptoRow.holds Try.pinned (OpenSpec.upto boundNumbersSpec)

/-- 'beltwaylaw33.BoundRoom', WHERE WHAT IT READS IS OF BULK AT MOST 1048576: true; the input reads as it did. -/
def boundRoomUptoRow : OpenClaim := { program := "ytchdmemgkegefaa", sum := "9e01825efe656bfe6f1a8598eb5a3656a0619e5683341313acb0a507b867b963", func := "beltway/beltwaylaw33.BoundRoom", spec := "boundRoom", inPlace := ["math.Float64bits"], unfollowed := true, recurses := true, apart := false, narrowed := true }
def BoundRoomUptoSaid : Prop := boundRoomUptoRow.holds Try.pinned (OpenSpec.upto boundRoomSpec)

/-- 'beltwaylaw33.BoundMore', WHERE WHAT IT READS IS OF BULK AT MOST 1048576: true; the input reads as it did. -/
def boundMoreUptoRow : OpenClaim := { program := "ytchdmemgkegefaa", sum := "9e01825efe656bfe6f1a8598eb5a3656a0619e5683341313acb0a507b867b963", func := "beltway/beltwaylaw33.BoundMore", spec := "boundMore", inPlace := ["math.Float64bits"], apart := false, narrowed := true }
def BoundMoreUptoSaid : Prop := boundMoreUptoRow.holds Try.pinned (OpenSpec.upto boundMoreSpec)

/-- 'beltwaylaw18.RemsetOrder', WHERE WHAT IT READS IS OF BULK AT MOST 1048576: true; the input reads as it did. -/
def remsetOrderUptoRow : OpenClaim := { program := "ytchdmemgkegefaa", sum := "9e01825efe656bfe6f1a8598eb5a3656a0619e5683341313acb0a507b867b963", func := "beltway/beltwaylaw18.RemsetOrder", spec := "remsetOrder", inPlace := ["slices.overlaps[beltway/api.Set]", "slices.overlaps[int]"], unfollowed := true, recurses := true, apart := false, narrowed := true }
def RemsetOrderUptoSaid : Prop := remsetOrderUptoRow.holds Try.pinned (OpenSpec.upto remsetOrderSpec)

/-- 'beltwaylaw18.RemsetInserts', WHERE WHAT IT READS IS OF BULK AT MOST 1048576: true; the input reads as it did. -/
def remsetInsertsUptoRow : OpenClaim := { program := "ytchdmemgkegefaa", sum := "9e01825efe656bfe6f1a8598eb5a3656a0619e5683341313acb0a507b867b963", func := "beltway/beltwaylaw18.RemsetInserts", spec := "remsetInserts", inPlace := ["slices.overlaps[beltway/api.Set]", "slices.overlaps[int]"], unfollowed := true, recurses := true, apart := false, narrowed := true }
def RemsetInsertsUptoSaid : Prop := remsetInsertsUptoRow.holds Try.pinned (OpenSpec.upto remsetInsertsSpec)

/-- 'beltwaylaw18.RemsetDrops', WHERE WHAT IT READS IS OF BULK AT MOST 1048576: true; the input reads as it did. -/
def remsetDropsUptoRow : OpenClaim := { program := "ytchdmemgkegefaa", sum := "9e01825efe656bfe6f1a8598eb5a3656a0619e5683341313acb0a507b867b963", func := "beltway/beltwaylaw18.RemsetDrops", spec := "remsetDrops", inPlace := ["slices.overlaps[beltway/api.Set]", "slices.overlaps[int]"], unfollowed := true, recurses := true, apart := false, narrowed := true }
def RemsetDropsUptoSaid : Prop := remsetDropsUptoRow.holds Try.pinned (OpenSpec.upto remsetDropsSpec)

/-- 'beltwaylaw18.RemsetParts', WHERE WHAT IT READS IS OF BULK AT MOST 1048576: true; the input reads as it did. -/
def remsetPartsUptoRow : OpenClaim := { program := "ytchdmemgkegefaa", sum := "9e01825efe656bfe6f1a8598eb5a3656a0619e5683341313acb0a507b867b963", func := "beltway/beltwaylaw18.RemsetParts", spec := "remsetParts", inPlace := ["slices.overlaps[beltway/api.Set]", "slices.overlaps[int]"], unfollowed := true, recurses := true, apart := false, narrowed := true }
def RemsetPartsUptoSaid : Prop := remsetPartsUptoRow.holds Try.pinned (OpenSpec.upto remsetPartsSpec)

end Rows
end Go.Proofs.Ytchdmemgkegefaa
