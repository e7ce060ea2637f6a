/-
  No cell of these rows narrows 'for every input' (looked for: loops, veiled, ifaces, maps, wideKeys, modest, calm, conditions, laid).
  DERIVED. THE GIVEN ROWS OF THIS SEAT. 5 by the template 'for every input the law returns true; each argument reads behind the call as it read before'; 0 by the template 'total and deterministic' (their statements: YtgdacmcapbbilaaTotals.lean).
  GIVEN WITH THE SEED: the statements are not yours to turn. If you find one false, say at which input.
  Laid BY PROGRAM, IN A SANDBOX (cutbox-rows.mjs): the forced cells as the released guide's own fill.sh prints them over the translation 45ec0ba5507a1dd3… (all of the seat's roots in one cut). By AI agents, Wed Nov 11 2026. No macro, syntax, notation, axiom, sorry.
-/
import Derived.Test.YtgdacmcapbbilaaChecked
import GoSem.Claim
import GoSem.ClaimJoined
import GoSem.ClaimMapViews
import Derived.JoinedTies
import Derived.KernelRfl
namespace Go.Proofs.Ytgdacmcapbbilaa
/- THE CELL 'sum', in the pinned program and in every row, IS THE sha256 OF THE DUMP (.gsa) THAT YtgdacmcapbbilaaProg.lean LOADS. Nothing in Lean hashes anything: it is a label: what it is worth is what the hold of that sum in a sandbox is worth. -/
noncomputable def Try.pinned : Pinned := { name := "ytgdacmcapbbilaa", sum := "45ec0ba5507a1dd3ebdb98b605a189d65e3d9b44a366ae0838e8a8f87dc66723", checked := Try.checked }
namespace Rows
def none {H : Type} : Left H := { results := [], args := [] }

/-- 'miradorlaw02.BitioReverse': WHATEVER THE INPUT: true; the input reads as it did. -/
def bitioReverseSpec : ChangeSpec := { name := "bitioReverse", fn := fun _ => fun
  | [d1, d2] => { results := [.lit (.bool true)], args := [d1, d2] }
  | _ => none }
def bitioReverseRow : OpenClaim := { program := "ytgdacmcapbbilaa", sum := "45ec0ba5507a1dd3ebdb98b605a189d65e3d9b44a366ae0838e8a8f87dc66723", func := "mirador/miradorlaw02.BitioReverse", spec := "bitioReverse", apart := false }
def BitioReverseSaid : Prop := bitioReverseRow.holds Try.pinned (OpenSpec.ofChange bitioReverseSpec)

/-- ITS FALSE NEIGHBOUR: 'it returns false'. Refute it at one input. -/
def bitioReverseWrong : ChangeSpec := { name := "bitioReverse", fn := fun _ => fun
  | [d1, d2] => { results := [.lit (.bool false)], args := [d1, d2] }
  | _ => none }
def BitioReverseWrongFalsely : Prop := bitioReverseRow.holds Try.pinned (OpenSpec.ofChange bitioReverseWrong)

/-- 'miradorlaw02.BitioSplit': WHATEVER THE INPUT: true; the input reads as it did. -/
def bitioSplitSpec : ChangeSpec := { name := "bitioSplit", fn := fun _ => fun
  | [d1, d2, d3, d4] => { results := [.lit (.bool true)], args := [d1, d2, d3, d4] }
  | _ => none }
def bitioSplitRow : OpenClaim := { program := "ytgdacmcapbbilaa", sum := "45ec0ba5507a1dd3ebdb98b605a189d65e3d9b44a366ae0838e8a8f87dc66723", func := "mirador/miradorlaw02.BitioSplit", spec := "bitioSplit", apart := false }
def BitioSplitSaid : Prop := bitioSplitRow.holds Try.pinned (OpenSpec.ofChange bitioSplitSpec)

/-- ITS FALSE NEIGHBOUR: 'it returns false'. Refute it at one input. -/
def bitioSplitWrong : ChangeSpec := { name := "bitioSplit", fn := fun _ => fun
  | [d1, d2, d3, d4] => { results := [.lit (.bool false)], args := [d1, d2, d3, d4] }
  | _ => none }
def BitioSplitWrongFalsely : Prop := bitioSplitRow.holds Try.pinned (OpenSpec.ofChange bitioSplitWrong)

/-- 'miradorlaw02.BitioWrites': WHATEVER THE INPUT: true; the input reads as it did. -/
def bitioWritesSpec : ChangeSpec := { name := "bitioWrites", fn := fun _ => fun
  | [d] => { results := [.lit (.bool true)], args := [d] }
  | _ => none }
def bitioWritesRow : OpenClaim := { program := "ytgdacmcapbbilaa", sum := "45ec0ba5507a1dd3ebdb98b605a189d65e3d9b44a366ae0838e8a8f87dc66723", func := "mirador/miradorlaw02.BitioWrites", spec := "bitioWrites", apart := false }
def BitioWritesSaid : Prop := bitioWritesRow.holds Try.pinned (OpenSpec.ofChange bitioWritesSpec)

/-- ITS FALSE NEIGHBOUR: 'it returns false'. Refute it at one input. -/
def bitioWritesWrong : ChangeSpec := { name := "bitioWrites", fn := fun _ => fun
  | [d] => { results := [.lit (.bool false)], args := [d] }
  | _ => none }
def BitioWritesWrongFalsely : Prop := bitioWritesRow.holds Try.pinned (OpenSpec.ofChange bitioWritesWrong)

/-- 'miradorlaw02.BitioReads': WHATEVER THE INPUT: true; the input reads as it did. -/
def bitioReadsSpec : ChangeSpec := { name := "bitioReads", fn := fun _ => fun
  | [d1, d2] => { results := [.lit (.bool true)], args := [d1, d2] }
  | _ => none }
def bitioReadsRow : OpenClaim := { program := "ytgdacmcapbbilaa", sum := "45ec0ba5507a1dd3ebdb98b605a189d65e3d9b44a366ae0838e8a8f87dc66723", func := "mirador/miradorlaw02.BitioReads", spec := "bitioReads", apart := false }
def BitioReadsSaid : Prop := bitioReadsRow.holds Try.pinned (OpenSpec.ofChange bitioReadsSpec)

/-- ITS FALSE NEIGHBOUR: 'it returns false'. Refute it at one input. -/
def bitioReadsWrong : ChangeSpec := { name := "bitioReads", fn := fun _ => fun
  | [d1, d2] => { results := [.lit (.bool false)], args := [d1, d2] }
  | _ => none }
def BitioReadsWrongFalsely : Prop := bitioReadsRow.holds Try.pinned (OpenSpec.ofChange bitioReadsWrong)

/-- 'miradorlaw02.BitioBack': WHATEVER THE INPUT: true; the input reads as it did. -/
def bitioBackSpec : ChangeSpec := { name := "bitioBack", fn := fun _ => fun
  | [d1, d2] => { results := [.lit (.bool true)], args := [d1, d2] }
  | _ => none }
def bitioBackRow : OpenClaim := { program := "ytgdacmcapbbilaa", sum := "45ec0ba5507a1dd3ebdb98b605a189d65e3d9b44a366ae0838e8a8f87dc66723", func := "mirador/miradorlaw02.BitioBack", spec := "bitioBack", apart := false }
def BitioBackSaid : Prop := bitioBackRow.holds Try.pinned (OpenSpec.ofChange bitioBackSpec)

/-- ITS FALSE NEIGHBOUR: 'it returns false'. Refute it at one input. -/
def bitioBackWrong : ChangeSpec := { name := "bitioBack", fn := fun _ => fun
  | [d1, d2] => { results := [.lit (.bool false)], args := [d1, d2] }
  | _ => none }
def BitioBackWrongFalsely : Prop := bitioBackRow.holds Try.pinned (OpenSpec.ofChange bitioBackWrong)

/- THE SECOND FORM. 'bulk': how many values and letters a reading holds, each counted each time it is reached (what is shared counts as often as it is met; a slice's spare places count too). A statement '..UptoSaid' is the law's where the arguments, and the package variables that the reading takes, are together of bulk at most 1048576: NARROWER than '..Said'. Prove '..Said' where nothing that the law and all that it calls make is longer than what came in: it says more and counts as full. Else prove '..UptoSaid'. A law counts once. -/
mutual
def uptoBulk {H : Type} : DataW H → Nat
  | .lit (.string bytes) => bytes.length + 1
  | .lit _ => 1
  | .nil => 1
  | .ptr d => uptoBulk d + 1
  | .slice elems spare => uptoBulkAll elems + uptoBulkAll spare + 1
  | .agg parts => uptoBulkAll parts + 1
  | .iface _ d => uptoBulk d + 1
  | .map entries => uptoBulkEntries entries + 1
  | .held _ => 1
def uptoBulkAll {H : Type} : List (DataW H) → Nat
  | [] => 0
  | d :: r => uptoBulk d + uptoBulkAll r
def uptoBulkEntries {H : Type} : List (Lit × DataW H) → Nat
  | [] => 0
  | x :: r => uptoBulkEntry x + uptoBulkEntries r
def uptoBulkEntry {H : Type} : Lit × DataW H → Nat
  | (.string bytes, d) => bytes.length + uptoBulk d + 1
  | (_, d) => uptoBulk d + 1
 end
def uptoSmall : (H : Type) → List (DataW H) → Bool := fun _ ds => decide (uptoBulkAll ds ≤ 1048576)
def OpenSpec.upto (s : _root_.Go.ChangeSpec) : _root_.Go.OpenSpec := { _root_.Go.OpenSpec.ofChange s with cond := some uptoSmall }

/-- 'miradorlaw02.BitioReverse', WHERE WHAT IT READS IS OF BULK AT MOST 1048576: true; the input reads as it did. -/
def bitioReverseUptoRow : OpenClaim := { program := "ytgdacmcapbbilaa", sum := "45ec0ba5507a1dd3ebdb98b605a189d65e3d9b44a366ae0838e8a8f87dc66723", func := "mirador/miradorlaw02.BitioReverse", spec := "bitioReverse", apart := false, narrowed := true }
def BitioReverseUptoSaid : Prop := bitioReverseUptoRow.holds Try.pinned (OpenSpec.upto bitioReverseSpec)

/-- 'miradorlaw02.BitioSplit', WHERE WHAT IT READS IS OF BULK AT MOST 1048576: true; the input reads as it did. -/
def bitioSplitUptoRow : OpenClaim := { program := "ytgdacmcapbbilaa", sum := "45ec0ba5507a1dd3ebdb98b605a189d65e3d9b44a366ae0838e8a8f87dc66723", func := "mirador/miradorlaw02.BitioSplit", spec := "bitioSplit", apart := false, narrowed := true }
def BitioSplitUptoSaid : Prop := bitioSplitUptoRow.holds Try.pinned (OpenSpec.upto bitioSplitSpec)

/-- 'miradorlaw02.BitioWrites', WHERE WHAT IT READS IS OF BULK AT MOST 1048576: true; the input reads as it did. -/
def bitioWritesUptoRow : OpenClaim := { program := "ytgdacmcapbbilaa", sum := "45ec0ba5507a1dd3ebdb98b605a189d65e3d9b44a366ae0838e8a8f87dc66723", func := "mirador/miradorlaw02.BitioWrites", spec := "bitioWrites", apart := false, narrowed := true }
def BitioWritesUptoSaid : Prop := bitioWritesUptoRow.holds Try.pinned (OpenSpec.upto bitioWritesSpec)

/-- 'miradorlaw02.BitioReads', WHERE WHAT IT READS IS OF BULK AT MOST 1048576: true; the input reads as it did. -/
def bitioReadsUptoRow : OpenClaim := { program := "ytgdacmcapbbilaa", sum := "45ec0ba5507a1dd3ebdb98b605a189d65e3d9b44a366ae0838e8a8f87dc66723", func := "mirador/miradorlaw02.BitioReads", spec := "bitioReads", apart := false, narrowed := true }
def BitioReadsUptoSaid : Prop := bitioReadsUptoRow.holds Try.pinned (OpenSpec.upto bitioReadsSpec)

/-- 'miradorlaw02.BitioBack', WHERE WHAT IT READS IS OF BULK AT MOST 1048576: true; the input reads as it did. -/
def bitioBackUptoRow : OpenClaim := { program := "ytgdacmcapbbilaa", sum := "45ec0ba5507a1dd3ebdb98b605a189d65e3d9b44a366ae0838e8a8f87dc66723", func := "mirador/miradorlaw02.BitioBack", spec := "bitioBack", apart := false, narrowed := true }
def BitioBackUptoSaid : Prop := bitioBackUptoRow.holds Try.pinned (OpenSpec.upto bitioBackSpec)

end Rows
end Go.Proofs.Ytgdacmcapbbilaa
