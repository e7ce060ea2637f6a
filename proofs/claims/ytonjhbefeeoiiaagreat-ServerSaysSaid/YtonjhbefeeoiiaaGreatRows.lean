/-
  No cell of these rows narrows 'for every input' (looked for: loops, veiled, ifaces, maps, wideKeys, modest, calm, conditions, laid).
  DERIVED. THE GIVEN ROWS OF THIS SEAT. 3 by the template 'for every input the law returns true; each argument reads behind the call as it read before'; 0 by the template 'total and deterministic' (their statements: YtonjhbefeeoiiaaGreatTotals.lean).
  GIVEN WITH THE SEED: the statements are not yours to turn. If you find one false, say at which input.
  Laid BY PROGRAM, IN A SANDBOX (cutbox-rows.mjs): the forced cells as the released guide's own fill.sh prints them over the translation c37eb9c852f61ee7… (all of the seat's roots in one cut). By AI agents, Wed Nov 11 2026. No macro, syntax, notation, axiom, sorry.
-/
import Derived.Test.YtonjhbefeeoiiaaGreatChecked
import GoSem.Claim
import GoSem.ClaimJoined
import GoSem.ClaimMapViews
import Derived.JoinedTies
import Derived.KernelRfl
namespace Go.Proofs.YtonjhbefeeoiiaaGreat
/- THE CELL 'sum', in the pinned program and in every row, IS THE sha256 OF THE DUMP (.gsa) THAT YtonjhbefeeoiiaaGreatProg.lean LOADS. Nothing in Lean hashes anything: it is a label: what it is worth is what the hold of that sum in a sandbox is worth. -/
noncomputable def Tryz.pinned : Pinned := { name := "ytonjhbefeeoiiaagreat", sum := "c37eb9c852f61ee7055a5f453654b6e4093f939b2985074bf0217fa62e8c7611", checked := Tryz.checked }
namespace Rows
def none {H : Type} : Left H := { results := [], args := [] }

/-- 'miradorlaw25.ServerMeans': WHATEVER THE INPUT: true; the input reads as it did. -/
def serverMeansSpec : ChangeSpec := { name := "serverMeans", fn := fun _ => fun
  | [d1, d2, d3] => { results := [.lit (.bool true)], args := [d1, d2, d3] }
  | _ => none }
def serverMeansRow : OpenClaim := { program := "ytonjhbefeeoiiaagreat", sum := "c37eb9c852f61ee7055a5f453654b6e4093f939b2985074bf0217fa62e8c7611", func := "mirador/miradorlaw25.ServerMeans", spec := "serverMeans", inPlace := ["internal/abi.NoEscape"], unfollowed := true, recurses := true, apart := false }
def ServerMeansSaid : Prop := serverMeansRow.holds Tryz.pinned (OpenSpec.ofChange serverMeansSpec)

/-- ITS FALSE NEIGHBOUR: 'it returns false'. Refute it at one input. -/
def serverMeansWrong : ChangeSpec := { name := "serverMeans", fn := fun _ => fun
  | [d1, d2, d3] => { results := [.lit (.bool false)], args := [d1, d2, d3] }
  | _ => none }
def ServerMeansWrongFalsely : Prop := serverMeansRow.holds Tryz.pinned (OpenSpec.ofChange serverMeansWrong)

/-- 'miradorlaw25.ServerSays': WHATEVER THE INPUT: true; the input reads as it did. -/
def serverSaysSpec : ChangeSpec := { name := "serverSays", fn := fun _ => fun
  | [d1, d2, d3, d4] => { results := [.lit (.bool true)], args := [d1, d2, d3, d4] }
  | _ => none }
def serverSaysRow : OpenClaim := { program := "ytonjhbefeeoiiaagreat", sum := "c37eb9c852f61ee7055a5f453654b6e4093f939b2985074bf0217fa62e8c7611", func := "mirador/miradorlaw25.ServerSays", spec := "serverSays", inPlace := ["internal/abi.NoEscape"], unfollowed := true, recurses := true, apart := false }
def ServerSaysSaid : Prop := serverSaysRow.holds Tryz.pinned (OpenSpec.ofChange serverSaysSpec)

/-- ITS FALSE NEIGHBOUR: 'it returns false'. Refute it at one input. -/
def serverSaysWrong : ChangeSpec := { name := "serverSays", fn := fun _ => fun
  | [d1, d2, d3, d4] => { results := [.lit (.bool false)], args := [d1, d2, d3, d4] }
  | _ => none }
def ServerSaysWrongFalsely : Prop := serverSaysRow.holds Tryz.pinned (OpenSpec.ofChange serverSaysWrong)

/-- 'miradorlaw25.ServerDraws': WHATEVER THE INPUT: true; the input reads as it did. -/
def serverDrawsSpec : ChangeSpec := { name := "serverDraws", fn := fun _ => fun
  | [d1, d2, d3] => { results := [.lit (.bool true)], args := [d1, d2, d3] }
  | _ => none }
def serverDrawsRow : OpenClaim := { program := "ytonjhbefeeoiiaagreat", sum := "c37eb9c852f61ee7055a5f453654b6e4093f939b2985074bf0217fa62e8c7611", func := "mirador/miradorlaw25.ServerDraws", spec := "serverDraws", inPlace := ["internal/abi.NoEscape"], unfollowed := true, recurses := true, apart := false }
def ServerDrawsSaid : Prop := serverDrawsRow.holds Tryz.pinned (OpenSpec.ofChange serverDrawsSpec)

/-- ITS FALSE NEIGHBOUR: 'it returns false'. Refute it at one input. -/
def serverDrawsWrong : ChangeSpec := { name := "serverDraws", fn := fun _ => fun
  | [d1, d2, d3] => { results := [.lit (.bool false)], args := [d1, d2, d3] }
  | _ => none }
def ServerDrawsWrongFalsely : Prop := serverDrawsRow.holds Tryz.pinned (OpenSpec.ofChange serverDrawsWrong)

/- THE SECOND FORM. 'bulk': how many values and letters a reading holds, each counted each time it is reached (what is shared counts as often as it is met; a slice's spare places count too). A statement '..UptoSaid' is the law's where the arguments, and the package variables that the reading takes, are together of bulk at most 1048576: NARROWER than '..Said'. Prove '..Said' where nothing that the law and all that it calls make is longer than what came in: it says more and counts as full. Else prove '..UptoSaid'. A law counts once. -/
mutual
def uptoBulk {H : Type} : DataW H → Nat
  | .lit (.string bytes) => bytes.length + 1
  | .lit _ => 1
  | .nil => 1
  | .ptr d => uptoBulk d + 1
  | .slice elems spare => uptoBulkAll elems + uptoBulkAll spare + 1
  | .agg parts => uptoBulkAll parts + 1
  | .iface _ d => uptoBulk d + 1
  | .map entries => uptoBulkEntries entries + 1
  | .held _ => 1
def uptoBulkAll {H : Type} : List (DataW H) → Nat
  | [] => 0
  | d :: r => uptoBulk d + uptoBulkAll r
def uptoBulkEntries {H : Type} : List (Lit × DataW H) → Nat
  | [] => 0
  | x :: r => uptoBulkEntry x + uptoBulkEntries r
def uptoBulkEntry {H : Type} : Lit × DataW H → Nat
  | (.string bytes, d) => bytes.length + uptoBulk d + 1
  | (_, d) => uptoBulk d + 1
 end
def uptoSmall : (H : Type) → List (DataW H) → Bool := fun _ ds => decide (uptoBulkAll ds ≤ 1048576)
def OpenSpec.upto (s : _root_.Go.ChangeSpec) : _root_.Go.OpenSpec := { _root_.Go.OpenSpec.ofChange s with cond := some uptoSmall }

/-- 'miradorlaw25.ServerMeans', WHERE WHAT IT READS IS OF BULK AT MOST 1048576: true; the input reads as it did. -/
def serverMeansUptoRow : OpenClaim := { program := "ytonjhbefeeoiiaagreat", sum := "c37eb9c852f61ee7055a5f453654b6e4093f939b2985074bf0217fa62e8c7611", func := "mirador/miradorlaw25.ServerMeans", spec := "serverMeans", inPlace := ["internal/abi.NoEscape"], unfollowed := true, recurses := true, apart := false, narrowed := true }
def ServerMeansUptoSaid : Prop := serverMeansUptoRow.holds Tryz.pinned (OpenSpec.upto serverMeansSpec)

/-- 'miradorlaw25.ServerSays', WHERE WHAT IT READS IS OF BULK AT MOST 1048576: true; the input reads as it did. -/
def serverSaysUptoRow : OpenClaim := { program := "ytonjhbefeeoiiaagreat", sum := "c37eb9c852f61ee7055a5f453654b6e4093f939b2985074bf0217fa62e8c7611", func := "mirador/miradorlaw25.ServerSays", spec := "serverSays", inPlace := ["internal/abi.NoEscape"], unfollowed := true, recurses := true, apart := false, narrowed := true }
def ServerSaysUptoSaid : Prop := serverSaysUptoRow.holds Tryz.pinned (OpenSpec.upto serverSaysSpec)

/-- 'miradorlaw25.ServerDraws', WHERE WHAT IT READS IS OF BULK AT MOST 1048576: true; the input reads as it did. -/
def serverDrawsUptoRow : OpenClaim := { program := "ytonjhbefeeoiiaagreat", sum := "c37eb9c852f61ee7055a5f453654b6e4093f939b2985074bf0217fa62e8c7611", func := "mirador/miradorlaw25.ServerDraws", spec := "serverDraws", inPlace := ["internal/abi.NoEscape"], unfollowed := true, recurses := true, apart := false, narrowed := true }
def ServerDrawsUptoSaid : Prop := serverDrawsUptoRow.holds Tryz.pinned (OpenSpec.upto serverDrawsSpec)

end Rows
end Go.Proofs.YtonjhbefeeoiiaaGreat
