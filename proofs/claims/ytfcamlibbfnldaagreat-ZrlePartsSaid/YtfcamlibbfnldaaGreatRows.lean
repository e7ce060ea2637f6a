/-
  No cell of these rows narrows 'for every input' (looked for: loops, veiled, ifaces, maps, wideKeys, modest, calm, conditions, laid).
  DERIVED. THE GIVEN ROWS OF THIS SEAT. 12 by the template 'for every input the law returns true; each argument reads behind the call as it read before'; 0 by the template 'total and deterministic' (their statements: YtfcamlibbfnldaaGreatTotals.lean).
  GIVEN WITH THE SEED: the statements are not yours to turn. If you find one false, say at which input.
  Laid BY PROGRAM, IN A SANDBOX (cutbox-rows.mjs): the forced cells as the released guide's own fill.sh prints them over the translation 0273fefc0b7182d6… (all of the seat's roots in one cut). By AI agents, Wed Nov 11 2026. No macro, syntax, notation, axiom, sorry.
-/
import Derived.Test.YtfcamlibbfnldaaGreatChecked
import GoSem.Claim
import GoSem.ClaimJoined
import GoSem.ClaimMapViews
import Derived.JoinedTies
import Derived.KernelRfl
namespace Go.Proofs.YtfcamlibbfnldaaGreat
/- THE CELL 'sum', in the pinned program and in every row, IS THE sha256 OF THE DUMP (.gsa) THAT YtfcamlibbfnldaaGreatProg.lean LOADS. Nothing in Lean hashes anything: it is a label: what it is worth is what the hold of that sum in a sandbox is worth. -/
noncomputable def Tryz.pinned : Pinned := { name := "ytfcamlibbfnldaagreat", sum := "0273fefc0b7182d625bdc1585162b1fda4d8d4d73de2cab7db8a4baeaa2a1af6", checked := Tryz.checked }
namespace Rows
def none {H : Type} : Left H := { results := [], args := [] }

/-- 'miradorlaw12.PictureChunks': WHATEVER THE INPUT: true; the input reads as it did. -/
def pictureChunksSpec : ChangeSpec := { name := "pictureChunks", fn := fun _ => fun
  | [d1, d2, d3] => { results := [.lit (.bool true)], args := [d1, d2, d3] }
  | _ => none }
def pictureChunksRow : OpenClaim := { program := "ytfcamlibbfnldaagreat", sum := "0273fefc0b7182d625bdc1585162b1fda4d8d4d73de2cab7db8a4baeaa2a1af6", func := "mirador/miradorlaw12.PictureChunks", spec := "pictureChunks", inPlace := ["internal/abi.NoEscape"], unfollowed := true, recurses := true, apart := false }
def PictureChunksSaid : Prop := pictureChunksRow.holds Tryz.pinned (OpenSpec.ofChange pictureChunksSpec)

/-- ITS FALSE NEIGHBOUR: 'it returns false'. Refute it at one input. -/
def pictureChunksWrong : ChangeSpec := { name := "pictureChunks", fn := fun _ => fun
  | [d1, d2, d3] => { results := [.lit (.bool false)], args := [d1, d2, d3] }
  | _ => none }
def PictureChunksWrongFalsely : Prop := pictureChunksRow.holds Tryz.pinned (OpenSpec.ofChange pictureChunksWrong)

/-- 'miradorlaw12.PictureParts': WHATEVER THE INPUT: true; the input reads as it did. -/
def picturePartsSpec : ChangeSpec := { name := "pictureParts", fn := fun _ => fun
  | [d1, d2] => { results := [.lit (.bool true)], args := [d1, d2] }
  | _ => none }
def picturePartsRow : OpenClaim := { program := "ytfcamlibbfnldaagreat", sum := "0273fefc0b7182d625bdc1585162b1fda4d8d4d73de2cab7db8a4baeaa2a1af6", func := "mirador/miradorlaw12.PictureParts", spec := "pictureParts", inPlace := ["internal/abi.NoEscape"], unfollowed := true, recurses := true, apart := false }
def PicturePartsSaid : Prop := picturePartsRow.holds Tryz.pinned (OpenSpec.ofChange picturePartsSpec)

/-- ITS FALSE NEIGHBOUR: 'it returns false'. Refute it at one input. -/
def picturePartsWrong : ChangeSpec := { name := "pictureParts", fn := fun _ => fun
  | [d1, d2] => { results := [.lit (.bool false)], args := [d1, d2] }
  | _ => none }
def PicturePartsWrongFalsely : Prop := picturePartsRow.holds Tryz.pinned (OpenSpec.ofChange picturePartsWrong)

/-- 'miradorlaw12.PicturePalette': WHATEVER THE INPUT: true; the input reads as it did. -/
def picturePaletteSpec : ChangeSpec := { name := "picturePalette", fn := fun _ => fun
  | [d1, d2] => { results := [.lit (.bool true)], args := [d1, d2] }
  | _ => none }
def picturePaletteRow : OpenClaim := { program := "ytfcamlibbfnldaagreat", sum := "0273fefc0b7182d625bdc1585162b1fda4d8d4d73de2cab7db8a4baeaa2a1af6", func := "mirador/miradorlaw12.PicturePalette", spec := "picturePalette", inPlace := ["internal/abi.NoEscape"], unfollowed := true, recurses := true, apart := false }
def PicturePaletteSaid : Prop := picturePaletteRow.holds Tryz.pinned (OpenSpec.ofChange picturePaletteSpec)

/-- ITS FALSE NEIGHBOUR: 'it returns false'. Refute it at one input. -/
def picturePaletteWrong : ChangeSpec := { name := "picturePalette", fn := fun _ => fun
  | [d1, d2] => { results := [.lit (.bool false)], args := [d1, d2] }
  | _ => none }
def PicturePaletteWrongFalsely : Prop := picturePaletteRow.holds Tryz.pinned (OpenSpec.ofChange picturePaletteWrong)

/-- 'miradorlaw12.PictureBack': WHATEVER THE INPUT: true; the input reads as it did. -/
def pictureBackSpec : ChangeSpec := { name := "pictureBack", fn := fun _ => fun
  | [d1, d2] => { results := [.lit (.bool true)], args := [d1, d2] }
  | _ => none }
def pictureBackRow : OpenClaim := { program := "ytfcamlibbfnldaagreat", sum := "0273fefc0b7182d625bdc1585162b1fda4d8d4d73de2cab7db8a4baeaa2a1af6", func := "mirador/miradorlaw12.PictureBack", spec := "pictureBack", inPlace := ["internal/abi.NoEscape"], unfollowed := true, recurses := true, apart := false }
def PictureBackSaid : Prop := pictureBackRow.holds Tryz.pinned (OpenSpec.ofChange pictureBackSpec)

/-- ITS FALSE NEIGHBOUR: 'it returns false'. Refute it at one input. -/
def pictureBackWrong : ChangeSpec := { name := "pictureBack", fn := fun _ => fun
  | [d1, d2] => { results := [.lit (.bool false)], args := [d1, d2] }
  | _ => none }
def PictureBackWrongFalsely : Prop := pictureBackRow.holds Tryz.pinned (OpenSpec.ofChange pictureBackWrong)

/-- 'miradorlaw19.ZrleUnpacks': WHATEVER THE INPUT: true; the input reads as it did. -/
def zrleUnpacksSpec : ChangeSpec := { name := "zrleUnpacks", fn := fun _ => fun
  | [d1, d2, d3, d4] => { results := [.lit (.bool true)], args := [d1, d2, d3, d4] }
  | _ => none }
def zrleUnpacksRow : OpenClaim := { program := "ytfcamlibbfnldaagreat", sum := "0273fefc0b7182d625bdc1585162b1fda4d8d4d73de2cab7db8a4baeaa2a1af6", func := "mirador/miradorlaw19.ZrleUnpacks", spec := "zrleUnpacks", inPlace := ["internal/abi.NoEscape", "internal/bytealg.MakeNoZero"], unfollowed := true, recurses := true, apart := false }
def ZrleUnpacksSaid : Prop := zrleUnpacksRow.holds Tryz.pinned (OpenSpec.ofChange zrleUnpacksSpec)

/-- ITS FALSE NEIGHBOUR: 'it returns false'. Refute it at one input. -/
def zrleUnpacksWrong : ChangeSpec := { name := "zrleUnpacks", fn := fun _ => fun
  | [d1, d2, d3, d4] => { results := [.lit (.bool false)], args := [d1, d2, d3, d4] }
  | _ => none }
def ZrleUnpacksWrongFalsely : Prop := zrleUnpacksRow.holds Tryz.pinned (OpenSpec.ofChange zrleUnpacksWrong)

/-- 'miradorlaw19.ZrlePacks': WHATEVER THE INPUT: true; the input reads as it did. -/
def zrlePacksSpec : ChangeSpec := { name := "zrlePacks", fn := fun _ => fun
  | [d1, d2, d3, d4] => { results := [.lit (.bool true)], args := [d1, d2, d3, d4] }
  | _ => none }
def zrlePacksRow : OpenClaim := { program := "ytfcamlibbfnldaagreat", sum := "0273fefc0b7182d625bdc1585162b1fda4d8d4d73de2cab7db8a4baeaa2a1af6", func := "mirador/miradorlaw19.ZrlePacks", spec := "zrlePacks", inPlace := ["internal/abi.NoEscape", "internal/bytealg.MakeNoZero"], unfollowed := true, recurses := true, apart := false }
def ZrlePacksSaid : Prop := zrlePacksRow.holds Tryz.pinned (OpenSpec.ofChange zrlePacksSpec)

/-- ITS FALSE NEIGHBOUR: 'it returns false'. Refute it at one input. -/
def zrlePacksWrong : ChangeSpec := { name := "zrlePacks", fn := fun _ => fun
  | [d1, d2, d3, d4] => { results := [.lit (.bool false)], args := [d1, d2, d3, d4] }
  | _ => none }
def ZrlePacksWrongFalsely : Prop := zrlePacksRow.holds Tryz.pinned (OpenSpec.ofChange zrlePacksWrong)

/-- 'miradorlaw19.ZrleOne': WHATEVER THE INPUT: true; the input reads as it did. -/
def zrleOneSpec : ChangeSpec := { name := "zrleOne", fn := fun _ => fun
  | [d1, d2, d3, d4] => { results := [.lit (.bool true)], args := [d1, d2, d3, d4] }
  | _ => none }
def zrleOneRow : OpenClaim := { program := "ytfcamlibbfnldaagreat", sum := "0273fefc0b7182d625bdc1585162b1fda4d8d4d73de2cab7db8a4baeaa2a1af6", func := "mirador/miradorlaw19.ZrleOne", spec := "zrleOne", inPlace := ["internal/abi.NoEscape", "internal/bytealg.MakeNoZero"], unfollowed := true, recurses := true, apart := false }
def ZrleOneSaid : Prop := zrleOneRow.holds Tryz.pinned (OpenSpec.ofChange zrleOneSpec)

/-- ITS FALSE NEIGHBOUR: 'it returns false'. Refute it at one input. -/
def zrleOneWrong : ChangeSpec := { name := "zrleOne", fn := fun _ => fun
  | [d1, d2, d3, d4] => { results := [.lit (.bool false)], args := [d1, d2, d3, d4] }
  | _ => none }
def ZrleOneWrongFalsely : Prop := zrleOneRow.holds Tryz.pinned (OpenSpec.ofChange zrleOneWrong)

/-- 'miradorlaw19.ZrleBack': WHATEVER THE INPUT: true; the input reads as it did. -/
def zrleBackSpec : ChangeSpec := { name := "zrleBack", fn := fun _ => fun
  | [d1, d2, d3, d4, d5, d6] => { results := [.lit (.bool true)], args := [d1, d2, d3, d4, d5, d6] }
  | _ => none }
def zrleBackRow : OpenClaim := { program := "ytfcamlibbfnldaagreat", sum := "0273fefc0b7182d625bdc1585162b1fda4d8d4d73de2cab7db8a4baeaa2a1af6", func := "mirador/miradorlaw19.ZrleBack", spec := "zrleBack", inPlace := ["internal/abi.NoEscape", "internal/bytealg.MakeNoZero"], unfollowed := true, recurses := true, apart := false }
def ZrleBackSaid : Prop := zrleBackRow.holds Tryz.pinned (OpenSpec.ofChange zrleBackSpec)

/-- ITS FALSE NEIGHBOUR: 'it returns false'. Refute it at one input. -/
def zrleBackWrong : ChangeSpec := { name := "zrleBack", fn := fun _ => fun
  | [d1, d2, d3, d4, d5, d6] => { results := [.lit (.bool false)], args := [d1, d2, d3, d4, d5, d6] }
  | _ => none }
def ZrleBackWrongFalsely : Prop := zrleBackRow.holds Tryz.pinned (OpenSpec.ofChange zrleBackWrong)

/-- 'miradorlaw19.ZrleParts': WHATEVER THE INPUT: true; the input reads as it did. -/
def zrlePartsSpec : ChangeSpec := { name := "zrleParts", fn := fun _ => fun
  | [d1, d2, d3, d4, d5] => { results := [.lit (.bool true)], args := [d1, d2, d3, d4, d5] }
  | _ => none }
def zrlePartsRow : OpenClaim := { program := "ytfcamlibbfnldaagreat", sum := "0273fefc0b7182d625bdc1585162b1fda4d8d4d73de2cab7db8a4baeaa2a1af6", func := "mirador/miradorlaw19.ZrleParts", spec := "zrleParts", inPlace := ["internal/abi.NoEscape", "internal/bytealg.MakeNoZero"], unfollowed := true, recurses := true, apart := false }
def ZrlePartsSaid : Prop := zrlePartsRow.holds Tryz.pinned (OpenSpec.ofChange zrlePartsSpec)

/-- ITS FALSE NEIGHBOUR: 'it returns false'. Refute it at one input. -/
def zrlePartsWrong : ChangeSpec := { name := "zrleParts", fn := fun _ => fun
  | [d1, d2, d3, d4, d5] => { results := [.lit (.bool false)], args := [d1, d2, d3, d4, d5] }
  | _ => none }
def ZrlePartsWrongFalsely : Prop := zrlePartsRow.holds Tryz.pinned (OpenSpec.ofChange zrlePartsWrong)

/-- 'miradorlaw20.TightNumbers': WHATEVER THE INPUT: true; the input reads as it did. -/
def tightNumbersSpec : ChangeSpec := { name := "tightNumbers", fn := fun _ => fun
  | [d1, d2] => { results := [.lit (.bool true)], args := [d1, d2] }
  | _ => none }
def tightNumbersRow : OpenClaim := { program := "ytfcamlibbfnldaagreat", sum := "0273fefc0b7182d625bdc1585162b1fda4d8d4d73de2cab7db8a4baeaa2a1af6", func := "mirador/miradorlaw20.TightNumbers", spec := "tightNumbers", inPlace := ["internal/abi.NoEscape"], unfollowed := true, recurses := true, apart := false }
def TightNumbersSaid : Prop := tightNumbersRow.holds Tryz.pinned (OpenSpec.ofChange tightNumbersSpec)

/-- ITS FALSE NEIGHBOUR: 'it returns false'. Refute it at one input. -/
def tightNumbersWrong : ChangeSpec := { name := "tightNumbers", fn := fun _ => fun
  | [d1, d2] => { results := [.lit (.bool false)], args := [d1, d2] }
  | _ => none }
def TightNumbersWrongFalsely : Prop := tightNumbersRow.holds Tryz.pinned (OpenSpec.ofChange tightNumbersWrong)

/-- 'miradorlaw21.ChooserChooses': WHATEVER THE INPUT: true; the input reads as it did. -/
def chooserChoosesSpec : ChangeSpec := { name := "chooserChooses", fn := fun _ => fun
  | [d1, d2, d3] => { results := [.lit (.bool true)], args := [d1, d2, d3] }
  | _ => none }
def chooserChoosesRow : OpenClaim := { program := "ytfcamlibbfnldaagreat", sum := "0273fefc0b7182d625bdc1585162b1fda4d8d4d73de2cab7db8a4baeaa2a1af6", func := "mirador/miradorlaw21.ChooserChooses", spec := "chooserChooses", inPlace := ["internal/abi.NoEscape", "internal/bytealg.MakeNoZero"], unfollowed := true, recurses := true, apart := false }
def ChooserChoosesSaid : Prop := chooserChoosesRow.holds Tryz.pinned (OpenSpec.ofChange chooserChoosesSpec)

/-- ITS FALSE NEIGHBOUR: 'it returns false'. Refute it at one input. -/
def chooserChoosesWrong : ChangeSpec := { name := "chooserChooses", fn := fun _ => fun
  | [d1, d2, d3] => { results := [.lit (.bool false)], args := [d1, d2, d3] }
  | _ => none }
def ChooserChoosesWrongFalsely : Prop := chooserChoosesRow.holds Tryz.pinned (OpenSpec.ofChange chooserChoosesWrong)

/-- 'miradorlaw21.ChooserOrder': WHATEVER THE INPUT: true; the input reads as it did. -/
def chooserOrderSpec : ChangeSpec := { name := "chooserOrder", fn := fun _ => fun
  | [d1, d2, d3] => { results := [.lit (.bool true)], args := [d1, d2, d3] }
  | _ => none }
def chooserOrderRow : OpenClaim := { program := "ytfcamlibbfnldaagreat", sum := "0273fefc0b7182d625bdc1585162b1fda4d8d4d73de2cab7db8a4baeaa2a1af6", func := "mirador/miradorlaw21.ChooserOrder", spec := "chooserOrder", inPlace := ["internal/abi.NoEscape", "internal/bytealg.MakeNoZero"], unfollowed := true, recurses := true, apart := false }
def ChooserOrderSaid : Prop := chooserOrderRow.holds Tryz.pinned (OpenSpec.ofChange chooserOrderSpec)

/-- ITS FALSE NEIGHBOUR: 'it returns false'. Refute it at one input. -/
def chooserOrderWrong : ChangeSpec := { name := "chooserOrder", fn := fun _ => fun
  | [d1, d2, d3] => { results := [.lit (.bool false)], args := [d1, d2, d3] }
  | _ => none }
def ChooserOrderWrongFalsely : Prop := chooserOrderRow.holds Tryz.pinned (OpenSpec.ofChange chooserOrderWrong)

/- THE SECOND FORM. 'bulk': how many values and letters a reading holds, each counted each time it is reached (what is shared counts as often as it is met; a slice's spare places count too). A statement '..UptoSaid' is the law's where the arguments, and the package variables that the reading takes, are together of bulk at most 1048576: NARROWER than '..Said'. Prove '..Said' where nothing that the law and all that it calls make is longer than what came in: it says more and counts as full. Else prove '..UptoSaid'. A law counts once. -/
mutual
def uptoBulk {H : Type} : DataW H → Nat
  | .lit (.string bytes) => bytes.length + 1
  | .lit _ => 1
  | .nil => 1
  | .ptr d => uptoBulk d + 1
  | .slice elems spare => uptoBulkAll elems + uptoBulkAll spare + 1
  | .agg parts => uptoBulkAll parts + 1
  | .iface _ d => uptoBulk d + 1
  | .map entries => uptoBulkEntries entries + 1
  | .held _ => 1
def uptoBulkAll {H : Type} : List (DataW H) → Nat
  | [] => 0
  | d :: r => uptoBulk d + uptoBulkAll r
def uptoBulkEntries {H : Type} : List (Lit × DataW H) → Nat
  | [] => 0
  | x :: r => uptoBulkEntry x + uptoBulkEntries r
def uptoBulkEntry {H : Type} : Lit × DataW H → Nat
  | (.string bytes, d) => bytes.length + uptoBulk d + 1
  | (_, d) => uptoBulk d + 1
 end
def uptoSmall : (H : Type) → List (DataW H) → Bool := fun _ ds => decide (uptoBulkAll ds ≤ 1048576)
def OpenSpec.upto (s : _root_.Go.ChangeSpec) : _root_.Go.OpenSpec := { _root_.Go.OpenSpec.ofChange s with cond := some uptoSmall }

/-- 'miradorlaw12.PictureChunks', WHERE WHAT IT READS IS OF BULK AT MOST 1048576: true; the input reads as it did. -/
def pictureChunksUptoRow : OpenClaim := { program := "ytfcamlibbfnldaagreat", sum := "0273fefc0b7182d625bdc1585162b1fda4d8d4d73de2cab7db8a4baeaa2a1af6", func := "mirador/miradorlaw12.PictureChunks", spec := "pictureChunks", inPlace := ["internal/abi.NoEscape"], unfollowed := true, recurses := true, apart := false, narrowed := true }
def PictureChunksUptoSaid : Prop := pictureChunksUptoRow.holds Tryz.pinned (OpenSpec.upto pictureChunksSpec)

/-- 'miradorlaw12.PictureParts', WHERE WHAT IT READS IS OF BULK AT MOST 1048576: true; the input reads as it did. -/
def picturePartsUptoRow : OpenClaim := { program := "ytfcamlibbfnldaagreat", sum := "0273fefc0b7182d625bdc1585162b1fda4d8d4d73de2cab7db8a4baeaa2a1af6", func := "mirador/miradorlaw12.PictureParts", spec := "pictureParts", inPlace := ["internal/abi.NoEscape"], unfollowed := true, recurses := true, apart := false, narrowed := true }
def PicturePartsUptoSaid : Prop := picturePartsUptoRow.holds Tryz.pinned (OpenSpec.upto picturePartsSpec)

/-- 'miradorlaw12.PicturePalette', WHERE WHAT IT READS IS OF BULK AT MOST 1048576: true; the input reads as it did. -/
def picturePaletteUptoRow : OpenClaim := { program := "ytfcamlibbfnldaagreat", sum := "0273fefc0b7182d625bdc1585162b1fda4d8d4d73de2cab7db8a4baeaa2a1af6", func := "mirador/miradorlaw12.PicturePalette", spec := "picturePalette", inPlace := ["internal/abi.NoEscape"], unfollowed := true, recurses := true, apart := false, narrowed := true }
def PicturePaletteUptoSaid : Prop := picturePaletteUptoRow.holds Tryz.pinned (OpenSpec.upto picturePaletteSpec)

/-- 'miradorlaw12.PictureBack', WHERE WHAT IT READS IS OF BULK AT MOST 1048576: true; the input reads as it did. -/
def pictureBackUptoRow : OpenClaim := { program := "ytfcamlibbfnldaagreat", sum := "0273fefc0b7182d625bdc1585162b1fda4d8d4d73de2cab7db8a4baeaa2a1af6", func := "mirador/miradorlaw12.PictureBack", spec := "pictureBack", inPlace := ["internal/abi.NoEscape"], unfollowed := true, recurses := true, apart := false, narrowed := true }
def PictureBackUptoSaid : Prop := pictureBackUptoRow.holds Tryz.pinned (OpenSpec.upto pictureBackSpec)

/-- 'miradorlaw19.ZrleUnpacks', WHERE WHAT IT READS IS OF BULK AT MOST 1048576: true; the input reads as it did. -/
def zrleUnpacksUptoRow : OpenClaim := { program := "ytfcamlibbfnldaagreat", sum := "0273fefc0b7182d625bdc1585162b1fda4d8d4d73de2cab7db8a4baeaa2a1af6", func := "mirador/miradorlaw19.ZrleUnpacks", spec := "zrleUnpacks", inPlace := ["internal/abi.NoEscape", "internal/bytealg.MakeNoZero"], unfollowed := true, recurses := true, apart := false, narrowed := true }
def ZrleUnpacksUptoSaid : Prop := zrleUnpacksUptoRow.holds Tryz.pinned (OpenSpec.upto zrleUnpacksSpec)

/-- 'miradorlaw19.ZrlePacks', WHERE WHAT IT READS IS OF BULK AT MOST 1048576: true; the input reads as it did. -/
def zrlePacksUptoRow : OpenClaim := { program := "ytfcamlibbfnldaagreat", sum := "0273fefc0b7182d625bdc1585162b1fda4d8d4d73de2cab7db8a4baeaa2a1af6", func := "mirador/miradorlaw19.ZrlePacks", spec := "zrlePacks", inPlace := ["internal/abi.NoEscape", "internal/bytealg.MakeNoZero"], unfollowed := true, recurses := true, apart := false, narrowed := true }
def ZrlePacksUptoSaid : Prop := zrlePacksUptoRow.holds Tryz.pinned (OpenSpec.upto zrlePacksSpec)

/-- 'miradorlaw19.ZrleOne', WHERE WHAT IT READS IS OF BULK AT MOST 1048576: true; the input reads as it did. -/
def zrleOneUptoRow : OpenClaim := { program := "ytfcamlibbfnldaagreat", sum := "0273fefc0b7182d625bdc1585162b1fda4d8d4d73de2cab7db8a4baeaa2a1af6", func := "mirador/miradorlaw19.ZrleOne", spec := "zrleOne", inPlace := ["internal/abi.NoEscape", "internal/bytealg.MakeNoZero"], unfollowed := true, recurses := true, apart := false, narrowed := true }
def ZrleOneUptoSaid : Prop := zrleOneUptoRow.holds Tryz.pinned (OpenSpec.upto zrleOneSpec)

/-- 'miradorlaw19.ZrleBack', WHERE WHAT IT READS IS OF BULK AT MOST 1048576: true; the input reads as it did. -/
def zrleBackUptoRow : OpenClaim := { program := "ytfcamlibbfnldaagreat", sum := "0273fefc0b7182d625bdc1585162b1fda4d8d4d73de2cab7db8a4baeaa2a1af6", func := "mirador/miradorlaw19.ZrleBack", spec := "zrleBack", inPlace := ["internal/abi.NoEscape", "internal/bytealg.MakeNoZero"], unfollowed := true, recurses := true, apart := false, narrowed := true }
def ZrleBackUptoSaid : Prop := zrleBackUptoRow.holds Tryz.pinned (OpenSpec.upto zrleBackSpec)

/-- 'miradorlaw19.ZrleParts', WHERE WHAT IT READS IS OF BULK AT MOST 1048576: true; the input reads as it did. -/
def zrlePartsUptoRow : OpenClaim := { program := "ytfcamlibbfnldaagreat", sum := "0273fefc0b7182d625bdc1585162b1fda4d8d4d73de2cab7db8a4baeaa2a1af6", func := "mirador/miradorlaw19.ZrleParts", spec := "zrleParts", inPlace := ["internal/abi.NoEscape", "internal/bytealg.MakeNoZero"], unfollowed := true, recurses := true, apart := false, narrowed := true }
def ZrlePartsUptoSaid : Prop := zrlePartsUptoRow.holds Tryz.pinned (OpenSpec.upto zrlePartsSpec)

/-- 'miradorlaw20.TightNumbers', WHERE WHAT IT READS IS OF BULK AT MOST 1048576: true; the input reads as it did. -/
def tightNumbersUptoRow : OpenClaim := { program := "ytfcamlibbfnldaagreat", sum := "0273fefc0b7182d625bdc1585162b1fda4d8d4d73de2cab7db8a4baeaa2a1af6", func := "mirador/miradorlaw20.TightNumbers", spec := "tightNumbers", inPlace := ["internal/abi.NoEscape"], unfollowed := true, recurses := true, apart := false, narrowed := true }
def TightNumbersUptoSaid : Prop := tightNumbersUptoRow.holds Tryz.pinned (OpenSpec.upto tightNumbersSpec)

/-- 'miradorlaw21.ChooserChooses', WHERE WHAT IT READS IS OF BULK AT MOST 1048576: true; the input reads as it did. -/
def chooserChoosesUptoRow : OpenClaim := { program := "ytfcamlibbfnldaagreat", sum := "0273fefc0b7182d625bdc1585162b1fda4d8d4d73de2cab7db8a4baeaa2a1af6", func := "mirador/miradorlaw21.ChooserChooses", spec := "chooserChooses", inPlace := ["internal/abi.NoEscape", "internal/bytealg.MakeNoZero"], unfollowed := true, recurses := true, apart := false, narrowed := true }
def ChooserChoosesUptoSaid : Prop := chooserChoosesUptoRow.holds Tryz.pinned (OpenSpec.upto chooserChoosesSpec)

/-- 'miradorlaw21.ChooserOrder', WHERE WHAT IT READS IS OF BULK AT MOST 1048576: true; the input reads as it did. -/
def chooserOrderUptoRow : OpenClaim := { program := "ytfcamlibbfnldaagreat", sum := "0273fefc0b7182d625bdc1585162b1fda4d8d4d73de2cab7db8a4baeaa2a1af6", func := "mirador/miradorlaw21.ChooserOrder", spec := "chooserOrder", inPlace := ["internal/abi.NoEscape", "internal/bytealg.MakeNoZero"], unfollowed := true, recurses := true, apart := false, narrowed := true }
def ChooserOrderUptoSaid : Prop := chooserOrderUptoRow.holds Tryz.pinned (OpenSpec.upto chooserOrderSpec)

end Rows
end Go.Proofs.YtfcamlibbfnldaaGreat
