/- PictureChunks answers true at every input, and its arguments read behind the call as they read before. -/
import Derived.Test.YtfcamlibbfnldaaGreatSD
import Derived.Test.YtfcamlibbfnldaaGreatRows
import Derived.WalkKit
import Derived.ProofKit
import Derived.OpenShut
import Derived.Test.YtfcamlibbfnldaaGreatPA
set_option linter.unusedSimpArgs false
set_option linter.unusedVariables false
set_option linter.unusedSectionVars false
namespace Go.Proofs.YtfcamlibbfnldaaGreat.Am
open Go.Am
open Go.ChangeShapes Go.WideShapes Go.ChangeAt Go.RowKit
theorem band {a b : Bool} (h : a = true) (k : b = true) : (a && b) = true := by rw [h, k]; rfl
theorem jf3_0 : Rows.pictureChunksRow.wf (OpenSpec.ofChange Rows.pictureChunksSpec) = true := by kernel_rfl
theorem jf3_1 : laidOutB Tryz.prog = true := by kernel_rfl
theorem jf3_2 : mapsRowed Tryz.prog = true := by kernel_rfl
theorem jf3_3 : Tryz.f3.params.all (Tryz.prog.readableRec ·) = true := by kernel_rfl
theorem jf3_4 : namedTie Tryz.prog Rows.pictureChunksRow.named Rows.pictureChunksSpec.vars = true := by kernel_rfl
theorem jf3_5 : (Rows.pictureChunksRow.stops == []) = true := by kernel_rfl
theorem jf3_6 : (Tryz.prog.stops == []) = true := by kernel_rfl
theorem jf3_7 : (Rows.pictureChunksRow.knobs == []) = true := by kernel_rfl
theorem jf3_8 : (Tryz.prog.stopKnobs == []) = true := by kernel_rfl
theorem jf3_9 : (Rows.pictureChunksRow.inPlace == Tryz.prog.inPlace 3) = true := by kernel_rfl
theorem jf3_10 : (Rows.pictureChunksRow.unfollowed == Tryz.prog.unfollowed 3) = true := by kernel_rfl
theorem jf3_11 : (Rows.pictureChunksRow.recurses == Tryz.prog.recurses 3) = true := by kernel_rfl
theorem jf3_12 : (Rows.pictureChunksRow.named == Tryz.prog.varsNamed 3) = true := by kernel_rfl
theorem jf3_13 : (Rows.pictureChunksRow.maps == (Tryz.f3.params.toList ++ Rows.pictureChunksSpec.plain.varTypes Tryz.prog).any (Tryz.prog.mapsRec ·)) = true := by kernel_rfl
theorem jf3_14 : (Rows.pictureChunksRow.ifaces == (Tryz.f3.params.toList ++ Rows.pictureChunksSpec.plain.varTypes Tryz.prog).any (Tryz.prog.ifacesRec ·)) = true := by kernel_rfl
theorem jf3_15 : (Rows.pictureChunksRow.mapsOut == Tryz.prog.mapsAmong Tryz.f3.resultTypes.toList) = true := by kernel_rfl
theorem jf3_16 : (Rows.pictureChunksRow.loops == (Tryz.f3.params.toList ++ Rows.pictureChunksSpec.plain.varTypes Tryz.prog).any (Tryz.prog.loopsFrom ·)) = true := by kernel_rfl
theorem jf3_17 : (Rows.pictureChunksRow.wideKeys == (Tryz.f3.params.toList ++ Rows.pictureChunksSpec.plain.varTypes Tryz.prog ++ Tryz.f3.resultTypes.toList).any (Tryz.prog.wideKeysFrom ·)) = true := by kernel_rfl
theorem jf3_18 : Rows.pictureChunksSpec.vars.all (Tryz.prog.varReadable ·) = true := by kernel_rfl
theorem jf3_19 : Tryz.f3.resultTypes.all (fun t => Tryz.prog.readableRec t && decide (t < Tryz.prog.types.size)) = true := by kernel_rfl
theorem jf3_20 : (Rows.pictureChunksRow.ifacesOut == Tryz.f3.resultTypes.toList.any (Tryz.prog.ifacesRec ·)) = true := by kernel_rfl
theorem jf3_21 : (Rows.pictureChunksRow.loopsOut == Tryz.f3.resultTypes.toList.any (Tryz.prog.loopsFrom ·)) = true := by kernel_rfl
theorem jf3_22 : (Rows.pictureChunksRow.plainKeys == Tryz.prog.plainKeys) = true := by kernel_rfl
theorem jf3_23 : Rows.pictureChunksRow.shortTexts.isNone = true := by kernel_rfl
theorem jf3_24 : Tryz.prog.stopsHeard = true := by kernel_rfl
theorem jf3_25 : Tryz.prog.mayEnter = true := by kernel_rfl
theorem jf3_26 : (Rows.pictureChunksRow.lifted == Tryz.prog.liftsFinal) = true := by kernel_rfl
theorem jf3_27 : (Tryz.prog.make == some Rows.pictureChunksRow.make) = true := by kernel_rfl
theorem jf3_28 : (Rows.pictureChunksRow.kinds == (if Rows.pictureChunksRow.domain.isEmpty then [] else Tryz.f3.params.toList.map fun t => match Tryz.prog.underlying t with | some (.int k) => some k | _ => none)) = true := by kernel_rfl
theorem jf3_29 : (Rows.pictureChunksRow.pinned == Rows.pictureChunksRow.pinnedBy) = true := by kernel_rfl
theorem jf3_30 : (Rows.pictureChunksRow.veiled == (Tryz.f3.params.toList ++ Rows.pictureChunksSpec.plain.varTypes Tryz.prog ++ Tryz.f3.resultTypes.toList).any (Tryz.prog.veiledRec ·)) = true := by kernel_rfl
theorem jf3_31 : Rows.pictureChunksRow.veiledFits Tryz.prog Tryz.f3.params.toList (Tryz.f3.params.toList ++ Rows.pictureChunksSpec.plain.varTypes Tryz.prog ++ Tryz.f3.resultTypes.toList) = true := by kernel_rfl
open Go.ChangeShapes Go.WideShapes Go.ChangeAt Go.RowKit
theorem own3 : ownKnob Tryz.prog.godebug = none := by kernel_rfl
theorem laid3 : laidOutB Tryz.prog = true := by kernel_rfl
set_option maxRecDepth 100000 in
theorem lifted3 (os : Os) (started : os.Started) (H : Type) (enc : TypeId × Value → H) :
    ReturnsInHanded {} Tryz.checked os 3 .any (Rows.pictureChunksSpec.pre6 enc Tryz.prog Tryz.f3 Rows.pictureChunksRow.domain false) (Rows.pictureChunksSpec.post enc Tryz.prog Tryz.f3 false true false false) := by
  refine returnsInHanded_of_change (C := Tryz.checked) own3 started (by kernel_rfl) Tryz.func3
    (ChangeSpec.witness6 (enc := enc) (C := Tryz.checked) false ⟨#[], #[.string .empty, .string .empty, .string .empty], []⟩ 8 (by kernel_rfl) (by kernel_rfl) (by kernel_rfl) (by kernel_rfl)) ?_
  intro W base args ds gs before hval0 hW hcnd _
  refine law_post (ts := [.str, .str, .str]) laid3 (by kernel_rfl) (show Tryz.f3.resultTypes = #[4] by kernel_rfl) Tryz.underlying4 rfl ?_ ?_ W base args ds gs before hval0 hW
  · intro ds hds
    match ds, hds with
    | [_, _, _], _ => rfl
  · intro x wx
    obtain ⟨N, hN⟩ := (⟨200000, law3 works15 x.1 x.2.1 x.2.2.1⟩ : ∃ N, F3 N (x.1, x.2.1, x.2.2.1) = some true)
    exact ⟨⟨[.v (.bool true)], []⟩, (T3_ok N).call (by decide +kernel) (show (tellS s3 w3 (F3 N) _).to _ from tell_to (I := s3.I) (F := F3 N) (O := pO w3) (x := (x.1, x.2.1, x.2.2.1)) rfl hN rfl), rfl⟩
set_option maxRecDepth 100000 in
theorem joined3 : joinedFacts Tryz.prog 3 Tryz.f3 Rows.pictureChunksSpec Rows.pictureChunksRow = true := by
  unfold joinedFacts
  exact (band (band (band (band (band (band (band (band (band (band (band (band (band (band (band (band (band (band (band (band (band (band (band (band (band (band (band (band (band (band (band jf3_0 jf3_1) jf3_2) jf3_3) jf3_4) jf3_5) jf3_6) jf3_7) jf3_8) jf3_9) jf3_10) jf3_11) jf3_12) jf3_13) jf3_14) jf3_15) jf3_16) jf3_17) jf3_18) jf3_19) jf3_20) jf3_21) jf3_22) jf3_23) jf3_24) jf3_25) jf3_26) jf3_27) jf3_28) jf3_29) jf3_30) jf3_31)
theorem over3 : Rows.pictureChunksRow.holds Tryz.pinned (OpenSpec.ofChange Rows.pictureChunksSpec) :=
  OpenClaim.holds_of_wide 3 Tryz.f3 rfl rfl rfl rfl rfl rfl rfl ⟨rfl, rfl, rfl, rfl, rfl⟩ rfl rfl rfl rfl rfl (by kernel_rfl) Tryz.func3 joined3
    (of_decide_eq_true (by kernel_rfl)) (by unfold Func.isWrapper; first | (rw [if_pos (by decide +kernel)]; kernel_rfl) | (rw [if_neg (by decide +kernel)]; exact ⟨rfl, rfl⟩))
    (fun os started H enc _ => lifted3 os started H enc)
theorem pictureChunks_holds : Rows.PictureChunksSaid := over3
end Go.Proofs.YtfcamlibbfnldaaGreat.Am
