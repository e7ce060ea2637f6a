/- ChooserChooses answers true at every input, and its arguments read behind the call as they read before. -/
import Derived.Test.YtfcamlibbfnldaaGreatSC
import Derived.Test.YtfcamlibbfnldaaGreatRows
import Derived.WalkKit
import Derived.ProofKit
import Derived.OpenShut
import Derived.Test.YtfcamlibbfnldaaGreatPA
set_option linter.unusedSimpArgs false
set_option linter.unusedVariables false
set_option linter.unusedSectionVars false
namespace Go.Proofs.YtfcamlibbfnldaaGreat.Am
open Go.Am
open Go.ChangeShapes Go.WideShapes Go.ChangeAt Go.RowKit
theorem band {a b : Bool} (h : a = true) (k : b = true) : (a && b) = true := by rw [h, k]; rfl
theorem jf13_0 : Rows.chooserChoosesRow.wf (OpenSpec.ofChange Rows.chooserChoosesSpec) = true := by kernel_rfl
theorem jf13_1 : laidOutB Tryz.prog = true := by kernel_rfl
theorem jf13_2 : mapsRowed Tryz.prog = true := by kernel_rfl
theorem jf13_3 : Tryz.f13.params.all (Tryz.prog.readableRec ·) = true := by kernel_rfl
theorem jf13_4 : namedTie Tryz.prog Rows.chooserChoosesRow.named Rows.chooserChoosesSpec.vars = true := by kernel_rfl
theorem jf13_5 : (Rows.chooserChoosesRow.stops == []) = true := by kernel_rfl
theorem jf13_6 : (Tryz.prog.stops == []) = true := by kernel_rfl
theorem jf13_7 : (Rows.chooserChoosesRow.knobs == []) = true := by kernel_rfl
theorem jf13_8 : (Tryz.prog.stopKnobs == []) = true := by kernel_rfl
theorem jf13_9 : (Rows.chooserChoosesRow.inPlace == Tryz.prog.inPlace 13) = true := by kernel_rfl
theorem jf13_10 : (Rows.chooserChoosesRow.unfollowed == Tryz.prog.unfollowed 13) = true := by kernel_rfl
theorem jf13_11 : (Rows.chooserChoosesRow.recurses == Tryz.prog.recurses 13) = true := by kernel_rfl
theorem jf13_12 : (Rows.chooserChoosesRow.named == Tryz.prog.varsNamed 13) = true := by kernel_rfl
theorem jf13_13 : (Rows.chooserChoosesRow.maps == (Tryz.f13.params.toList ++ Rows.chooserChoosesSpec.plain.varTypes Tryz.prog).any (Tryz.prog.mapsRec ·)) = true := by kernel_rfl
theorem jf13_14 : (Rows.chooserChoosesRow.ifaces == (Tryz.f13.params.toList ++ Rows.chooserChoosesSpec.plain.varTypes Tryz.prog).any (Tryz.prog.ifacesRec ·)) = true := by kernel_rfl
theorem jf13_15 : (Rows.chooserChoosesRow.mapsOut == Tryz.prog.mapsAmong Tryz.f13.resultTypes.toList) = true := by kernel_rfl
theorem jf13_16 : (Rows.chooserChoosesRow.loops == (Tryz.f13.params.toList ++ Rows.chooserChoosesSpec.plain.varTypes Tryz.prog).any (Tryz.prog.loopsFrom ·)) = true := by kernel_rfl
theorem jf13_17 : (Rows.chooserChoosesRow.wideKeys == (Tryz.f13.params.toList ++ Rows.chooserChoosesSpec.plain.varTypes Tryz.prog ++ Tryz.f13.resultTypes.toList).any (Tryz.prog.wideKeysFrom ·)) = true := by kernel_rfl
theorem jf13_18 : Rows.chooserChoosesSpec.vars.all (Tryz.prog.varReadable ·) = true := by kernel_rfl
theorem jf13_19 : Tryz.f13.resultTypes.all (fun t => Tryz.prog.readableRec t && decide (t < Tryz.prog.types.size)) = true := by kernel_rfl
theorem jf13_20 : (Rows.chooserChoosesRow.ifacesOut == Tryz.f13.resultTypes.toList.any (Tryz.prog.ifacesRec ·)) = true := by kernel_rfl
theorem jf13_21 : (Rows.chooserChoosesRow.loopsOut == Tryz.f13.resultTypes.toList.any (Tryz.prog.loopsFrom ·)) = true := by kernel_rfl
theorem jf13_22 : (Rows.chooserChoosesRow.plainKeys == Tryz.prog.plainKeys) = true := by kernel_rfl
theorem jf13_23 : Rows.chooserChoosesRow.shortTexts.isNone = true := by kernel_rfl
theorem jf13_24 : Tryz.prog.stopsHeard = true := by kernel_rfl
theorem jf13_25 : Tryz.prog.mayEnter = true := by kernel_rfl
theorem jf13_26 : (Rows.chooserChoosesRow.lifted == Tryz.prog.liftsFinal) = true := by kernel_rfl
theorem jf13_27 : (Tryz.prog.make == some Rows.chooserChoosesRow.make) = true := by kernel_rfl
theorem jf13_28 : (Rows.chooserChoosesRow.kinds == (if Rows.chooserChoosesRow.domain.isEmpty then [] else Tryz.f13.params.toList.map fun t => match Tryz.prog.underlying t with | some (.int k) => some k | _ => none)) = true := by kernel_rfl
theorem jf13_29 : (Rows.chooserChoosesRow.pinned == Rows.chooserChoosesRow.pinnedBy) = true := by kernel_rfl
theorem jf13_30 : (Rows.chooserChoosesRow.veiled == (Tryz.f13.params.toList ++ Rows.chooserChoosesSpec.plain.varTypes Tryz.prog ++ Tryz.f13.resultTypes.toList).any (Tryz.prog.veiledRec ·)) = true := by kernel_rfl
theorem jf13_31 : Rows.chooserChoosesRow.veiledFits Tryz.prog Tryz.f13.params.toList (Tryz.f13.params.toList ++ Rows.chooserChoosesSpec.plain.varTypes Tryz.prog ++ Tryz.f13.resultTypes.toList) = true := by kernel_rfl
open Go.ChangeShapes Go.WideShapes Go.ChangeAt Go.RowKit
theorem own13 : ownKnob Tryz.prog.godebug = none := by kernel_rfl
theorem laid13 : laidOutB Tryz.prog = true := by kernel_rfl
set_option maxRecDepth 100000 in
theorem lifted13 (os : Os) (started : os.Started) (H : Type) (enc : TypeId × Value → H) :
    ReturnsInHanded {} Tryz.checked os 13 .any (Rows.chooserChoosesSpec.pre6 enc Tryz.prog Tryz.f13 Rows.chooserChoosesRow.domain false) (Rows.chooserChoosesSpec.post enc Tryz.prog Tryz.f13 false true false false) := by
  refine returnsInHanded_of_change (C := Tryz.checked) own13 started (by kernel_rfl) Tryz.func13
    (ChangeSpec.witness6 (enc := enc) (C := Tryz.checked) false ⟨#[], #[.slice none 0 0, .int .i64 0, .int .i64 0], []⟩ 8 (by kernel_rfl) (by kernel_rfl) (by kernel_rfl) (by kernel_rfl)) ?_
  intro W base args ds gs before hval0 hW hcnd _
  refine law_post (ts := [.sl (.int .i64), .int .i64, .int .i64]) laid13 (by kernel_rfl) (show Tryz.f13.resultTypes = #[4] by kernel_rfl) Tryz.underlying4 rfl ?_ ?_ W base args ds gs before hval0 hW
  · intro ds hds
    match ds, hds with
    | [_, _, _], _ => rfl
  · intro x wx
    obtain ⟨N, hN⟩ := (⟨200000, law13 works47 x.1 x.2.1 x.2.2.1⟩ : ∃ N, F13 N (x.1, x.2.1, x.2.2.1) = some true)
    exact ⟨⟨[.v (.bool true)], []⟩, (T13_ok N).call (by decide +kernel) (show (tellS s13 w13 (F13 N) _).to _ from tell_to (I := s13.I) (F := F13 N) (O := pO w13) (x := (x.1, x.2.1, x.2.2.1)) rfl hN rfl), rfl⟩
set_option maxRecDepth 100000 in
theorem joined13 : joinedFacts Tryz.prog 13 Tryz.f13 Rows.chooserChoosesSpec Rows.chooserChoosesRow = true := by
  unfold joinedFacts
  exact (band (band (band (band (band (band (band (band (band (band (band (band (band (band (band (band (band (band (band (band (band (band (band (band (band (band (band (band (band (band (band jf13_0 jf13_1) jf13_2) jf13_3) jf13_4) jf13_5) jf13_6) jf13_7) jf13_8) jf13_9) jf13_10) jf13_11) jf13_12) jf13_13) jf13_14) jf13_15) jf13_16) jf13_17) jf13_18) jf13_19) jf13_20) jf13_21) jf13_22) jf13_23) jf13_24) jf13_25) jf13_26) jf13_27) jf13_28) jf13_29) jf13_30) jf13_31)
theorem over13 : Rows.chooserChoosesRow.holds Tryz.pinned (OpenSpec.ofChange Rows.chooserChoosesSpec) :=
  OpenClaim.holds_of_wide 13 Tryz.f13 rfl rfl rfl rfl rfl rfl rfl ⟨rfl, rfl, rfl, rfl, rfl⟩ rfl rfl rfl rfl rfl (by kernel_rfl) Tryz.func13 joined13
    (of_decide_eq_true (by kernel_rfl)) (by unfold Func.isWrapper; first | (rw [if_pos (by decide +kernel)]; kernel_rfl) | (rw [if_neg (by decide +kernel)]; exact ⟨rfl, rfl⟩))
    (fun os started H enc _ => lifted13 os started H enc)
theorem chooserChooses_holds : Rows.ChooserChoosesSaid := over13
end Go.Proofs.YtfcamlibbfnldaaGreat.Am
