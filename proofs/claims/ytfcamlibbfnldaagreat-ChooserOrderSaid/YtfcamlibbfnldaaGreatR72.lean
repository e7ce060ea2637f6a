/- ChooserOrder answers true at every input, and its arguments read behind the call as they read before. -/
import Derived.Test.YtfcamlibbfnldaaGreatSC
import Derived.Test.YtfcamlibbfnldaaGreatRows
import Derived.WalkKit
import Derived.ProofKit
import Derived.OpenShut
import Derived.Test.YtfcamlibbfnldaaGreatPA
set_option linter.unusedSimpArgs false
set_option linter.unusedVariables false
set_option linter.unusedSectionVars false
namespace Go.Proofs.YtfcamlibbfnldaaGreat.Am
open Go.Am
open Go.ChangeShapes Go.WideShapes Go.ChangeAt Go.RowKit
theorem band {a b : Bool} (h : a = true) (k : b = true) : (a && b) = true := by rw [h, k]; rfl
theorem jf14_0 : Rows.chooserOrderRow.wf (OpenSpec.ofChange Rows.chooserOrderSpec) = true := by kernel_rfl
theorem jf14_1 : laidOutB Tryz.prog = true := by kernel_rfl
theorem jf14_2 : mapsRowed Tryz.prog = true := by kernel_rfl
theorem jf14_3 : Tryz.f14.params.all (Tryz.prog.readableRec ·) = true := by kernel_rfl
theorem jf14_4 : namedTie Tryz.prog Rows.chooserOrderRow.named Rows.chooserOrderSpec.vars = true := by kernel_rfl
theorem jf14_5 : (Rows.chooserOrderRow.stops == []) = true := by kernel_rfl
theorem jf14_6 : (Tryz.prog.stops == []) = true := by kernel_rfl
theorem jf14_7 : (Rows.chooserOrderRow.knobs == []) = true := by kernel_rfl
theorem jf14_8 : (Tryz.prog.stopKnobs == []) = true := by kernel_rfl
theorem jf14_9 : (Rows.chooserOrderRow.inPlace == Tryz.prog.inPlace 14) = true := by kernel_rfl
theorem jf14_10 : (Rows.chooserOrderRow.unfollowed == Tryz.prog.unfollowed 14) = true := by kernel_rfl
theorem jf14_11 : (Rows.chooserOrderRow.recurses == Tryz.prog.recurses 14) = true := by kernel_rfl
theorem jf14_12 : (Rows.chooserOrderRow.named == Tryz.prog.varsNamed 14) = true := by kernel_rfl
theorem jf14_13 : (Rows.chooserOrderRow.maps == (Tryz.f14.params.toList ++ Rows.chooserOrderSpec.plain.varTypes Tryz.prog).any (Tryz.prog.mapsRec ·)) = true := by kernel_rfl
theorem jf14_14 : (Rows.chooserOrderRow.ifaces == (Tryz.f14.params.toList ++ Rows.chooserOrderSpec.plain.varTypes Tryz.prog).any (Tryz.prog.ifacesRec ·)) = true := by kernel_rfl
theorem jf14_15 : (Rows.chooserOrderRow.mapsOut == Tryz.prog.mapsAmong Tryz.f14.resultTypes.toList) = true := by kernel_rfl
theorem jf14_16 : (Rows.chooserOrderRow.loops == (Tryz.f14.params.toList ++ Rows.chooserOrderSpec.plain.varTypes Tryz.prog).any (Tryz.prog.loopsFrom ·)) = true := by kernel_rfl
theorem jf14_17 : (Rows.chooserOrderRow.wideKeys == (Tryz.f14.params.toList ++ Rows.chooserOrderSpec.plain.varTypes Tryz.prog ++ Tryz.f14.resultTypes.toList).any (Tryz.prog.wideKeysFrom ·)) = true := by kernel_rfl
theorem jf14_18 : Rows.chooserOrderSpec.vars.all (Tryz.prog.varReadable ·) = true := by kernel_rfl
theorem jf14_19 : Tryz.f14.resultTypes.all (fun t => Tryz.prog.readableRec t && decide (t < Tryz.prog.types.size)) = true := by kernel_rfl
theorem jf14_20 : (Rows.chooserOrderRow.ifacesOut == Tryz.f14.resultTypes.toList.any (Tryz.prog.ifacesRec ·)) = true := by kernel_rfl
theorem jf14_21 : (Rows.chooserOrderRow.loopsOut == Tryz.f14.resultTypes.toList.any (Tryz.prog.loopsFrom ·)) = true := by kernel_rfl
theorem jf14_22 : (Rows.chooserOrderRow.plainKeys == Tryz.prog.plainKeys) = true := by kernel_rfl
theorem jf14_23 : Rows.chooserOrderRow.shortTexts.isNone = true := by kernel_rfl
theorem jf14_24 : Tryz.prog.stopsHeard = true := by kernel_rfl
theorem jf14_25 : Tryz.prog.mayEnter = true := by kernel_rfl
theorem jf14_26 : (Rows.chooserOrderRow.lifted == Tryz.prog.liftsFinal) = true := by kernel_rfl
theorem jf14_27 : (Tryz.prog.make == some Rows.chooserOrderRow.make) = true := by kernel_rfl
theorem jf14_28 : (Rows.chooserOrderRow.kinds == (if Rows.chooserOrderRow.domain.isEmpty then [] else Tryz.f14.params.toList.map fun t => match Tryz.prog.underlying t with | some (.int k) => some k | _ => none)) = true := by kernel_rfl
theorem jf14_29 : (Rows.chooserOrderRow.pinned == Rows.chooserOrderRow.pinnedBy) = true := by kernel_rfl
theorem jf14_30 : (Rows.chooserOrderRow.veiled == (Tryz.f14.params.toList ++ Rows.chooserOrderSpec.plain.varTypes Tryz.prog ++ Tryz.f14.resultTypes.toList).any (Tryz.prog.veiledRec ·)) = true := by kernel_rfl
theorem jf14_31 : Rows.chooserOrderRow.veiledFits Tryz.prog Tryz.f14.params.toList (Tryz.f14.params.toList ++ Rows.chooserOrderSpec.plain.varTypes Tryz.prog ++ Tryz.f14.resultTypes.toList) = true := by kernel_rfl
open Go.ChangeShapes Go.WideShapes Go.ChangeAt Go.RowKit
theorem own14 : ownKnob Tryz.prog.godebug = none := by kernel_rfl
theorem laid14 : laidOutB Tryz.prog = true := by kernel_rfl
set_option maxRecDepth 100000 in
theorem lifted14 (os : Os) (started : os.Started) (H : Type) (enc : TypeId × Value → H) :
    ReturnsInHanded {} Tryz.checked os 14 .any (Rows.chooserOrderSpec.pre6 enc Tryz.prog Tryz.f14 Rows.chooserOrderRow.domain false) (Rows.chooserOrderSpec.post enc Tryz.prog Tryz.f14 false true false false) := by
  refine returnsInHanded_of_change (C := Tryz.checked) own14 started (by kernel_rfl) Tryz.func14
    (ChangeSpec.witness6 (enc := enc) (C := Tryz.checked) false ⟨#[], #[.slice none 0 0, .slice none 0 0, .int .i64 0], []⟩ 8 (by kernel_rfl) (by kernel_rfl) (by kernel_rfl) (by kernel_rfl)) ?_
  intro W base args ds gs before hval0 hW hcnd _
  refine law_post (ts := [.sl (.int .i64), .sl (.int .i64), .int .i64]) laid14 (by kernel_rfl) (show Tryz.f14.resultTypes = #[4] by kernel_rfl) Tryz.underlying4 rfl ?_ ?_ W base args ds gs before hval0 hW
  · intro ds hds
    match ds, hds with
    | [_, _, _], _ => rfl
  · intro x wx
    obtain ⟨N, hN⟩ := (⟨200000, law14 works47 x.1 x.2.1 x.2.2.1⟩ : ∃ N, F14 N (x.1, x.2.1, x.2.2.1) = some true)
    exact ⟨⟨[.v (.bool true)], []⟩, (T14_ok N).call (by decide +kernel) (show (tellS s14 w14 (F14 N) _).to _ from tell_to (I := s14.I) (F := F14 N) (O := pO w14) (x := (x.1, x.2.1, x.2.2.1)) rfl hN rfl), rfl⟩
set_option maxRecDepth 100000 in
theorem joined14 : joinedFacts Tryz.prog 14 Tryz.f14 Rows.chooserOrderSpec Rows.chooserOrderRow = true := by
  unfold joinedFacts
  exact (band (band (band (band (band (band (band (band (band (band (band (band (band (band (band (band (band (band (band (band (band (band (band (band (band (band (band (band (band (band (band jf14_0 jf14_1) jf14_2) jf14_3) jf14_4) jf14_5) jf14_6) jf14_7) jf14_8) jf14_9) jf14_10) jf14_11) jf14_12) jf14_13) jf14_14) jf14_15) jf14_16) jf14_17) jf14_18) jf14_19) jf14_20) jf14_21) jf14_22) jf14_23) jf14_24) jf14_25) jf14_26) jf14_27) jf14_28) jf14_29) jf14_30) jf14_31)
theorem over14 : Rows.chooserOrderRow.holds Tryz.pinned (OpenSpec.ofChange Rows.chooserOrderSpec) :=
  OpenClaim.holds_of_wide 14 Tryz.f14 rfl rfl rfl rfl rfl rfl rfl ⟨rfl, rfl, rfl, rfl, rfl⟩ rfl rfl rfl rfl rfl (by kernel_rfl) Tryz.func14 joined14
    (of_decide_eq_true (by kernel_rfl)) (by unfold Func.isWrapper; first | (rw [if_pos (by decide +kernel)]; kernel_rfl) | (rw [if_neg (by decide +kernel)]; exact ⟨rfl, rfl⟩))
    (fun os started H enc _ => lifted14 os started H enc)
theorem chooserOrder_holds : Rows.ChooserOrderSaid := over14
end Go.Proofs.YtfcamlibbfnldaaGreat.Am
