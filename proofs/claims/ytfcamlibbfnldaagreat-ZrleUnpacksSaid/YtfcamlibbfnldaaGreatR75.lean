/- ZrleUnpacks answers true at every input, and its arguments read behind the call as they read before. -/
import Derived.Test.YtfcamlibbfnldaaGreatSD
import Derived.Test.YtfcamlibbfnldaaGreatRows
import Derived.WalkKit
import Derived.ProofKit
import Derived.OpenShut
import Derived.Test.YtfcamlibbfnldaaGreatPA
import Derived.Test.YtfcamlibbfnldaaGreatPC
set_option linter.unusedSimpArgs false
set_option linter.unusedVariables false
set_option linter.unusedSectionVars false
namespace Go.Proofs.YtfcamlibbfnldaaGreat.Am
open Go.Am
open Go.ChangeShapes Go.WideShapes Go.ChangeAt Go.RowKit
theorem cu {a b : Bool} (h : a = true) (k : b = true) : (a && b) = true := by rw [h,k]; rfl
theorem au1 : Rows.zrleUnpacksRow.wf (OpenSpec.ofChange Rows.zrleUnpacksSpec) = true := by kernel_rfl
theorem au0 : laidOutB Tryz.prog = true := by kernel_rfl
theorem at7 : mapsRowed Tryz.prog = true := by kernel_rfl
theorem at6 : Tryz.f7.params.all (Tryz.prog.readableRec ·) = true := by kernel_rfl
theorem at5 : namedTie Tryz.prog Rows.zrleUnpacksRow.named Rows.zrleUnpacksSpec.vars = true := by kernel_rfl
theorem at1 : (Rows.zrleUnpacksRow.stops == []) = true := by kernel_rfl
theorem at0 : (Tryz.prog.stops == []) = true := by kernel_rfl
theorem as9 : (Rows.zrleUnpacksRow.knobs == []) = true := by kernel_rfl
theorem as8 : (Tryz.prog.stopKnobs == []) = true := by kernel_rfl
theorem as7 : (Rows.zrleUnpacksRow.inPlace == Tryz.prog.inPlace 7) = true := by kernel_rfl
theorem Z2 : (Rows.zrleUnpacksRow.unfollowed == Tryz.prog.unfollowed 7) = true := by kernel_rfl
theorem Z1 : (Rows.zrleUnpacksRow.recurses == Tryz.prog.recurses 7) = true := by kernel_rfl
theorem Z0 : (Rows.zrleUnpacksRow.named == Tryz.prog.varsNamed 7) = true := by kernel_rfl
theorem ZZ : (Rows.zrleUnpacksRow.maps == (Tryz.f7.params.toList ++ Rows.zrleUnpacksSpec.plain.varTypes Tryz.prog).any (Tryz.prog.mapsRec ·)) = true := by kernel_rfl
theorem ZY : (Rows.zrleUnpacksRow.ifaces == (Tryz.f7.params.toList ++ Rows.zrleUnpacksSpec.plain.varTypes Tryz.prog).any (Tryz.prog.ifacesRec ·)) = true := by kernel_rfl
theorem ZX : (Rows.zrleUnpacksRow.mapsOut == Tryz.prog.mapsAmong Tryz.f7.resultTypes.toList) = true := by kernel_rfl
theorem ZW : (Rows.zrleUnpacksRow.loops == (Tryz.f7.params.toList ++ Rows.zrleUnpacksSpec.plain.varTypes Tryz.prog).any (Tryz.prog.loopsFrom ·)) = true := by kernel_rfl
theorem ZV : (Rows.zrleUnpacksRow.wideKeys == (Tryz.f7.params.toList ++ Rows.zrleUnpacksSpec.plain.varTypes Tryz.prog ++ Tryz.f7.resultTypes.toList).any (Tryz.prog.wideKeysFrom ·)) = true := by kernel_rfl
theorem ZU : Rows.zrleUnpacksSpec.vars.all (Tryz.prog.varReadable ·) = true := by kernel_rfl
theorem ZT : Tryz.f7.resultTypes.all (fun t => Tryz.prog.readableRec t && decide (t < Tryz.prog.types.size)) = true := by kernel_rfl
theorem ZS : (Rows.zrleUnpacksRow.ifacesOut == Tryz.f7.resultTypes.toList.any (Tryz.prog.ifacesRec ·)) = true := by kernel_rfl
theorem ZR : (Rows.zrleUnpacksRow.loopsOut == Tryz.f7.resultTypes.toList.any (Tryz.prog.loopsFrom ·)) = true := by kernel_rfl
theorem ZQ : (Rows.zrleUnpacksRow.plainKeys == Tryz.prog.plainKeys) = true := by kernel_rfl
theorem ZP : Rows.zrleUnpacksRow.shortTexts.isNone = true := by kernel_rfl
theorem ZO : Tryz.prog.stopsHeard = true := by kernel_rfl
theorem ZN : Tryz.prog.mayEnter = true := by kernel_rfl
theorem ZM : (Rows.zrleUnpacksRow.lifted == Tryz.prog.liftsFinal) = true := by kernel_rfl
theorem ZL : (Tryz.prog.make == some Rows.zrleUnpacksRow.make) = true := by kernel_rfl
theorem ZK : (Rows.zrleUnpacksRow.kinds == (if Rows.zrleUnpacksRow.domain.isEmpty then [] else Tryz.f7.params.toList.map fun t => match Tryz.prog.underlying t with | some (.int k) => some k | _ => none)) = true := by kernel_rfl
theorem ZJ : (Rows.zrleUnpacksRow.pinned == Rows.zrleUnpacksRow.pinnedBy) = true := by kernel_rfl
theorem ZI : (Rows.zrleUnpacksRow.veiled == (Tryz.f7.params.toList ++ Rows.zrleUnpacksSpec.plain.varTypes Tryz.prog ++ Tryz.f7.resultTypes.toList).any (Tryz.prog.veiledRec ·)) = true := by kernel_rfl
theorem ZH : Rows.zrleUnpacksRow.veiledFits Tryz.prog Tryz.f7.params.toList (Tryz.f7.params.toList ++ Rows.zrleUnpacksSpec.plain.varTypes Tryz.prog ++ Tryz.f7.resultTypes.toList) = true := by kernel_rfl
open Go.ChangeShapes Go.WideShapes Go.ChangeAt Go.RowKit
theorem aJ7 : ownKnob Tryz.prog.godebug = none := by kernel_rfl
theorem as6 : laidOutB Tryz.prog = true := by kernel_rfl
set_option maxRecDepth 100000 in
theorem SY (os : Os) (started : os.Started) (H : Type) (enc : TypeId × Value → H) :
    ReturnsInHanded {} Tryz.checked os 7 .any (Rows.zrleUnpacksSpec.pre6 enc Tryz.prog Tryz.f7 Rows.zrleUnpacksRow.domain false) (Rows.zrleUnpacksSpec.post enc Tryz.prog Tryz.f7 false true false false) := by
  refine returnsInHanded_of_change (C := Tryz.checked) aJ7 started (by kernel_rfl) Tryz.func7
    (ChangeSpec.witness6 (enc := enc) (C := Tryz.checked) false ⟨#[],#[.agg #[.int .i64 0,.int .i64 0,.bool false,.bool false,.int .i64 0,.int .i64 0,.int .i64 0,.int .i64 0,.int .i64 0,.int .i64 0],.int .i64 0,.int .i64 0,.string .empty],[]⟩ 8 (by kernel_rfl) (by kernel_rfl) (by kernel_rfl) (by kernel_rfl)) ?_
  intro W base args ds gs before hval0 hW hcnd _
  refine PH (ts := [.cons (.int .i64) (.cons (.int .i64) (.cons .bool (.cons .bool (.cons (.int .i64) (.cons (.int .i64) (.cons (.int .i64) (.cons (.int .i64) (.cons (.int .i64) (.cons (.int .i64) .unit))))))))),.int .i64,.int .i64,.str]) as6 (by kernel_rfl) (show Tryz.f7.resultTypes = #[4] by kernel_rfl) Tryz.underlying4 rfl ?_ ?_ W base args ds gs before hval0 hW
  · intro ds hds
    match ds,hds with
    | [_,_,_,_],_ => rfl
  · intro x wx
    obtain ⟨N,hN⟩ := (⟨200000,aJ9 x.1.1 x.1.2.1 x.1.2.2.1 x.1.2.2.2.1 x.1.2.2.2.2.1 x.1.2.2.2.2.2.1 x.1.2.2.2.2.2.2.1 x.1.2.2.2.2.2.2.2.1 x.1.2.2.2.2.2.2.2.2.1 x.1.2.2.2.2.2.2.2.2.2.1 Su x.2.1 x.2.2.1 x.2.2.2.1⟩ : ∃ N,F7 N (x.1.1,x.1.2.1,x.1.2.2.1,x.1.2.2.2.1,x.1.2.2.2.2.1,x.1.2.2.2.2.2.1,x.1.2.2.2.2.2.2.1,x.1.2.2.2.2.2.2.2.1,x.1.2.2.2.2.2.2.2.2.1,x.1.2.2.2.2.2.2.2.2.2.1,x.2.1,x.2.2.1,x.2.2.2.1) = some true)
    exact ⟨⟨[.v (.bool true)],[]⟩,(av9 N).call (by decide +kernel) (show (ag s7 w7 (F7 N) _).to _ from Sv (I := s7.I) (F := F7 N) (O := pO w7) (x := (x.1.1,x.1.2.1,x.1.2.2.1,x.1.2.2.2.1,x.1.2.2.2.2.1,x.1.2.2.2.2.2.1,x.1.2.2.2.2.2.2.1,x.1.2.2.2.2.2.2.2.1,x.1.2.2.2.2.2.2.2.2.1,x.1.2.2.2.2.2.2.2.2.2.1,x.2.1,x.2.2.1,x.2.2.2.1)) rfl hN rfl),rfl⟩
set_option maxRecDepth 100000 in
theorem S0 : joinedFacts Tryz.prog 7 Tryz.f7 Rows.zrleUnpacksSpec Rows.zrleUnpacksRow = true := by
  unfold joinedFacts
  exact (cu (cu (cu (cu (cu (cu (cu (cu (cu (cu (cu (cu (cu (cu (cu (cu (cu (cu (cu (cu (cu (cu (cu (cu (cu (cu (cu (cu (cu (cu (cu au1 au0) at7) at6) at5) at1) at0) as9) as8) as7) Z2) Z1) Z0) ZZ) ZY) ZX) ZW) ZV) ZU) ZT) ZS) ZR) ZQ) ZP) ZO) ZN) ZM) ZL) ZK) ZJ) ZI) ZH)
theorem ar9 : Rows.zrleUnpacksRow.holds Tryz.pinned (OpenSpec.ofChange Rows.zrleUnpacksSpec) :=
  OpenClaim.holds_of_wide 7 Tryz.f7 rfl rfl rfl rfl rfl rfl rfl ⟨rfl,rfl,rfl,rfl,rfl⟩ rfl rfl rfl rfl rfl (by kernel_rfl) Tryz.func7 S0
    (of_decide_eq_true (by kernel_rfl)) (by unfold Func.isWrapper; first | (rw [if_pos (by decide +kernel)]; kernel_rfl) | (rw [if_neg (by decide +kernel)]; exact ⟨rfl,rfl⟩))
    (fun os started H enc _ => SY os started H enc)
theorem zrleUnpacks_holds : Rows.ZrleUnpacksSaid := ar9
end Go.Proofs.YtfcamlibbfnldaaGreat.Am
