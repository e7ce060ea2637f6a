/- SymbolsBack answers true at every input, and its arguments read behind the call as they read before. -/
import Derived.Test.YtpjkklailofkjaaP48
import Derived.Test.YtpjkklailofkjaaRows
import Derived.WalkKit
import Derived.ProofKit
import Derived.OpenShut
namespace Go.Proofs.Ytpjkklailofkjaa.Am
open Go.Am
open Go.ChangeShapes Go.WideShapes Go.ChangeAt Go.RowKit
set_option linter.unusedVariables false

theorem own10 : ownKnob Try.prog.godebug = none := by kernel_rfl
theorem laid10 : laidOutB Try.prog = true := by kernel_rfl

set_option maxRecDepth 100000 in
theorem lifted10 (os : Os) (started : os.Started) (H : Type) (enc : TypeId × Value → H) :
    ReturnsInHanded {} Try.checked os 10 .any (Rows.symbolsBackSpec.pre6 enc Try.prog Try.f10 Rows.symbolsBackRow.domain false) (Rows.symbolsBackSpec.post enc Try.prog Try.f10 false true false false) := by
  refine returnsInHanded_of_change (C := Try.checked) own10 started (by kernel_rfl) Try.func10
    (ChangeSpec.witness6 (enc := enc) (C := Try.checked) false ⟨#[], #[.slice none 0 0, .string .empty], []⟩ 8 (by kernel_rfl) (by kernel_rfl) (by kernel_rfl) (by kernel_rfl)) ?_
  intro W base args ds gs before hval0 hW hcnd _
  refine law_post (ts := [.sl (.cons (.int .i64) (.cons (.int .i64) (.cons (.int .i64) .unit))),.str]) laid10 (by kernel_rfl) (show Try.f10.resultTypes = #[4] by kernel_rfl) Try.underlying4 rfl ?_ ?_ W base args ds gs before hval0 hW
  · intro ds hds
    match ds, hds with
    | [_, _], _ => rfl
  · intro x wx
    obtain ⟨N, hN⟩ := (⟨200000, law10 works29 x.1 x.2.1⟩ : ∃ N, F10 N (x.1, x.2.1) = some true)
    exact ⟨⟨[.v (.bool true)], []⟩, T10_ok N _ _ (tell_to (x := (x.1, x.2.1)) rfl hN rfl), rfl⟩

theorem over10 : Rows.symbolsBackRow.holds Try.pinned (OpenSpec.ofChange Rows.symbolsBackSpec) :=
  OpenClaim.holds_of_wide 10 Try.f10 rfl rfl rfl rfl rfl rfl rfl ⟨rfl, rfl, rfl, rfl, rfl⟩ rfl rfl rfl rfl rfl (by kernel_rfl) Try.func10 (by kernel_rfl)
    (of_decide_eq_true (by kernel_rfl)) (by unfold Func.isWrapper; first | (rw [if_pos (by decide +kernel)]; kernel_rfl) | (rw [if_neg (by decide +kernel)]; exact ⟨rfl, rfl⟩))
    (fun os started H enc _ => lifted10 os started H enc)

theorem symbolsBack_holds : Rows.SymbolsBackSaid := over10

end Go.Proofs.Ytpjkklailofkjaa.Am
