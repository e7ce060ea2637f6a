/- HuffmanScale answers true at every input, and its arguments read behind the call as they read before. -/
import Derived.Test.YtpjkklailofkjaaP47
import Derived.Test.YtpjkklailofkjaaRows
import Derived.WalkKit
import Derived.ProofKit
import Derived.OpenShut
namespace Go.Proofs.Ytpjkklailofkjaa.Am
open Go.Am
open Go.ChangeShapes Go.WideShapes Go.ChangeAt Go.RowKit
set_option linter.unusedVariables false

theorem own7 : ownKnob Try.prog.godebug = none := by kernel_rfl
theorem laid7 : laidOutB Try.prog = true := by kernel_rfl

set_option maxRecDepth 100000 in
theorem lifted7 (os : Os) (started : os.Started) (H : Type) (enc : TypeId × Value → H) :
    ReturnsInHanded {} Try.checked os 7 .any (Rows.huffmanScaleSpec.pre6 enc Try.prog Try.f7 Rows.huffmanScaleRow.domain false) (Rows.huffmanScaleSpec.post enc Try.prog Try.f7 false true false false) := by
  refine returnsInHanded_of_change (C := Try.checked) own7 started (by kernel_rfl) Try.func7
    (ChangeSpec.witness6 (enc := enc) (C := Try.checked) false ⟨#[], #[.slice none 0 0, .int .i64 0, .int .i64 0], []⟩ 8 (by kernel_rfl) (by kernel_rfl) (by kernel_rfl) (by kernel_rfl)) ?_
  intro W base args ds gs before hval0 hW hcnd _
  refine law_post (ts := [.sl (.int .i64),.int .i64,.int .i64]) laid7 (by kernel_rfl) (show Try.f7.resultTypes = #[4] by kernel_rfl) Try.underlying4 rfl ?_ ?_ W base args ds gs before hval0 hW
  · intro ds hds
    match ds, hds with
    | [_, _, _], _ => rfl
  · intro x wx
    obtain ⟨N, hN⟩ := (⟨200000, law7 works11b x.1 x.2.1 x.2.2.1⟩ : ∃ N, F7 N (x.1, x.2.1, x.2.2.1) = some true)
    exact ⟨⟨[.v (.bool true)], []⟩, T7_ok N _ _ (tell_to (x := (x.1, x.2.1, x.2.2.1)) rfl hN rfl), rfl⟩

theorem over7 : Rows.huffmanScaleRow.holds Try.pinned (OpenSpec.ofChange Rows.huffmanScaleSpec) :=
  OpenClaim.holds_of_wide 7 Try.f7 rfl rfl rfl rfl rfl rfl rfl ⟨rfl, rfl, rfl, rfl, rfl⟩ rfl rfl rfl rfl rfl (by kernel_rfl) Try.func7 (by kernel_rfl)
    (of_decide_eq_true (by kernel_rfl)) (by unfold Func.isWrapper; first | (rw [if_pos (by decide +kernel)]; kernel_rfl) | (rw [if_neg (by decide +kernel)]; exact ⟨rfl, rfl⟩))
    (fun os started H enc _ => lifted7 os started H enc)

theorem huffmanScale_holds : Rows.HuffmanScaleSaid := over7

end Go.Proofs.Ytpjkklailofkjaa.Am
