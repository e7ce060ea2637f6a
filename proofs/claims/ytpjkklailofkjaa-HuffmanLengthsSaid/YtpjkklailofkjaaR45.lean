/- HuffmanLengths answers true at every input, and its arguments read behind the call as they read before. -/
import Derived.Test.YtpjkklailofkjaaP45
import Derived.Test.YtpjkklailofkjaaRows
import Derived.WalkKit
import Derived.ProofKit
import Derived.OpenShut
namespace Go.Proofs.Ytpjkklailofkjaa.Am
open Go.Am
open Go.ChangeShapes Go.WideShapes Go.ChangeAt Go.RowKit
set_option linter.unusedVariables false

theorem own5 : ownKnob Try.prog.godebug = none := by kernel_rfl
theorem laid5 : laidOutB Try.prog = true := by kernel_rfl

set_option maxRecDepth 100000 in
theorem lifted5 (os : Os) (started : os.Started) (H : Type) (enc : TypeId × Value → H) :
    ReturnsInHanded {} Try.checked os 5 .any (Rows.huffmanLengthsSpec.pre6 enc Try.prog Try.f5 Rows.huffmanLengthsRow.domain false) (Rows.huffmanLengthsSpec.post enc Try.prog Try.f5 false true false false) := by
  refine returnsInHanded_of_change (C := Try.checked) own5 started (by kernel_rfl) Try.func5
    (ChangeSpec.witness6 (enc := enc) (C := Try.checked) false ⟨#[], #[.slice none 0 0, .int .i64 0], []⟩ 8 (by kernel_rfl) (by kernel_rfl) (by kernel_rfl) (by kernel_rfl)) ?_
  intro W base args ds gs before hval0 hW hcnd _
  refine law_post (ts := [.sl (.int .i64),.int .i64]) laid5 (by kernel_rfl) (show Try.f5.resultTypes = #[4] by kernel_rfl) Try.underlying4 rfl ?_ ?_ W base args ds gs before hval0 hW
  · intro ds hds
    match ds, hds with
    | [_, _], _ => rfl
  · intro x wx
    obtain ⟨N, hN⟩ := (⟨200000, law5 works11b x.1 x.2.1⟩ : ∃ N, F5 N (x.1, x.2.1) = some true)
    exact ⟨⟨[.v (.bool true)], []⟩, T5_ok N _ _ (tell_to (x := (x.1, x.2.1)) rfl hN rfl), rfl⟩

theorem over5 : Rows.huffmanLengthsRow.holds Try.pinned (OpenSpec.ofChange Rows.huffmanLengthsSpec) :=
  OpenClaim.holds_of_wide 5 Try.f5 rfl rfl rfl rfl rfl rfl rfl ⟨rfl, rfl, rfl, rfl, rfl⟩ rfl rfl rfl rfl rfl (by kernel_rfl) Try.func5 (by kernel_rfl)
    (of_decide_eq_true (by kernel_rfl)) (by unfold Func.isWrapper; first | (rw [if_pos (by decide +kernel)]; kernel_rfl) | (rw [if_neg (by decide +kernel)]; exact ⟨rfl, rfl⟩))
    (fun os started H enc _ => lifted5 os started H enc)

theorem huffmanLengths_holds : Rows.HuffmanLengthsSaid := over5

end Go.Proofs.Ytpjkklailofkjaa.Am
