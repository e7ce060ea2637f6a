/- HuffmanBack answers true at every input, and its arguments read behind the call as they read before. -/
import Derived.Test.YtpjkklailofkjaaP39
import Derived.Test.YtpjkklailofkjaaRows
import Derived.WalkKit
import Derived.ProofKit
import Derived.OpenShut
namespace Go.Proofs.Ytpjkklailofkjaa.Am
open Go.Am
open Go.ChangeShapes Go.WideShapes Go.ChangeAt Go.RowKit
set_option linter.unusedVariables false

theorem own9 : ownKnob Try.prog.godebug = none := by kernel_rfl
theorem laid9 : laidOutB Try.prog = true := by kernel_rfl

set_option maxRecDepth 100000 in
theorem lifted9 (os : Os) (started : os.Started) (H : Type) (enc : TypeId × Value → H) :
    ReturnsInHanded {} Try.checked os 9 .any (Rows.huffmanBackSpec.pre6 enc Try.prog Try.f9 Rows.huffmanBackRow.domain false) (Rows.huffmanBackSpec.post enc Try.prog Try.f9 false true false false) := by
  refine returnsInHanded_of_change (C := Try.checked) own9 started (by kernel_rfl) Try.func9
    (ChangeSpec.witness6 (enc := enc) (C := Try.checked) false ⟨#[], #[.slice none 0 0, .slice none 0 0], []⟩ 8 (by kernel_rfl) (by kernel_rfl) (by kernel_rfl) (by kernel_rfl)) ?_
  intro W base args ds gs before hval0 hW hcnd _
  refine law_post (ts := [.sl (.int .i64),.sl (.int .i64)]) laid9 (by kernel_rfl) (show Try.f9.resultTypes = #[4] by kernel_rfl) Try.underlying4 rfl ?_ ?_ W base args ds gs before hval0 hW
  · intro ds hds
    match ds, hds with
    | [_, _], _ => rfl
  · intro x wx
    obtain ⟨N, hN⟩ := (⟨100000, law9 works11 x.1 x.2.1⟩ : ∃ N, F9 N (x.1, x.2.1) = some true)
    exact ⟨⟨[.v (.bool true)], []⟩, T9_ok N _ _ (tell_to (x := (x.1, x.2.1)) rfl hN rfl), rfl⟩

theorem over9 : Rows.huffmanBackRow.holds Try.pinned (OpenSpec.ofChange Rows.huffmanBackSpec) :=
  OpenClaim.holds_of_wide 9 Try.f9 rfl rfl rfl rfl rfl rfl rfl ⟨rfl, rfl, rfl, rfl, rfl⟩ rfl rfl rfl rfl rfl (by kernel_rfl) Try.func9 (by kernel_rfl)
    (of_decide_eq_true (by kernel_rfl)) (by unfold Func.isWrapper; first | (rw [if_pos (by decide +kernel)]; kernel_rfl) | (rw [if_neg (by decide +kernel)]; exact ⟨rfl, rfl⟩))
    (fun os started H enc _ => lifted9 os started H enc)

theorem huffmanBack_holds : Rows.HuffmanBackSaid := over9

end Go.Proofs.Ytpjkklailofkjaa.Am
