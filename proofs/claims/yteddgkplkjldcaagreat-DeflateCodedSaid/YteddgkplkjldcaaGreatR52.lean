/- DeflateCoded answers true at every input, and its arguments read behind the call as they read before. -/
import Derived.Test.YteddgkplkjldcaaGreatPA
import Derived.Test.YteddgkplkjldcaaGreatPC
import Derived.Test.YteddgkplkjldcaaGreatRows
import Derived.WalkKit
import Derived.ProofKit
import Derived.OpenShut
namespace Go.Proofs.YteddgkplkjldcaaGreat.Am
open Go.Am
open Go.ChangeShapes Go.WideShapes Go.ChangeAt Go.RowKit
set_option linter.unusedVariables false

theorem own5 : ownKnob Tryz.prog.godebug = none := by kernel_rfl
theorem laid5 : laidOutB Tryz.prog = true := by kernel_rfl

set_option maxRecDepth 100000 in
theorem lifted5 (os : Os) (started : os.Started) (H : Type) (enc : TypeId × Value → H) :
    ReturnsInHanded {} Tryz.checked os 5 .any (Rows.deflateCodedSpec.pre6 enc Tryz.prog Tryz.f5 Rows.deflateCodedRow.domain false) (Rows.deflateCodedSpec.post enc Tryz.prog Tryz.f5 false true false false) := by
  refine returnsInHanded_of_change (C := Tryz.checked) own5 started (by kernel_rfl) Tryz.func5
    (ChangeSpec.witness6 (enc := enc) (C := Tryz.checked) false ⟨#[], #[.string .empty, .slice none 0 0, .bool false, .bool false, .int .i64 0], []⟩ 8 (by kernel_rfl) (by kernel_rfl) (by kernel_rfl) (by kernel_rfl)) ?_
  intro W base args ds gs before hval0 hW hcnd _
  refine law_post (ts := [.str, .sl (.cons (.int .i64) (.cons (.int .i64) (.cons (.int .i64) .unit))), .bool, .bool, .int .i64]) laid5 (by kernel_rfl) (show Tryz.f5.resultTypes = #[4] by kernel_rfl) Tryz.underlying4 rfl ?_ ?_ W base args ds gs before hval0 hW
  · intro ds hds
    match ds, hds with
    | [_, _, _, _, _], _ => rfl
  · intro x wx
    obtain ⟨N, hN⟩ := (⟨200000, law5 works13 x.1 x.2.1 x.2.2.1 x.2.2.2.1 x.2.2.2.2.1⟩ : ∃ N, F5 N (x.1, x.2.1, x.2.2.1, x.2.2.2.1, x.2.2.2.2.1) = some true)
    exact ⟨⟨[.v (.bool true)], []⟩, T5_ok N _ _ (show (tellS s5 w5 (F5 N) _).to _ from tell_to (I := s5.I) (F := F5 N) (O := pO w5) (x := (x.1, x.2.1, x.2.2.1, x.2.2.2.1, x.2.2.2.2.1)) rfl hN rfl), rfl⟩

theorem over5 : Rows.deflateCodedRow.holds Tryz.pinned (OpenSpec.ofChange Rows.deflateCodedSpec) :=
  OpenClaim.holds_of_wide 5 Tryz.f5 rfl rfl rfl rfl rfl rfl rfl ⟨rfl, rfl, rfl, rfl, rfl⟩ rfl rfl rfl rfl rfl (by kernel_rfl) Tryz.func5 (by kernel_rfl)
    (of_decide_eq_true (by kernel_rfl)) (by unfold Func.isWrapper; first | (rw [if_pos (by decide +kernel)]; kernel_rfl) | (rw [if_neg (by decide +kernel)]; exact ⟨rfl, rfl⟩))
    (fun os started H enc _ => lifted5 os started H enc)

theorem deflateCoded_holds : Rows.DeflateCodedSaid := over5

end Go.Proofs.YteddgkplkjldcaaGreat.Am
