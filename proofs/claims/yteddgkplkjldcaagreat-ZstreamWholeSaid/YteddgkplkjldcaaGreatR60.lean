/- ZstreamWhole answers true at every input, and its arguments read behind the call as they read before. -/
import Derived.Test.YteddgkplkjldcaaGreatPA
import Derived.Test.YteddgkplkjldcaaGreatPD
import Derived.Test.YteddgkplkjldcaaGreatRows
import Derived.WalkKit
import Derived.ProofKit
import Derived.OpenShut
set_option linter.unusedSimpArgs false
set_option linter.unusedVariables false
namespace Go.Proofs.YteddgkplkjldcaaGreat.Am
open Go.Am
open Go.ChangeShapes Go.WideShapes Go.ChangeAt Go.RowKit
theorem ad8 : ownKnob Tryz.prog.godebug = none := by kernel_rfl
theorem Xs : laidOutB Tryz.prog = true := by kernel_rfl
set_option maxRecDepth 100000 in
theorem PC (os : Os) (started : os.Started) (H : Type) (enc : TypeId × Value → H) :
    ReturnsInHanded {} Tryz.checked os 11 .any (Rows.zstreamWholeSpec.pre6 enc Tryz.prog Tryz.f11 Rows.zstreamWholeRow.domain false) (Rows.zstreamWholeSpec.post enc Tryz.prog Tryz.f11 false true false false) := by
  refine returnsInHanded_of_change (C := Tryz.checked) ad8 started (by kernel_rfl) Tryz.func11
    (ChangeSpec.witness6 (enc := enc) (C := Tryz.checked) false ⟨#[], #[.string .empty, .string .empty, .string .empty], []⟩ 8 (by kernel_rfl) (by kernel_rfl) (by kernel_rfl) (by kernel_rfl)) ?_
  intro W base args ds gs before hval0 hW hcnd _
  refine PM (ts := [.str, .str, .str]) Xs (by kernel_rfl) (show Tryz.f11.resultTypes = #[4] by kernel_rfl) Tryz.underlying4 rfl ?_ ?_ W base args ds gs before hval0 hW
  · intro ds hds
    match ds, hds with
    | [_, _, _], _ => rfl
  · intro x wx
    obtain ⟨N, hN⟩ := (⟨200000, ae1 S3 x.1 x.2.1 x.2.2.1⟩ : ∃ N, YT N (x.1, x.2.1, x.2.2.1) = some true)
    exact ⟨⟨[.v (.bool true)], []⟩, Yx N _ _ (show (ak s11 w11 (YT N) _).to _ from S6 (I := s11.I) (F := YT N) (O := pO w11) (x := (x.1, x.2.1, x.2.2.1)) rfl hN rfl), rfl⟩
theorem Xl : Rows.zstreamWholeRow.holds Tryz.pinned (OpenSpec.ofChange Rows.zstreamWholeSpec) :=
  OpenClaim.holds_of_wide 11 Tryz.f11 rfl rfl rfl rfl rfl rfl rfl ⟨rfl, rfl, rfl, rfl, rfl⟩ rfl rfl rfl rfl rfl (by kernel_rfl) Tryz.func11 (by kernel_rfl)
    (of_decide_eq_true (by kernel_rfl)) (by unfold Func.isWrapper; first | (rw [if_pos (by decide +kernel)]; kernel_rfl) | (rw [if_neg (by decide +kernel)]; exact ⟨rfl, rfl⟩))
    (fun os started H enc _ => PC os started H enc)
theorem zstreamWhole_holds : Rows.ZstreamWholeSaid := Xl
end Go.Proofs.YteddgkplkjldcaaGreat.Am
