/- ZstreamBack answers true at every input, and its arguments read behind the call as they read before. -/
import Derived.Test.YteddgkplkjldcaaGreatPA
import Derived.Test.YteddgkplkjldcaaGreatPD
import Derived.Test.YteddgkplkjldcaaGreatRows
import Derived.WalkKit
import Derived.ProofKit
import Derived.OpenShut
namespace Go.Proofs.YteddgkplkjldcaaGreat.Am
open Go.Am
open Go.ChangeShapes Go.WideShapes Go.ChangeAt Go.RowKit
set_option linter.unusedVariables false
theorem own10 : ownKnob Tryz.prog.godebug = none := by kernel_rfl
theorem laid10 : laidOutB Tryz.prog = true := by kernel_rfl
set_option maxRecDepth 100000 in
theorem lifted10 (os : Os) (started : os.Started) (H : Type) (enc : TypeId × Value → H) :
    ReturnsInHanded {} Tryz.checked os 10 .any (Rows.zstreamBackSpec.pre6 enc Tryz.prog Tryz.f10 Rows.zstreamBackRow.domain false) (Rows.zstreamBackSpec.post enc Tryz.prog Tryz.f10 false true false false) := by
  refine returnsInHanded_of_change (C := Tryz.checked) own10 started (by kernel_rfl) Tryz.func10
    (ChangeSpec.witness6 (enc := enc) (C := Tryz.checked) false ⟨#[], #[.slice none 0 0, .string .empty], []⟩ 8 (by kernel_rfl) (by kernel_rfl) (by kernel_rfl) (by kernel_rfl)) ?_
  intro W base args ds gs before hval0 hW hcnd _
  refine law_post (ts := [.sl .str, .str]) laid10 (by kernel_rfl) (show Tryz.f10.resultTypes = #[4] by kernel_rfl) Tryz.underlying4 rfl ?_ ?_ W base args ds gs before hval0 hW
  · intro ds hds
    match ds, hds with
    | [_, _], _ => rfl
  · intro x wx
    obtain ⟨N, hN⟩ := (⟨200000, law10 works34 x.1 x.2.1⟩ : ∃ N, F10 N (x.1, x.2.1) = some true)
    exact ⟨⟨[.v (.bool true)], []⟩, T10_ok N _ _ (show (tellS s10 w10 (F10 N) _).to _ from tell_to (I := s10.I) (F := F10 N) (O := pO w10) (x := (x.1, x.2.1)) rfl hN rfl), rfl⟩
theorem over10 : Rows.zstreamBackRow.holds Tryz.pinned (OpenSpec.ofChange Rows.zstreamBackSpec) :=
  OpenClaim.holds_of_wide 10 Tryz.f10 rfl rfl rfl rfl rfl rfl rfl ⟨rfl, rfl, rfl, rfl, rfl⟩ rfl rfl rfl rfl rfl (by kernel_rfl) Tryz.func10 (by kernel_rfl)
    (of_decide_eq_true (by kernel_rfl)) (by unfold Func.isWrapper; first | (rw [if_pos (by decide +kernel)]; kernel_rfl) | (rw [if_neg (by decide +kernel)]; exact ⟨rfl, rfl⟩))
    (fun os started H enc _ => lifted10 os started H enc)
theorem zstreamBack_holds : Rows.ZstreamBackSaid := over10
end Go.Proofs.YteddgkplkjldcaaGreat.Am
