/- ZstreamBroken answers true at every input, and its arguments read behind the call as they read before. -/
import Derived.Test.YteddgkplkjldcaaGreatPA
import Derived.Test.YteddgkplkjldcaaGreatPD
import Derived.Test.YteddgkplkjldcaaGreatRows
import Derived.WalkKit
import Derived.ProofKit
import Derived.OpenShut
set_option linter.unusedSimpArgs false
set_option linter.unusedVariables false
namespace Go.Proofs.YteddgkplkjldcaaGreat.Am
open Go.Am
open Go.ChangeShapes Go.WideShapes Go.ChangeAt Go.RowKit
theorem V4 : ownKnob Tryz.prog.godebug = none := by kernel_rfl
theorem Ti : laidOutB Tryz.prog = true := by kernel_rfl
set_option maxRecDepth 100000 in
theorem LV (os : Os) (started : os.Started) (H : Type) (enc : TypeId × Value → H) :
    ReturnsInHanded {} Tryz.checked os 12 .any (Rows.zstreamBrokenSpec.pre6 enc Tryz.prog Tryz.f12 Rows.zstreamBrokenRow.domain false) (Rows.zstreamBrokenSpec.post enc Tryz.prog Tryz.f12 false true false false) := by
  refine returnsInHanded_of_change (C := Tryz.checked) V4 started (by kernel_rfl) Tryz.func12
    (ChangeSpec.witness6 (enc := enc) (C := Tryz.checked) false ⟨#[], #[.string .empty, .string .empty, .string .empty], []⟩ 8 (by kernel_rfl) (by kernel_rfl) (by kernel_rfl) (by kernel_rfl)) ?_
  intro W base args ds gs before hval0 hW hcnd _
  refine Mc (ts := [.str, .str, .str]) Ti (by kernel_rfl) (show Tryz.f12.resultTypes = #[4] by kernel_rfl) Tryz.underlying4 rfl ?_ ?_ W base args ds gs before hval0 hW
  · intro ds hds
    match ds, hds with
    | [_, _, _], _ => rfl
  · intro x wx
    obtain ⟨N, hN⟩ := (⟨200000, V7 OJ x.1 x.2.1 x.2.2.1⟩ : ∃ N, Uz N (x.1, x.2.1, x.2.2.1) = some true)
    exact ⟨⟨[.v (.bool true)], []⟩, Ui N _ _ (show (aj s12 w12 (Uz N) _).to _ from ON (I := s12.I) (F := Uz N) (O := pO w12) (x := (x.1, x.2.1, x.2.2.1)) rfl hN rfl), rfl⟩
theorem Ta : Rows.zstreamBrokenRow.holds Tryz.pinned (OpenSpec.ofChange Rows.zstreamBrokenSpec) :=
  OpenClaim.holds_of_wide 12 Tryz.f12 rfl rfl rfl rfl rfl rfl rfl ⟨rfl, rfl, rfl, rfl, rfl⟩ rfl rfl rfl rfl rfl (by kernel_rfl) Tryz.func12 (by kernel_rfl)
    (of_decide_eq_true (by kernel_rfl)) (by unfold Func.isWrapper; first | (rw [if_pos (by decide +kernel)]; kernel_rfl) | (rw [if_neg (by decide +kernel)]; exact ⟨rfl, rfl⟩))
    (fun os started H enc _ => LV os started H enc)
theorem zstreamBroken_holds : Rows.ZstreamBrokenSaid := Ta
end Go.Proofs.YteddgkplkjldcaaGreat.Am
