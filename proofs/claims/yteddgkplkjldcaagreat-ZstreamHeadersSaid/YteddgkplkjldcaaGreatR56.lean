/- ZstreamHeaders answers true at every input, and its argument reads behind the call as it read before. -/
import Derived.Test.YteddgkplkjldcaaGreatPA
import Derived.Test.YteddgkplkjldcaaGreatPD
import Derived.Test.YteddgkplkjldcaaGreatRows
import Derived.WalkKit
import Derived.ProofKit
import Derived.OpenShut
namespace Go.Proofs.YteddgkplkjldcaaGreat.Am
open Go.Am
open Go.ChangeShapes Go.WideShapes Go.ChangeAt Go.RowKit
set_option linter.unusedVariables false
theorem own9 : ownKnob Tryz.prog.godebug = none := by kernel_rfl
theorem laid9 : laidOutB Tryz.prog = true := by kernel_rfl
set_option maxRecDepth 100000 in
theorem lifted9 (os : Os) (started : os.Started) (H : Type) (enc : TypeId × Value → H) :
    ReturnsInHanded {} Tryz.checked os 9 .any (Rows.zstreamHeadersSpec.pre6 enc Tryz.prog Tryz.f9 Rows.zstreamHeadersRow.domain false) (Rows.zstreamHeadersSpec.post enc Tryz.prog Tryz.f9 false true false false) := by
  refine returnsInHanded_of_change (C := Tryz.checked) own9 started (by kernel_rfl) Tryz.func9
    (ChangeSpec.witness6 (enc := enc) (C := Tryz.checked) false ⟨#[], #[.string .empty], []⟩ 8 (by kernel_rfl) (by kernel_rfl) (by kernel_rfl) (by kernel_rfl)) ?_
  intro W base args ds gs before hval0 hW hcnd _
  refine law_post (ts := [.str]) laid9 (by kernel_rfl) (show Tryz.f9.resultTypes = #[4] by kernel_rfl) Tryz.underlying4 rfl ?_ ?_ W base args ds gs before hval0 hW
  · intro ds hds
    match ds, hds with
    | [_], _ => rfl
  · intro x wx
    obtain ⟨N, hN⟩ := (⟨200000, law9 works34 x.1 (by have := wx.1; simpa [wfD, maxLen] using this)⟩ : ∃ N, F9 N x.1 = some true)
    exact ⟨⟨[.v (.bool true)], []⟩, T9_ok N _ _ (show (tellS s9 w9 (F9 N) _).to _ from tell_to (I := s9.I) (F := F9 N) (O := pO w9) (x := x.1) rfl hN rfl), rfl⟩
theorem over9 : Rows.zstreamHeadersRow.holds Tryz.pinned (OpenSpec.ofChange Rows.zstreamHeadersSpec) :=
  OpenClaim.holds_of_wide 9 Tryz.f9 rfl rfl rfl rfl rfl rfl rfl ⟨rfl, rfl, rfl, rfl, rfl⟩ rfl rfl rfl rfl rfl (by kernel_rfl) Tryz.func9 (by kernel_rfl)
    (of_decide_eq_true (by kernel_rfl)) (by unfold Func.isWrapper; first | (rw [if_pos (by decide +kernel)]; kernel_rfl) | (rw [if_neg (by decide +kernel)]; exact ⟨rfl, rfl⟩))
    (fun os started H enc _ => lifted9 os started H enc)
theorem zstreamHeaders_holds : Rows.ZstreamHeadersSaid := over9
end Go.Proofs.YteddgkplkjldcaaGreat.Am
