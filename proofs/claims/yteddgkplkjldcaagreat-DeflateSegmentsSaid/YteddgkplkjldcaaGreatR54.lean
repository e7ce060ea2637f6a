/- DeflateSegments answers true at every input, and its arguments read behind the call as they read before. -/
import Derived.Test.YteddgkplkjldcaaGreatPA
import Derived.Test.YteddgkplkjldcaaGreatPD
import Derived.Test.YteddgkplkjldcaaGreatRows
import Derived.WalkKit
import Derived.ProofKit
import Derived.OpenShut
namespace Go.Proofs.YteddgkplkjldcaaGreat.Am
open Go.Am
open Go.ChangeShapes Go.WideShapes Go.ChangeAt Go.RowKit
set_option linter.unusedVariables false

theorem own7 : ownKnob Tryz.prog.godebug = none := by kernel_rfl
theorem laid7 : laidOutB Tryz.prog = true := by kernel_rfl

set_option maxRecDepth 100000 in
theorem lifted7 (os : Os) (started : os.Started) (H : Type) (enc : TypeId × Value → H) :
    ReturnsInHanded {} Tryz.checked os 7 .any (Rows.deflateSegmentsSpec.pre6 enc Tryz.prog Tryz.f7 Rows.deflateSegmentsRow.domain false) (Rows.deflateSegmentsSpec.post enc Tryz.prog Tryz.f7 false true false false) := by
  refine returnsInHanded_of_change (C := Tryz.checked) own7 started (by kernel_rfl) Tryz.func7
    (ChangeSpec.witness6 (enc := enc) (C := Tryz.checked) false ⟨#[], #[.string .empty, .string .empty, .string .empty], []⟩ 8 (by kernel_rfl) (by kernel_rfl) (by kernel_rfl) (by kernel_rfl)) ?_
  intro W base args ds gs before hval0 hW hcnd _
  refine law_post (ts := [.str, .str, .str]) laid7 (by kernel_rfl) (show Tryz.f7.resultTypes = #[4] by kernel_rfl) Tryz.underlying4 rfl ?_ ?_ W base args ds gs before hval0 hW
  · intro ds hds
    match ds, hds with
    | [_, _, _], _ => rfl
  · intro x wx
    obtain ⟨N, hN⟩ := (⟨200000, law7 works13 x.1 x.2.1 x.2.2.1⟩ : ∃ N, F7 N (x.1, x.2.1, x.2.2.1) = some true)
    exact ⟨⟨[.v (.bool true)], []⟩, T7_ok N _ _ (show (tellS s7 w7 (F7 N) _).to _ from tell_to (I := s7.I) (F := F7 N) (O := pO w7) (x := (x.1, x.2.1, x.2.2.1)) rfl hN rfl), rfl⟩

theorem over7 : Rows.deflateSegmentsRow.holds Tryz.pinned (OpenSpec.ofChange Rows.deflateSegmentsSpec) :=
  OpenClaim.holds_of_wide 7 Tryz.f7 rfl rfl rfl rfl rfl rfl rfl ⟨rfl, rfl, rfl, rfl, rfl⟩ rfl rfl rfl rfl rfl (by kernel_rfl) Tryz.func7 (by kernel_rfl)
    (of_decide_eq_true (by kernel_rfl)) (by unfold Func.isWrapper; first | (rw [if_pos (by decide +kernel)]; kernel_rfl) | (rw [if_neg (by decide +kernel)]; exact ⟨rfl, rfl⟩))
    (fun os started H enc _ => lifted7 os started H enc)

theorem deflateSegments_holds : Rows.DeflateSegmentsSaid := over7

end Go.Proofs.YteddgkplkjldcaaGreat.Am

