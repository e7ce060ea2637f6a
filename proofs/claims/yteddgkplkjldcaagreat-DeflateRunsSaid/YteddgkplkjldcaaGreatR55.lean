/- DeflateRuns answers true at every input, and its arguments read behind the call as they read before. -/
import Derived.Test.YteddgkplkjldcaaGreatPA
import Derived.Test.YteddgkplkjldcaaGreatPD
import Derived.Test.YteddgkplkjldcaaGreatRows
import Derived.WalkKit
import Derived.ProofKit
import Derived.OpenShut
namespace Go.Proofs.YteddgkplkjldcaaGreat.Am
open Go.Am
open Go.ChangeShapes Go.WideShapes Go.ChangeAt Go.RowKit
set_option linter.unusedVariables false

theorem own8 : ownKnob Tryz.prog.godebug = none := by kernel_rfl
theorem laid8 : laidOutB Tryz.prog = true := by kernel_rfl

set_option maxRecDepth 100000 in
theorem lifted8 (os : Os) (started : os.Started) (H : Type) (enc : TypeId × Value → H) :
    ReturnsInHanded {} Tryz.checked os 8 .any (Rows.deflateRunsSpec.pre6 enc Tryz.prog Tryz.f8 Rows.deflateRunsRow.domain false) (Rows.deflateRunsSpec.post enc Tryz.prog Tryz.f8 false true false false) := by
  refine returnsInHanded_of_change (C := Tryz.checked) own8 started (by kernel_rfl) Tryz.func8
    (ChangeSpec.witness6 (enc := enc) (C := Tryz.checked) false ⟨#[], #[.int .u8 0, .int .i64 0], []⟩ 8 (by kernel_rfl) (by kernel_rfl) (by kernel_rfl) (by kernel_rfl)) ?_
  intro W base args ds gs before hval0 hW hcnd _
  refine law_post (ts := [.int .u8, .int .i64]) laid8 (by kernel_rfl) (show Tryz.f8.resultTypes = #[4] by kernel_rfl) Tryz.underlying4 rfl ?_ ?_ W base args ds gs before hval0 hW
  · intro ds hds
    match ds, hds with
    | [_, _], _ => rfl
  · intro x wx
    obtain ⟨N, hN⟩ := (⟨200000, law8 works13 x.1 x.2.1⟩ : ∃ N, F8 N (x.1, x.2.1) = some true)
    exact ⟨⟨[.v (.bool true)], []⟩, T8_ok N _ _ (show (tellS s8 w8 (F8 N) _).to _ from tell_to (I := s8.I) (F := F8 N) (O := pO w8) (x := (x.1, x.2.1)) rfl hN rfl), rfl⟩

theorem over8 : Rows.deflateRunsRow.holds Tryz.pinned (OpenSpec.ofChange Rows.deflateRunsSpec) :=
  OpenClaim.holds_of_wide 8 Tryz.f8 rfl rfl rfl rfl rfl rfl rfl ⟨rfl, rfl, rfl, rfl, rfl⟩ rfl rfl rfl rfl rfl (by kernel_rfl) Tryz.func8 (by kernel_rfl)
    (of_decide_eq_true (by kernel_rfl)) (by unfold Func.isWrapper; first | (rw [if_pos (by decide +kernel)]; kernel_rfl) | (rw [if_neg (by decide +kernel)]; exact ⟨rfl, rfl⟩))
    (fun os started H enc _ => lifted8 os started H enc)

theorem deflateRuns_holds : Rows.DeflateRunsSaid := over8

end Go.Proofs.YteddgkplkjldcaaGreat.Am

