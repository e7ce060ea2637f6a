/- ServerSays answers true at every input, and its arguments read behind the call as they read before. -/
import Derived.Test.YtonjhbefeeoiiaaGreatPA
import Derived.Test.YtonjhbefeeoiiaaGreatRows
import Derived.WalkKit
import Derived.ProofKit
import Derived.OpenShut
set_option linter.unusedSimpArgs false
set_option linter.unusedVariables false
set_option linter.unusedSectionVars false
namespace Go.Proofs.YtonjhbefeeoiiaaGreat.Am
open Go.Am
open Go.ChangeShapes Go.WideShapes Go.ChangeAt Go.RowKit
theorem own4 : ownKnob Tryz.prog.godebug = none := by kernel_rfl
theorem laid4 : laidOutB Tryz.prog = true := by kernel_rfl
set_option maxRecDepth 100000 in
theorem lifted4 (os : Os) (started : os.Started) (H : Type) (enc : TypeId × Value → H) :
    ReturnsInHanded {} Tryz.checked os 4 .any (Rows.serverSaysSpec.pre6 enc Tryz.prog Tryz.f4 Rows.serverSaysRow.domain false) (Rows.serverSaysSpec.post enc Tryz.prog Tryz.f4 false true false false) := by
  refine returnsInHanded_of_change (C := Tryz.checked) own4 started (by kernel_rfl) Tryz.func4
    (ChangeSpec.witness6 (enc := enc) (C := Tryz.checked) false ⟨#[], #[.agg #[.int .i64 0, .int .i64 0, .slice none 0 0], .bool false, .bool false, .string .empty], []⟩ 8 (by kernel_rfl) (by kernel_rfl) (by kernel_rfl) (by kernel_rfl)) ?_
  intro W base args ds gs before hval0 hW hcnd _
  refine law_post (ts := [.cons (.int .i64) (.cons (.int .i64) (.cons (.sl (.int .i64)) .unit)), .bool, .bool, .str]) laid4 (by kernel_rfl) (show Tryz.f4.resultTypes = #[4] by kernel_rfl) Tryz.underlying4 rfl ?_ ?_ W base args ds gs before hval0 hW
  · intro ds hds
    match ds, hds with
    | [_, _, _, _], _ => rfl
  · intro x wx
    obtain ⟨N, hN⟩ := (⟨200000, law4 x.1.1 x.1.2.1 x.1.2.2.1 x.2.1 x.2.2.1 x.2.2.2.1⟩ : ∃ N, F4 N (x.1.1, x.1.2.1, x.1.2.2.1, x.2.1, x.2.2.1, x.2.2.2.1) = some true)
    exact ⟨⟨[.v (.bool true)], []⟩, (T4_ok N).call (by decide +kernel) (show (tellS s4 w4 (F4 N) _).to _ from tell_to (I := s4.I) (F := F4 N) (O := pO w4) (x := (x.1.1, x.1.2.1, x.1.2.2.1, x.2.1, x.2.2.1, x.2.2.2.1)) rfl hN rfl), rfl⟩
theorem over4 : Rows.serverSaysRow.holds Tryz.pinned (OpenSpec.ofChange Rows.serverSaysSpec) :=
  OpenClaim.holds_of_wide 4 Tryz.f4 rfl rfl rfl rfl rfl rfl rfl ⟨rfl, rfl, rfl, rfl, rfl⟩ rfl rfl rfl rfl rfl (by kernel_rfl) Tryz.func4 (by kernel_rfl)
    (of_decide_eq_true (by kernel_rfl)) (by unfold Func.isWrapper; first | (rw [if_pos (by decide +kernel)]; kernel_rfl) | (rw [if_neg (by decide +kernel)]; exact ⟨rfl, rfl⟩))
    (fun os started H enc _ => lifted4 os started H enc)
theorem serverSays_holds : Rows.ServerSaysSaid := over4
end Go.Proofs.YtonjhbefeeoiiaaGreat.Am
