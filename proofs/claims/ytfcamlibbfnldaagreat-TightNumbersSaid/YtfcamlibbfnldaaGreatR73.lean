/- TightNumbers answers true at every input, and its arguments read behind the call as they read before. -/
import Derived.Test.YtfcamlibbfnldaaGreatSD
import Derived.Test.YtfcamlibbfnldaaGreatRows
import Derived.WalkKit
import Derived.ProofKit
import Derived.OpenShut
import Derived.Test.YtfcamlibbfnldaaGreatPA
import Derived.SizedLaws
import Derived.ChangeArms
set_option linter.unusedSimpArgs false
set_option linter.unusedVariables false
set_option linter.unusedSectionVars false
namespace Go.Proofs.YtfcamlibbfnldaaGreat.Am
open Go.Am
open Go.ChangeShapes Go.WideShapes Go.ChangeAt Go.RowKit
theorem band {a b : Bool} (h : a = true) (k : b = true) : (a && b) = true := by rw [h, k]; rfl
theorem jf12_0 : Rows.tightNumbersRow.wf (OpenSpec.ofChange Rows.tightNumbersSpec) = true := by kernel_rfl
theorem jf12_1 : laidOutB Tryz.prog = true := by kernel_rfl
theorem jf12_2 : mapsRowed Tryz.prog = true := by kernel_rfl
theorem jf12_3 : Tryz.f12.params.all (Tryz.prog.readableRec ·) = true := by kernel_rfl
theorem jf12_4 : namedTie Tryz.prog Rows.tightNumbersRow.named Rows.tightNumbersSpec.vars = true := by kernel_rfl
theorem jf12_5 : (Rows.tightNumbersRow.stops == []) = true := by kernel_rfl
theorem jf12_6 : (Tryz.prog.stops == []) = true := by kernel_rfl
theorem jf12_7 : (Rows.tightNumbersRow.knobs == []) = true := by kernel_rfl
theorem jf12_8 : (Tryz.prog.stopKnobs == []) = true := by kernel_rfl
theorem jf12_9 : (Rows.tightNumbersRow.inPlace == Tryz.prog.inPlace 12) = true := by kernel_rfl
theorem jf12_10 : (Rows.tightNumbersRow.unfollowed == Tryz.prog.unfollowed 12) = true := by kernel_rfl
theorem jf12_11 : (Rows.tightNumbersRow.recurses == Tryz.prog.recurses 12) = true := by kernel_rfl
theorem jf12_12 : (Rows.tightNumbersRow.named == Tryz.prog.varsNamed 12) = true := by kernel_rfl
theorem jf12_13 : (Rows.tightNumbersRow.maps == (Tryz.f12.params.toList ++ Rows.tightNumbersSpec.plain.varTypes Tryz.prog).any (Tryz.prog.mapsRec ·)) = true := by kernel_rfl
theorem jf12_14 : (Rows.tightNumbersRow.ifaces == (Tryz.f12.params.toList ++ Rows.tightNumbersSpec.plain.varTypes Tryz.prog).any (Tryz.prog.ifacesRec ·)) = true := by kernel_rfl
theorem jf12_15 : (Rows.tightNumbersRow.mapsOut == Tryz.prog.mapsAmong Tryz.f12.resultTypes.toList) = true := by kernel_rfl
theorem jf12_16 : (Rows.tightNumbersRow.loops == (Tryz.f12.params.toList ++ Rows.tightNumbersSpec.plain.varTypes Tryz.prog).any (Tryz.prog.loopsFrom ·)) = true := by kernel_rfl
theorem jf12_17 : (Rows.tightNumbersRow.wideKeys == (Tryz.f12.params.toList ++ Rows.tightNumbersSpec.plain.varTypes Tryz.prog ++ Tryz.f12.resultTypes.toList).any (Tryz.prog.wideKeysFrom ·)) = true := by kernel_rfl
theorem jf12_18 : Rows.tightNumbersSpec.vars.all (Tryz.prog.varReadable ·) = true := by kernel_rfl
theorem jf12_19 : Tryz.f12.resultTypes.all (fun t => Tryz.prog.readableRec t && decide (t < Tryz.prog.types.size)) = true := by kernel_rfl
theorem jf12_20 : (Rows.tightNumbersRow.ifacesOut == Tryz.f12.resultTypes.toList.any (Tryz.prog.ifacesRec ·)) = true := by kernel_rfl
theorem jf12_21 : (Rows.tightNumbersRow.loopsOut == Tryz.f12.resultTypes.toList.any (Tryz.prog.loopsFrom ·)) = true := by kernel_rfl
theorem jf12_22 : (Rows.tightNumbersRow.plainKeys == Tryz.prog.plainKeys) = true := by kernel_rfl
theorem jf12_23 : Rows.tightNumbersRow.shortTexts.isNone = true := by kernel_rfl
theorem jf12_24 : Tryz.prog.stopsHeard = true := by kernel_rfl
theorem jf12_25 : Tryz.prog.mayEnter = true := by kernel_rfl
theorem jf12_26 : (Rows.tightNumbersRow.lifted == Tryz.prog.liftsFinal) = true := by kernel_rfl
theorem jf12_27 : (Tryz.prog.make == some Rows.tightNumbersRow.make) = true := by kernel_rfl
theorem jf12_28 : (Rows.tightNumbersRow.kinds == (if Rows.tightNumbersRow.domain.isEmpty then [] else Tryz.f12.params.toList.map fun t => match Tryz.prog.underlying t with | some (.int k) => some k | _ => none)) = true := by kernel_rfl
theorem jf12_29 : (Rows.tightNumbersRow.pinned == Rows.tightNumbersRow.pinnedBy) = true := by kernel_rfl
theorem jf12_30 : (Rows.tightNumbersRow.veiled == (Tryz.f12.params.toList ++ Rows.tightNumbersSpec.plain.varTypes Tryz.prog ++ Tryz.f12.resultTypes.toList).any (Tryz.prog.veiledRec ·)) = true := by kernel_rfl
theorem jf12_31 : Rows.tightNumbersRow.veiledFits Tryz.prog Tryz.f12.params.toList (Tryz.f12.params.toList ++ Rows.tightNumbersSpec.plain.varTypes Tryz.prog ++ Tryz.f12.resultTypes.toList) = true := by kernel_rfl
open Go.ChangeShapes Go.WideShapes Go.ChangeAt Go.RowKit
theorem own12 : ownKnob Tryz.prog.godebug = none := by kernel_rfl
theorem laid12 : laidOutB Tryz.prog = true := by kernel_rfl
set_option maxRecDepth 100000 in
theorem lifted12 (os : Os) (started : os.Started) (H : Type) (enc : TypeId × Value → H) :
    ReturnsInHanded {} Tryz.checked os 12 .any (Rows.tightNumbersSpec.pre6 enc Tryz.prog Tryz.f12 Rows.tightNumbersRow.domain false) (Rows.tightNumbersSpec.post enc Tryz.prog Tryz.f12 false true false false) := by
  refine returnsInHanded_of_change_sized (C := Tryz.checked) own12 started (by kernel_rfl) Tryz.func12
    (ChangeSpec.witness6 (enc := enc) (C := Tryz.checked) false ⟨#[], #[.int .i64 0, .string .empty], []⟩ 8 (by kernel_rfl) (by kernel_rfl) (by kernel_rfl) (by kernel_rfl)) ?_
  intro W base args ds gs before hval0 hW hcnd hsz _
  refine law_postZ (ts := [.int .i64, .str]) laid12 (by kernel_rfl) (show Tryz.f12.resultTypes = #[4] by kernel_rfl) Tryz.underlying4 (fun x => x.2.1.size ≤ 140737488355328) rfl ?_ ?_ W base args ds gs before hval0 hW ?_
  · intro ds hds
    match ds, hds with
    | [_, _], _ => rfl
  · intro x wx hx
    obtain ⟨N, hN⟩ := (⟨200000, law12 works42 x.1 x.2.1 hx⟩ : ∃ N, F12 N (x.1, x.2.1) = some true)
    exact ⟨⟨[.v (.bool true)], []⟩, (T12_ok N).call (by decide +kernel) (show (tellS s12 w12 (F12 N) _).to _ from tell_to (I := s12.I) (F := F12 N) (O := pO w12) (x := (x.1, x.2.1)) rfl hN rfl), rfl⟩
  · intro x rx
    obtain ⟨v1, r1, e1, h1, v2, r2, e2, h2, h3⟩ := rx
    subst e2
    cases (show r2 = [] from h3)
    obtain ⟨p, q, hA, _⟩ := hW
    rw [e1] at hA
    have hA' : DataW.TrodAll enc Tryz.prog W 0 (fun _ => true) true [3, 9] [v1, v2] ds p := hA
    obtain ⟨v, vs, d1, ds1, a, b, e3, rfl, _, _, g2⟩ := trodAll_cons hA'
    cases e3
    obtain ⟨v, vs, d2, ds2, a2, b2, e4, rfl, _, g3, g4⟩ := trodAll_cons g2
    cases e4
    obtain ⟨fuel, hf⟩ := g3
    have ht : Tryz.prog.underlying 9 = some .string := Tryz.underlying9
    have hv2 : v2 = .string x.2.1 := h2
    subst hv2
    obtain ⟨s', k1, k2, k3⟩ := DataW.trod_string ht hf
    simp [Value.cells] at k1
    subst k1
    simp only [Prod.mk.injEq] at k2
    obtain ⟨rfl, _⟩ := k2
    have hw : (DataW.weightsEach Tryz.prog [3, 9] ([d1, .lit (.string x.2.1.data.toList)] ++ ds2 ++ gs)).all (· ≤ reachBytes) = true := hsz
    simp only [DataW.weightsEach, DataW.weights, List.cons_append, List.nil_append, List.all_append, List.all_cons, List.all_nil, Bool.and_eq_true, decide_eq_true_eq] at hw
    have h5 := hw.2.1
    have : x.2.1.data.toList.length = x.2.1.size := by simp
    rw [this] at h5
    exact Nat.le_trans h5 (by decide)
set_option maxRecDepth 100000 in
theorem joined12 : joinedFacts Tryz.prog 12 Tryz.f12 Rows.tightNumbersSpec Rows.tightNumbersRow = true := by
  unfold joinedFacts
  exact (band (band (band (band (band (band (band (band (band (band (band (band (band (band (band (band (band (band (band (band (band (band (band (band (band (band (band (band (band (band (band jf12_0 jf12_1) jf12_2) jf12_3) jf12_4) jf12_5) jf12_6) jf12_7) jf12_8) jf12_9) jf12_10) jf12_11) jf12_12) jf12_13) jf12_14) jf12_15) jf12_16) jf12_17) jf12_18) jf12_19) jf12_20) jf12_21) jf12_22) jf12_23) jf12_24) jf12_25) jf12_26) jf12_27) jf12_28) jf12_29) jf12_30) jf12_31)
theorem over12 : Rows.tightNumbersRow.holds Tryz.pinned (OpenSpec.ofChange Rows.tightNumbersSpec) :=
  OpenClaim.holds_of_wide 12 Tryz.f12 rfl rfl rfl rfl rfl rfl rfl ⟨rfl, rfl, rfl, rfl, rfl⟩ rfl rfl rfl rfl rfl (by kernel_rfl) Tryz.func12 joined12
    (of_decide_eq_true (by kernel_rfl)) (by unfold Func.isWrapper; first | (rw [if_pos (by decide +kernel)]; kernel_rfl) | (rw [if_neg (by decide +kernel)]; exact ⟨rfl, rfl⟩))
    (fun os started H enc _ => lifted12 os started H enc)
theorem tightNumbers_holds : Rows.TightNumbersSaid := over12
end Go.Proofs.YtfcamlibbfnldaaGreat.Am
