/- ClientHeard answers true at every input, and its arguments read behind the call as they read before. -/
import Derived.Test.YtgddhgpljnljaaaGreatSC
import Derived.Test.YtgddhgpljnljaaaGreatRows
import Derived.WalkKit
import Derived.ProofKit
import Derived.OpenShut
import Derived.Test.YtgddhgpljnljaaaGreatPA
import Derived.Test.YtgddhgpljnljaaaGreatAmC
import Derived.SizedLaws
import Derived.ChangeArms
set_option linter.unusedSimpArgs false
set_option linter.unusedVariables false
set_option linter.unusedSectionVars false
namespace Go.Proofs.YtgddhgpljnljaaaGreat.Am
open Go.Am
open Go.ChangeShapes Go.WideShapes Go.ChangeAt Go.RowKit
theorem band {a b : Bool} (h : a = true) (k : b = true) : (a && b) = true := by rw [h, k]; rfl
theorem jf4_0 : Rows.clientHeardRow.wf (OpenSpec.ofChange Rows.clientHeardSpec) = true := by kernel_rfl
theorem jf4_1 : laidOutB Tryz.prog = true := by kernel_rfl
theorem jf4_2 : mapsRowed Tryz.prog = true := by kernel_rfl
theorem jf4_3 : Tryz.f4.params.all (Tryz.prog.readableRec ·) = true := by kernel_rfl
theorem jf4_4 : namedTie Tryz.prog Rows.clientHeardRow.named Rows.clientHeardSpec.vars = true := by kernel_rfl
theorem jf4_5 : (Rows.clientHeardRow.stops == []) = true := by kernel_rfl
theorem jf4_6 : (Tryz.prog.stops == []) = true := by kernel_rfl
theorem jf4_7 : (Rows.clientHeardRow.knobs == []) = true := by kernel_rfl
theorem jf4_8 : (Tryz.prog.stopKnobs == []) = true := by kernel_rfl
theorem jf4_9 : (Rows.clientHeardRow.inPlace == Tryz.prog.inPlace 4) = true := by kernel_rfl
theorem jf4_10 : (Rows.clientHeardRow.unfollowed == Tryz.prog.unfollowed 4) = true := by kernel_rfl
theorem jf4_11 : (Rows.clientHeardRow.recurses == Tryz.prog.recurses 4) = true := by kernel_rfl
theorem jf4_12 : (Rows.clientHeardRow.named == Tryz.prog.varsNamed 4) = true := by kernel_rfl
theorem jf4_13 : (Rows.clientHeardRow.maps == (Tryz.f4.params.toList ++ Rows.clientHeardSpec.plain.varTypes Tryz.prog).any (Tryz.prog.mapsRec ·)) = true := by kernel_rfl
theorem jf4_14 : (Rows.clientHeardRow.ifaces == (Tryz.f4.params.toList ++ Rows.clientHeardSpec.plain.varTypes Tryz.prog).any (Tryz.prog.ifacesRec ·)) = true := by kernel_rfl
theorem jf4_15 : (Rows.clientHeardRow.mapsOut == Tryz.prog.mapsAmong Tryz.f4.resultTypes.toList) = true := by kernel_rfl
theorem jf4_16 : (Rows.clientHeardRow.loops == (Tryz.f4.params.toList ++ Rows.clientHeardSpec.plain.varTypes Tryz.prog).any (Tryz.prog.loopsFrom ·)) = true := by kernel_rfl
theorem jf4_17 : (Rows.clientHeardRow.wideKeys == (Tryz.f4.params.toList ++ Rows.clientHeardSpec.plain.varTypes Tryz.prog ++ Tryz.f4.resultTypes.toList).any (Tryz.prog.wideKeysFrom ·)) = true := by kernel_rfl
theorem jf4_18 : Rows.clientHeardSpec.vars.all (Tryz.prog.varReadable ·) = true := by kernel_rfl
theorem jf4_19 : Tryz.f4.resultTypes.all (fun t => Tryz.prog.readableRec t && decide (t < Tryz.prog.types.size)) = true := by kernel_rfl
theorem jf4_20 : (Rows.clientHeardRow.ifacesOut == Tryz.f4.resultTypes.toList.any (Tryz.prog.ifacesRec ·)) = true := by kernel_rfl
theorem jf4_21 : (Rows.clientHeardRow.loopsOut == Tryz.f4.resultTypes.toList.any (Tryz.prog.loopsFrom ·)) = true := by kernel_rfl
theorem jf4_22 : (Rows.clientHeardRow.plainKeys == Tryz.prog.plainKeys) = true := by kernel_rfl
theorem jf4_23 : Rows.clientHeardRow.shortTexts.isNone = true := by kernel_rfl
theorem jf4_24 : Tryz.prog.stopsHeard = true := by kernel_rfl
theorem jf4_25 : Tryz.prog.mayEnter = true := by kernel_rfl
theorem jf4_26 : (Rows.clientHeardRow.lifted == Tryz.prog.liftsFinal) = true := by kernel_rfl
theorem jf4_27 : (Tryz.prog.make == some Rows.clientHeardRow.make) = true := by kernel_rfl
theorem jf4_28 : (Rows.clientHeardRow.kinds == (if Rows.clientHeardRow.domain.isEmpty then [] else Tryz.f4.params.toList.map fun t => match Tryz.prog.underlying t with | some (.int k) => some k | _ => none)) = true := by kernel_rfl
theorem jf4_29 : (Rows.clientHeardRow.pinned == Rows.clientHeardRow.pinnedBy) = true := by kernel_rfl
theorem jf4_30 : (Rows.clientHeardRow.veiled == (Tryz.f4.params.toList ++ Rows.clientHeardSpec.plain.varTypes Tryz.prog ++ Tryz.f4.resultTypes.toList).any (Tryz.prog.veiledRec ·)) = true := by kernel_rfl
theorem jf4_31 : Rows.clientHeardRow.veiledFits Tryz.prog Tryz.f4.params.toList (Tryz.f4.params.toList ++ Rows.clientHeardSpec.plain.varTypes Tryz.prog ++ Tryz.f4.resultTypes.toList) = true := by kernel_rfl
open Go.ChangeShapes Go.WideShapes Go.ChangeAt Go.RowKit
theorem own4 : ownKnob Tryz.prog.godebug = none := by kernel_rfl
theorem laid4 : laidOutB Tryz.prog = true := by kernel_rfl
set_option maxRecDepth 100000 in
theorem lifted4 (os : Os) (started : os.Started) (H : Type) (enc : TypeId × Value → H) :
    ReturnsInHanded {} Tryz.checked os 4 .any (Rows.clientHeardSpec.pre6 enc Tryz.prog Tryz.f4 Rows.clientHeardRow.domain false) (Rows.clientHeardSpec.post enc Tryz.prog Tryz.f4 false true false false) := by
  refine returnsInHanded_of_change_sized (C := Tryz.checked) own4 started (by kernel_rfl) Tryz.func4
    (ChangeSpec.witness6 (enc := enc) (C := Tryz.checked) false ⟨#[], #[.slice none 0 0], []⟩ 8 (by kernel_rfl) (by kernel_rfl) (by kernel_rfl) (by kernel_rfl)) ?_
  intro W base args ds gs before hval0 hW hcnd hsz _
  refine law_postZ (ts := [.sl (.cons (.int .i64) (.cons .bool (.cons (.int .i64) (.cons (.cons (.int .i64) (.cons (.int .i64) (.cons (.int .i64) (.cons (.int .i64) .unit)))) (.cons (.cons (.int .i64) (.cons (.int .i64) (.cons .bool (.cons .bool (.cons (.int .i64) (.cons (.int .i64) (.cons (.int .i64) (.cons (.int .i64) (.cons (.int .i64) (.cons (.int .i64) .unit)))))))))) (.cons (.sl (.int .i64)) (.cons .str .unit)))))))]) laid4 (by kernel_rfl) (show Tryz.f4.resultTypes = #[4] by kernel_rfl) Tryz.underlying4 (fun x => sized x.1) rfl ?_ ?_ W base args ds gs before hval0 hW ?_
  · intro ds hds
    match ds, hds with
    | [_], _ => rfl
  · intro x wx hx
    obtain ⟨N, hN⟩ := (⟨200000, law4 x.1 hx⟩ : ∃ N, F4 N (x.1) = some true)
    exact ⟨⟨[.v (.bool true)], []⟩, (T4_ok N).call (by decide +kernel) (show (tellS s4 w4 (F4 N) _).to _ from tell_to (I := s4.I) (F := F4 N) (O := pO w4) (x := x.1) rfl hN rfl), rfl⟩
  · intro x rx
    obtain ⟨v1, r1, e1, h1, h3⟩ := rx
    cases (show r1 = [] from h3)
    obtain ⟨p, q, hA, _⟩ := hW
    rw [e1] at hA
    have hA' : DataW.TrodAll enc Tryz.prog W 0 (fun _ => true) true [24] [v1] ds p := hA
    obtain ⟨v, vs, d1, ds1, a, b, e3, rfl, _, g1, g2⟩ := trodAll_cons hA'
    cases e3
    obtain ⟨fuel, hf⟩ := g1
    have h1 : repD (fun b => b < W.heap.size) W (.sl (.cons (.int .i64) (.cons .bool (.cons (.int .i64) (.cons (.cons (.int .i64) (.cons (.int .i64) (.cons (.int .i64) (.cons (.int .i64) .unit)))) (.cons (.cons (.int .i64) (.cons (.int .i64) (.cons .bool (.cons .bool (.cons (.int .i64) (.cons (.int .i64) (.cons (.int .i64) (.cons (.int .i64) (.cons (.int .i64) (.cons (.int .i64) .unit)))))))))) (.cons (.sl (.int .i64)) (.cons .str .unit)))))))) x.1 [v1] := h1
    have hv : ∃ a n c, v1 = .slice a n c := by
      obtain ⟨a', c', ev, _⟩ := h1
      simp only [List.cons.injEq, and_true] at ev
      exact ⟨_, _, _, ev⟩
    obtain ⟨a1, n1, c1, rfl⟩ := hv
    have hw : (DataW.weightsEach Tryz.prog [24] ([d1] ++ ds1 ++ gs)).all (· ≤ reachBytes) = true := hsz
    simp only [DataW.weightsEach, List.cons_append, List.all_append, Bool.and_eq_true] at hw
    have hz := trod_sz (R := fun b => b < W.heap.size) dep fuel 24 [.slice a1 n1 c1] (d1, a) (.sl (.cons (.int .i64) (.cons .bool (.cons (.int .i64) (.cons (.cons (.int .i64) (.cons (.int .i64) (.cons (.int .i64) (.cons (.int .i64) .unit)))) (.cons (.cons (.int .i64) (.cons (.int .i64) (.cons .bool (.cons .bool (.cons (.int .i64) (.cons (.int .i64) (.cons (.int .i64) (.cons (.int .i64) (.cons (.int .i64) (.cons (.int .i64) .unit)))))))))) (.cons (.sl (.int .i64)) (.cons .str .unit)))))))) x.1 (by kernel_rfl) hf (by kernel_rfl) h1 hw.1
    intro m hm
    have := hz m hm
    exact this.2.2.2.2.2.2.1
set_option maxRecDepth 100000 in
theorem joined4 : joinedFacts Tryz.prog 4 Tryz.f4 Rows.clientHeardSpec Rows.clientHeardRow = true := by
  unfold joinedFacts
  exact (band (band (band (band (band (band (band (band (band (band (band (band (band (band (band (band (band (band (band (band (band (band (band (band (band (band (band (band (band (band (band jf4_0 jf4_1) jf4_2) jf4_3) jf4_4) jf4_5) jf4_6) jf4_7) jf4_8) jf4_9) jf4_10) jf4_11) jf4_12) jf4_13) jf4_14) jf4_15) jf4_16) jf4_17) jf4_18) jf4_19) jf4_20) jf4_21) jf4_22) jf4_23) jf4_24) jf4_25) jf4_26) jf4_27) jf4_28) jf4_29) jf4_30) jf4_31)
theorem over4 : Rows.clientHeardRow.holds Tryz.pinned (OpenSpec.ofChange Rows.clientHeardSpec) :=
  OpenClaim.holds_of_wide 4 Tryz.f4 rfl rfl rfl rfl rfl rfl rfl ⟨rfl, rfl, rfl, rfl, rfl⟩ rfl rfl rfl rfl rfl (by kernel_rfl) Tryz.func4 joined4
    (of_decide_eq_true (by kernel_rfl)) (by unfold Func.isWrapper; first | (rw [if_pos (by decide +kernel)]; kernel_rfl) | (rw [if_neg (by decide +kernel)]; exact ⟨rfl, rfl⟩))
    (fun os started H enc _ => lifted4 os started H enc)
theorem clientHeard_holds : Rows.ClientHeardSaid := over4
end Go.Proofs.YtgddhgpljnljaaaGreat.Am
