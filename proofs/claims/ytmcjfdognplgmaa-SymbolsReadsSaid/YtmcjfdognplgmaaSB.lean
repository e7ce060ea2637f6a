/- The seat's Go functions come to the Lean functions written here, wherever these give an answer (second part). -/
import Derived.Test.YtmcjfdognplgmaaSA
set_option linter.unusedVariables false
set_option maxRecDepth 100000
namespace Go.Proofs.Ytmcjfdognplgmaa.Am
open Go.Am

/-! ## f31: mirador/symbols.Read -/

noncomputable def I31 : Pk → Option ((List Int) × (List Int) × Int × ByteArray × Int × Int)
  | ⟨[.adr 0 [], .ro (.int .i64) x0, .ro (.int .i64) x1, .v (.int .i64 x2)], [some (.var (.agg [.v (.string x3), .v (.int .i64 x4), .v (.int .i64 x5)]))]⟩ => some (x0, x1, x2, x3, x4, x5)
  | _ => none

noncomputable def J31 (x : (List Int) × (List Int) × Int × ByteArray × Int × Int) : Pk := ⟨[.adr 0 [], .ro (.int .i64) (x.1), .ro (.int .i64) (x.2.1), .v (.int .i64 (x.2.2.1))], [some (.var (.agg [.v (.string (x.2.2.2.1)), .v (.int .i64 (x.2.2.2.2.1)), .v (.int .i64 (x.2.2.2.2.2))]))]⟩

theorem I31_ok : ∀ pk x, I31 pk = some x → pk = J31 x := by
  intro pk x h
  unfold I31 at h
  split at h <;> first | (cases h; rfl) | cases h

noncomputable def A31 : List TV := [.adr 0 []]

noncomputable def tab31 (N : Nat) : List (Nat × (Pk → Tr Pk)) := [(53, T53 N), (54, T54 N), (55, T55 N)]

theorem tab31_ok (N : Nat) : TabOK Try.prog (tab31 N) := ⟨T53_ok N, ⟨T54_ok N, ⟨T55_ok N, trivial⟩⟩⟩

def X31_254 : Ex → List Nat
  | .ret => [8, 9]
  | .exit 0 => [8, 9]
  | _ => []

noncomputable def I31_254 : Pk → Option (Int × Int × ByteArray × Int × Int × (List (Int × (Int × (Int × Unit)))))
  | ⟨[.sl 1 (none), .v ((Value.pointer none)), .adr 0 [], .v ((Value.pointer none)), .v (.int .i64 x0), .v (.int .i64 x1)], [some (.var (.agg [.v (.string x2), .v (.int .i64 x3), .v (.int .i64 x4)])), some (.row (Ty.cons (Ty.int IntKind.i64) (Ty.cons (Ty.int IntKind.i64) (Ty.cons (Ty.int IntKind.i64) Ty.unit))) 63 x5)]⟩ => some (x0, x1, x2, x3, x4, x5)
  | _ => none

noncomputable def J31_254 (x : Int × Int × ByteArray × Int × Int × (List (Int × (Int × (Int × Unit))))) : Pk := ⟨[.sl 1 (none), .v ((Value.pointer none)), .adr 0 [], .v ((Value.pointer none)), .v (.int .i64 (x.1)), .v (.int .i64 (x.2.1))], [some (.var (.agg [.v (.string (x.2.2.1)), .v (.int .i64 (x.2.2.2.1)), .v (.int .i64 (x.2.2.2.2.1))])), some (.row (Ty.cons (Ty.int IntKind.i64) (Ty.cons (Ty.int IntKind.i64) (Ty.cons (Ty.int IntKind.i64) Ty.unit))) 63 (x.2.2.2.2.2))]⟩

theorem I31_254_ok : ∀ pk x, I31_254 pk = some x → pk = J31_254 x := by
  intro pk x h
  unfold I31_254 at h
  split at h <;> first | (cases h; rfl) | cases h

noncomputable def O31_254 (r : Unit) : Tr (Ex × Pk) := .fail

noncomputable def D31_254 : Ex × Pk → Option (Unit)
  | _ => none

theorem D31_254_ok : ∀ y r, D31_254 y = some r → ∀ z, (O31_254 r).to z → y = z := by
  intro y r h
  unfold D31_254 at h
  split at h <;> first | (cases h; intro z hz; exact Option.some.inj hz) | cases h

noncomputable def B31_254 (N : Nat) (f : (Int × Int × ByteArray × Int × Int × (List (Int × (Int × (Int × Unit))))) → Option (Unit)) : (Int × Int × ByteArray × Int × Int × (List (Int × (Int × (Int × Unit))))) → Option (Unit)
  | (x0, x1, x2, x3, x4, x5) =>
  none

noncomputable def F31_254 (N : Nat) : Nat → (Int × Int × ByteArray × Int × Int × (List (Int × (Int × (Int × Unit))))) → Option (Unit)
  | 0, _ => none
  | k + 1, x => B31_254 N (F31_254 N k) x

noncomputable def C31_254 (N k : Nat) : Cut := ⟨[14, 10, 0, 12, 3, 15], X31_254, tellX I31_254 (F31_254 N k) O31_254⟩

theorem B31_254_eq (N : Nat) (f : (Int × Int × ByteArray × Int × Int × (List (Int × (Int × (Int × Unit))))) → Option (Unit)) (x0 : Int) (x1 : Int) (x2 : ByteArray) (x3 : Int) (x4 : Int) (x5 : (List (Int × (Int × (Int × Unit))))) : (roundEv (mkE Try.prog ownT (tab31 N) []) Try.f31.ntmps A31 (loopAt (bod Try.f31) 254) 254 ⟨[14, 10, 0, 12, 3, 15], X31_254, tellX I31_254 f O31_254⟩ (J31_254 (x0, x1, x2, x3, x4, x5))).run D31_254 = B31_254 N f (x0, x1, x2, x3, x4, x5) := by kernel_rfl

theorem C31_254_ok (N k : Nat) : ∀ c', At (bod Try.f31) 254 c' → CutOK Try.prog Try.f31.ntmps (idsL A31) c' (C31_254 N k) :=
  loop_ok (E := (mkE Try.prog ownT (tab31 N) [])) (mkE_ok mix (tab31_ok N)) (cutsIn_ok trivial) (fuel := 200) (by decide +kernel) (by kernel_rfl) I31_254_ok D31_254_ok (B31_254 N) (F31_254 N) (fun _ => rfl) (fun _ _ => rfl) (fun f x => match x with | (x0, x1, x2, x3, x4, x5) => B31_254_eq N f x0 x1 x2 x3 x4 x5) k

noncomputable def I31_254b : Pk → Option (Int × Int × ByteArray × Int × Int × (List (Int × (Int × (Int × Unit)))) × (List Int) × Int × (List Int))
  | ⟨[.sl 1 (none), .v ((Value.pointer none)), .adr 0 [], .adr 2 [], .v (.int .i64 x0), .v (.int .i64 x1)], [some (.var (.agg [.v (.string x2), .v (.int .i64 x3), .v (.int .i64 x4)])), some (.row (Ty.cons (Ty.int IntKind.i64) (Ty.cons (Ty.int IntKind.i64) (Ty.cons (Ty.int IntKind.i64) Ty.unit))) 63 x5), some (.var (.agg [.arr (Ty.int IntKind.i64) 16 x6, .sl 3 (none), .v (.int .i64 x7)])), some (.row (Ty.int IntKind.i64) 3 x8)]⟩ => some (x0, x1, x2, x3, x4, x5, x6, x7, x8)
  | _ => none

noncomputable def J31_254b (x : Int × Int × ByteArray × Int × Int × (List (Int × (Int × (Int × Unit)))) × (List Int) × Int × (List Int)) : Pk := ⟨[.sl 1 (none), .v ((Value.pointer none)), .adr 0 [], .adr 2 [], .v (.int .i64 (x.1)), .v (.int .i64 (x.2.1))], [some (.var (.agg [.v (.string (x.2.2.1)), .v (.int .i64 (x.2.2.2.1)), .v (.int .i64 (x.2.2.2.2.1))])), some (.row (Ty.cons (Ty.int IntKind.i64) (Ty.cons (Ty.int IntKind.i64) (Ty.cons (Ty.int IntKind.i64) Ty.unit))) 63 (x.2.2.2.2.2.1)), some (.var (.agg [.arr (Ty.int IntKind.i64) 16 (x.2.2.2.2.2.2.1), .sl 3 (none), .v (.int .i64 (x.2.2.2.2.2.2.2.1))])), some (.row (Ty.int IntKind.i64) 3 (x.2.2.2.2.2.2.2.2))]⟩

theorem I31_254b_ok : ∀ pk x, I31_254b pk = some x → pk = J31_254b x := by
  intro pk x h
  unfold I31_254b at h
  split at h <;> first | (cases h; rfl) | cases h

noncomputable def O31_254b (r : Unit) : Tr (Ex × Pk) := .fail

noncomputable def D31_254b : Ex × Pk → Option (Unit)
  | _ => none

theorem D31_254b_ok : ∀ y r, D31_254b y = some r → ∀ z, (O31_254b r).to z → y = z := by
  intro y r h
  unfold D31_254b at h
  split at h <;> first | (cases h; intro z hz; exact Option.some.inj hz) | cases h

noncomputable def B31_254b (N : Nat) (f : (Int × Int × ByteArray × Int × Int × (List (Int × (Int × (Int × Unit)))) × (List Int) × Int × (List Int)) → Option (Unit)) : (Int × Int × ByteArray × Int × Int × (List (Int × (Int × (Int × Unit)))) × (List Int) × Int × (List Int)) → Option (Unit)
  | (x0, x1, x2, x3, x4, x5, x6, x7, x8) =>
  none

noncomputable def F31_254b (N : Nat) : Nat → (Int × Int × ByteArray × Int × Int × (List (Int × (Int × (Int × Unit)))) × (List Int) × Int × (List Int)) → Option (Unit)
  | 0, _ => none
  | k + 1, x => B31_254b N (F31_254b N k) x

noncomputable def C31_254b (N k : Nat) : Cut := ⟨[14, 10, 0, 12, 3, 15], X31_254, tellX I31_254b (F31_254b N k) O31_254b⟩

theorem B31_254b_eq (N : Nat) (f : (Int × Int × ByteArray × Int × Int × (List (Int × (Int × (Int × Unit)))) × (List Int) × Int × (List Int)) → Option (Unit)) (x0 : Int) (x1 : Int) (x2 : ByteArray) (x3 : Int) (x4 : Int) (x5 : (List (Int × (Int × (Int × Unit))))) (x6 : (List Int)) (x7 : Int) (x8 : (List Int)) : (roundEv (mkE Try.prog ownT (tab31 N) [(254, (C31_254 N N))]) Try.f31.ntmps A31 (loopAt (bod Try.f31) 254) 254 ⟨[14, 10, 0, 12, 3, 15], X31_254, tellX I31_254b f O31_254b⟩ (J31_254b (x0, x1, x2, x3, x4, x5, x6, x7, x8))).run D31_254b = B31_254b N f (x0, x1, x2, x3, x4, x5, x6, x7, x8) := by kernel_rfl

theorem C31_254b_ok (N k : Nat) : ∀ c', At (bod Try.f31) 254 c' → CutOK Try.prog Try.f31.ntmps (idsL A31) c' (C31_254b N k) :=
  loop_ok (E := (mkE Try.prog ownT (tab31 N) [(254, (C31_254 N N))])) (mkE_ok mix (tab31_ok N)) (cutsIn_ok ⟨fun c' h => (C31_254_ok N N c' h), trivial⟩) (fuel := 200) (by decide +kernel) (by kernel_rfl) I31_254b_ok D31_254b_ok (B31_254b N) (F31_254b N) (fun _ => rfl) (fun _ _ => rfl) (fun f x => match x with | (x0, x1, x2, x3, x4, x5, x6, x7, x8) => B31_254b_eq N f x0 x1 x2 x3 x4 x5 x6 x7 x8) k

noncomputable def I31_254c : Pk → Option (Int × Int × ByteArray × Int × Int × (List (Int × (Int × (Int × Unit)))) × (List Int) × Int × (List Int))
  | ⟨[.sl 1 (none), .adr 2 [], .adr 0 [], .v ((Value.pointer none)), .v (.int .i64 x0), .v (.int .i64 x1)], [some (.var (.agg [.v (.string x2), .v (.int .i64 x3), .v (.int .i64 x4)])), some (.row (Ty.cons (Ty.int IntKind.i64) (Ty.cons (Ty.int IntKind.i64) (Ty.cons (Ty.int IntKind.i64) Ty.unit))) 63 x5), some (.var (.agg [.arr (Ty.int IntKind.i64) 16 x6, .sl 3 (none), .v (.int .i64 x7)])), some (.row (Ty.int IntKind.i64) 3 x8)]⟩ => some (x0, x1, x2, x3, x4, x5, x6, x7, x8)
  | _ => none

noncomputable def J31_254c (x : Int × Int × ByteArray × Int × Int × (List (Int × (Int × (Int × Unit)))) × (List Int) × Int × (List Int)) : Pk := ⟨[.sl 1 (none), .adr 2 [], .adr 0 [], .v ((Value.pointer none)), .v (.int .i64 (x.1)), .v (.int .i64 (x.2.1))], [some (.var (.agg [.v (.string (x.2.2.1)), .v (.int .i64 (x.2.2.2.1)), .v (.int .i64 (x.2.2.2.2.1))])), some (.row (Ty.cons (Ty.int IntKind.i64) (Ty.cons (Ty.int IntKind.i64) (Ty.cons (Ty.int IntKind.i64) Ty.unit))) 63 (x.2.2.2.2.2.1)), some (.var (.agg [.arr (Ty.int IntKind.i64) 16 (x.2.2.2.2.2.2.1), .sl 3 (none), .v (.int .i64 (x.2.2.2.2.2.2.2.1))])), some (.row (Ty.int IntKind.i64) 3 (x.2.2.2.2.2.2.2.2))]⟩

theorem I31_254c_ok : ∀ pk x, I31_254c pk = some x → pk = J31_254c x := by
  intro pk x h
  unfold I31_254c at h
  split at h <;> first | (cases h; rfl) | cases h

noncomputable def O31_254c (r : Int × ByteArray × Int × Int × (List (Int × (Int × (Int × Unit))))) : Tr (Ex × Pk) := .ret (.ret, ⟨[.sl 1 (none), .v (.int .i64 (r.1))], [some (.var (.agg [.v (.string (r.2.1)), .v (.int .i64 (r.2.2.1)), .v (.int .i64 (r.2.2.2.1))])), some (.row (Ty.cons (Ty.int IntKind.i64) (Ty.cons (Ty.int IntKind.i64) (Ty.cons (Ty.int IntKind.i64) Ty.unit))) 63 (r.2.2.2.2))]⟩)

noncomputable def D31_254c : Ex × Pk → Option (Int × ByteArray × Int × Int × (List (Int × (Int × (Int × Unit)))))
  | (.ret, ⟨[.sl 1 (none), .v (.int .i64 x0)], [some (.var (.agg [.v (.string x1), .v (.int .i64 x2), .v (.int .i64 x3)])), some (.row (Ty.cons (Ty.int IntKind.i64) (Ty.cons (Ty.int IntKind.i64) (Ty.cons (Ty.int IntKind.i64) Ty.unit))) 63 x4)]⟩) => some ((x0, x1, x2, x3, x4))
  | _ => none

theorem D31_254c_ok : ∀ y r, D31_254c y = some r → ∀ z, (O31_254c r).to z → y = z := by
  intro y r h
  unfold D31_254c at h
  split at h <;> first | (cases h; intro z hz; exact Option.some.inj hz) | cases h

noncomputable def B31_254c (N : Nat) (f : (Int × Int × ByteArray × Int × Int × (List (Int × (Int × (Int × Unit)))) × (List Int) × Int × (List Int)) → Option (Int × ByteArray × Int × Int × (List (Int × (Int × (Int × Unit)))))) : (Int × Int × ByteArray × Int × Int × (List (Int × (Int × (Int × Unit)))) × (List Int) × Int × (List Int)) → Option (Int × ByteArray × Int × Int × (List (Int × (Int × (Int × Unit)))))
  | (x0, x1, x2, x3, x4, x5, x6, x7, x8) =>
  Option.bind (F54 N (x6, x7, x2, x3, x4, x8)) fun y0 =>
  if (Prod.fst (Prod.snd y0) != (0 : Int)) = true then
    some ((Prod.fst (Prod.snd y0), Prod.fst (Prod.snd (Prod.snd (Prod.snd (Prod.snd y0)))), Prod.fst (Prod.snd (Prod.snd (Prod.snd (Prod.snd (Prod.snd y0))))), Prod.fst (Prod.snd (Prod.snd (Prod.snd (Prod.snd (Prod.snd (Prod.snd y0)))))), []))
  else
    if (Prod.fst y0 == (256 : Int)) = true then
      some (((0 : Int), Prod.fst (Prod.snd (Prod.snd (Prod.snd (Prod.snd y0)))), Prod.fst (Prod.snd (Prod.snd (Prod.snd (Prod.snd (Prod.snd y0))))), Prod.fst (Prod.snd (Prod.snd (Prod.snd (Prod.snd (Prod.snd (Prod.snd y0)))))), x5))
    else
      if (decide (Prod.fst y0 > (256 : Int))) = true then
        none
      else
        if (decide (IntKind.wrap IntKind.i64 (x1 + (1 : Int)) > x0)) = true then
          some (((4 : Int), Prod.fst (Prod.snd (Prod.snd (Prod.snd (Prod.snd y0)))), Prod.fst (Prod.snd (Prod.snd (Prod.snd (Prod.snd (Prod.snd y0))))), Prod.fst (Prod.snd (Prod.snd (Prod.snd (Prod.snd (Prod.snd (Prod.snd y0)))))), []))
        else
          if (decide ((List.length x5 + List.length [(Prod.fst y0, (0 : Int), (0 : Int), ())]) * (24 : Nat) ≤ (140737488355328 : Nat) ∧ List.length x5 + List.length [(Prod.fst y0, (0 : Int), (0 : Int), ())] ≤ (140737488355328 : Nat))) = true then
            Option.bind (f (x0, IntKind.wrap IntKind.i64 (x1 + (1 : Int)), Prod.fst (Prod.snd (Prod.snd (Prod.snd (Prod.snd y0)))), Prod.fst (Prod.snd (Prod.snd (Prod.snd (Prod.snd (Prod.snd y0))))), Prod.fst (Prod.snd (Prod.snd (Prod.snd (Prod.snd (Prod.snd (Prod.snd y0)))))), x5 ++ [(Prod.fst y0, (0 : Int), (0 : Int), ())], Prod.fst (Prod.snd (Prod.snd y0)), Prod.fst (Prod.snd (Prod.snd (Prod.snd y0))), Prod.snd (Prod.snd (Prod.snd (Prod.snd (Prod.snd (Prod.snd (Prod.snd y0)))))))) fun r => some r
          else
            none

noncomputable def F31_254c (N : Nat) : Nat → (Int × Int × ByteArray × Int × Int × (List (Int × (Int × (Int × Unit)))) × (List Int) × Int × (List Int)) → Option (Int × ByteArray × Int × Int × (List (Int × (Int × (Int × Unit)))))
  | 0, _ => none
  | k + 1, x => B31_254c N (F31_254c N k) x

noncomputable def C31_254c (N k : Nat) : Cut := ⟨[14, 10, 0, 12, 3, 15], X31_254, tellX I31_254c (F31_254c N k) O31_254c⟩

theorem B31_254c_eq (N : Nat) (f : (Int × Int × ByteArray × Int × Int × (List (Int × (Int × (Int × Unit)))) × (List Int) × Int × (List Int)) → Option (Int × ByteArray × Int × Int × (List (Int × (Int × (Int × Unit)))))) (x0 : Int) (x1 : Int) (x2 : ByteArray) (x3 : Int) (x4 : Int) (x5 : (List (Int × (Int × (Int × Unit))))) (x6 : (List Int)) (x7 : Int) (x8 : (List Int)) : (roundEv (mkE Try.prog ownT (tab31 N) [(254, (orC I31_254 (C31_254 N N) (C31_254b N N)))]) Try.f31.ntmps A31 (loopAt (bod Try.f31) 254) 254 ⟨[14, 10, 0, 12, 3, 15], X31_254, tellX I31_254c f O31_254c⟩ (J31_254c (x0, x1, x2, x3, x4, x5, x6, x7, x8))).run D31_254c = B31_254c N f (x0, x1, x2, x3, x4, x5, x6, x7, x8) := by kernel_rfl

theorem C31_254c_ok (N k : Nat) : ∀ c', At (bod Try.f31) 254 c' → CutOK Try.prog Try.f31.ntmps (idsL A31) c' (C31_254c N k) :=
  loop_ok (E := (mkE Try.prog ownT (tab31 N) [(254, (orC I31_254 (C31_254 N N) (C31_254b N N)))])) (mkE_ok mix (tab31_ok N)) (cutsIn_ok ⟨fun c' h => (orC_ok (C31_254_ok N N c' h) (C31_254b_ok N N c' h) rfl rfl), trivial⟩) (fuel := 200) (by decide +kernel) (by kernel_rfl) I31_254c_ok D31_254c_ok (B31_254c N) (F31_254c N) (fun _ => rfl) (fun _ _ => rfl) (fun f x => match x with | (x0, x1, x2, x3, x4, x5, x6, x7, x8) => B31_254c_eq N f x0 x1 x2 x3 x4 x5 x6 x7 x8) k

noncomputable def I31_254d : Pk → Option (Int × Int × ByteArray × Int × Int × (List (Int × (Int × (Int × Unit)))) × (List Int) × Int × (List Int) × Int × (List Int) × (List Int))
  | ⟨[.sl 1 (none), .adr 2 [], .adr 0 [], .adr 3 [], .v (.int .i64 x0), .v (.int .i64 x1)], [some (.var (.agg [.v (.string x2), .v (.int .i64 x3), .v (.int .i64 x4)])), some (.row (Ty.cons (Ty.int IntKind.i64) (Ty.cons (Ty.int IntKind.i64) (Ty.cons (Ty.int IntKind.i64) Ty.unit))) 63 x5), some (.var (.agg [.arr (Ty.int IntKind.i64) 16 x6, .sl 4 (none), .v (.int .i64 x7)])), some (.var (.agg [.arr (Ty.int IntKind.i64) 16 x8, .sl 5 (none), .v (.int .i64 x9)])), some (.row (Ty.int IntKind.i64) 3 x10), some (.row (Ty.int IntKind.i64) 3 x11)]⟩ => some (x0, x1, x2, x3, x4, x5, x6, x7, x8, x9, x10, x11)
  | _ => none

noncomputable def J31_254d (x : Int × Int × ByteArray × Int × Int × (List (Int × (Int × (Int × Unit)))) × (List Int) × Int × (List Int) × Int × (List Int) × (List Int)) : Pk := ⟨[.sl 1 (none), .adr 2 [], .adr 0 [], .adr 3 [], .v (.int .i64 (x.1)), .v (.int .i64 (x.2.1))], [some (.var (.agg [.v (.string (x.2.2.1)), .v (.int .i64 (x.2.2.2.1)), .v (.int .i64 (x.2.2.2.2.1))])), some (.row (Ty.cons (Ty.int IntKind.i64) (Ty.cons (Ty.int IntKind.i64) (Ty.cons (Ty.int IntKind.i64) Ty.unit))) 63 (x.2.2.2.2.2.1)), some (.var (.agg [.arr (Ty.int IntKind.i64) 16 (x.2.2.2.2.2.2.1), .sl 4 (none), .v (.int .i64 (x.2.2.2.2.2.2.2.1))])), some (.var (.agg [.arr (Ty.int IntKind.i64) 16 (x.2.2.2.2.2.2.2.2.1), .sl 5 (none), .v (.int .i64 (x.2.2.2.2.2.2.2.2.2.1))])), some (.row (Ty.int IntKind.i64) 3 (x.2.2.2.2.2.2.2.2.2.2.1)), some (.row (Ty.int IntKind.i64) 3 (x.2.2.2.2.2.2.2.2.2.2.2))]⟩

theorem I31_254d_ok : ∀ pk x, I31_254d pk = some x → pk = J31_254d x := by
  intro pk x h
  unfold I31_254d at h
  split at h <;> first | (cases h; rfl) | cases h

noncomputable def O31_254d (r : Int × ByteArray × Int × Int × (List (Int × (Int × (Int × Unit))))) : Tr (Ex × Pk) := .ret (.ret, ⟨[.sl 1 (none), .v (.int .i64 (r.1))], [some (.var (.agg [.v (.string (r.2.1)), .v (.int .i64 (r.2.2.1)), .v (.int .i64 (r.2.2.2.1))])), some (.row (Ty.cons (Ty.int IntKind.i64) (Ty.cons (Ty.int IntKind.i64) (Ty.cons (Ty.int IntKind.i64) Ty.unit))) 63 (r.2.2.2.2))]⟩)

noncomputable def D31_254d : Ex × Pk → Option (Int × ByteArray × Int × Int × (List (Int × (Int × (Int × Unit)))))
  | (.ret, ⟨[.sl 1 (none), .v (.int .i64 x0)], [some (.var (.agg [.v (.string x1), .v (.int .i64 x2), .v (.int .i64 x3)])), some (.row (Ty.cons (Ty.int IntKind.i64) (Ty.cons (Ty.int IntKind.i64) (Ty.cons (Ty.int IntKind.i64) Ty.unit))) 63 x4)]⟩) => some ((x0, x1, x2, x3, x4))
  | _ => none

theorem D31_254d_ok : ∀ y r, D31_254d y = some r → ∀ z, (O31_254d r).to z → y = z := by
  intro y r h
  unfold D31_254d at h
  split at h <;> first | (cases h; intro z hz; exact Option.some.inj hz) | cases h

noncomputable def B31_254d (N : Nat) (f : (Int × Int × ByteArray × Int × Int × (List (Int × (Int × (Int × Unit)))) × (List Int) × Int × (List Int) × Int × (List Int) × (List Int)) → Option (Int × ByteArray × Int × Int × (List (Int × (Int × (Int × Unit)))))) : (Int × Int × ByteArray × Int × Int × (List (Int × (Int × (Int × Unit)))) × (List Int) × Int × (List Int) × Int × (List Int) × (List Int)) → Option (Int × ByteArray × Int × Int × (List (Int × (Int × (Int × Unit)))))
  | (x0, x1, x2, x3, x4, x5, x6, x7, x8, x9, x10, x11) =>
  Option.bind (F54 N (x6, x7, x2, x3, x4, x10)) fun y0 =>
  if (Prod.fst (Prod.snd y0) != (0 : Int)) = true then
    some ((Prod.fst (Prod.snd y0), Prod.fst (Prod.snd (Prod.snd (Prod.snd (Prod.snd y0)))), Prod.fst (Prod.snd (Prod.snd (Prod.snd (Prod.snd (Prod.snd y0))))), Prod.fst (Prod.snd (Prod.snd (Prod.snd (Prod.snd (Prod.snd (Prod.snd y0)))))), []))
  else
    if (Prod.fst y0 == (256 : Int)) = true then
      some (((0 : Int), Prod.fst (Prod.snd (Prod.snd (Prod.snd (Prod.snd y0)))), Prod.fst (Prod.snd (Prod.snd (Prod.snd (Prod.snd (Prod.snd y0))))), Prod.fst (Prod.snd (Prod.snd (Prod.snd (Prod.snd (Prod.snd (Prod.snd y0)))))), x5))
    else
      if (decide (Prod.fst y0 > (256 : Int))) = true then
        Option.bind (F55 N (Prod.fst y0, Prod.fst (Prod.snd (Prod.snd (Prod.snd (Prod.snd y0)))), Prod.fst (Prod.snd (Prod.snd (Prod.snd (Prod.snd (Prod.snd y0))))), Prod.fst (Prod.snd (Prod.snd (Prod.snd (Prod.snd (Prod.snd (Prod.snd y0)))))), x8, x9, x11)) fun y1 =>
        if (Prod.fst (Prod.snd (Prod.snd (Prod.snd y1))) != (0 : Int)) = true then
          some ((Prod.fst (Prod.snd (Prod.snd (Prod.snd y1))), Prod.fst (Prod.snd (Prod.snd (Prod.snd (Prod.snd y1)))), Prod.fst (Prod.snd (Prod.snd (Prod.snd (Prod.snd (Prod.snd y1))))), Prod.fst (Prod.snd (Prod.snd (Prod.snd (Prod.snd (Prod.snd (Prod.snd y1)))))), []))
        else
          if (decide (IntKind.wrap IntKind.i64 (x1 + if (1 : Int) > Prod.fst (Prod.snd y1) then (1 : Int) else Prod.fst (Prod.snd y1)) > x0)) = true then
            some (((4 : Int), Prod.fst (Prod.snd (Prod.snd (Prod.snd (Prod.snd y1)))), Prod.fst (Prod.snd (Prod.snd (Prod.snd (Prod.snd (Prod.snd y1))))), Prod.fst (Prod.snd (Prod.snd (Prod.snd (Prod.snd (Prod.snd (Prod.snd y1)))))), []))
          else
            if (decide ((List.length x5 + List.length [(Prod.fst y1, Prod.fst (Prod.snd y1), Prod.fst (Prod.snd (Prod.snd y1)), ())]) * (24 : Nat) ≤ (140737488355328 : Nat) ∧ List.length x5 + List.length [(Prod.fst y1, Prod.fst (Prod.snd y1), Prod.fst (Prod.snd (Prod.snd y1)), ())] ≤ (140737488355328 : Nat))) = true then
              Option.bind (f (x0, IntKind.wrap IntKind.i64 (x1 + if (1 : Int) > Prod.fst (Prod.snd y1) then (1 : Int) else Prod.fst (Prod.snd y1)), Prod.fst (Prod.snd (Prod.snd (Prod.snd (Prod.snd y1)))), Prod.fst (Prod.snd (Prod.snd (Prod.snd (Prod.snd (Prod.snd y1))))), Prod.fst (Prod.snd (Prod.snd (Prod.snd (Prod.snd (Prod.snd (Prod.snd y1)))))), x5 ++ [(Prod.fst y1, Prod.fst (Prod.snd y1), Prod.fst (Prod.snd (Prod.snd y1)), ())], Prod.fst (Prod.snd (Prod.snd y0)), Prod.fst (Prod.snd (Prod.snd (Prod.snd y0))), Prod.fst (Prod.snd (Prod.snd (Prod.snd (Prod.snd (Prod.snd (Prod.snd (Prod.snd y1))))))), Prod.fst (Prod.snd (Prod.snd (Prod.snd (Prod.snd (Prod.snd (Prod.snd (Prod.snd (Prod.snd y1)))))))), Prod.snd (Prod.snd (Prod.snd (Prod.snd (Prod.snd (Prod.snd (Prod.snd y0)))))), Prod.snd (Prod.snd (Prod.snd (Prod.snd (Prod.snd (Prod.snd (Prod.snd (Prod.snd (Prod.snd y1)))))))))) fun r => some r
            else
              none
      else
        if (decide (IntKind.wrap IntKind.i64 (x1 + (1 : Int)) > x0)) = true then
          some (((4 : Int), Prod.fst (Prod.snd (Prod.snd (Prod.snd (Prod.snd y0)))), Prod.fst (Prod.snd (Prod.snd (Prod.snd (Prod.snd (Prod.snd y0))))), Prod.fst (Prod.snd (Prod.snd (Prod.snd (Prod.snd (Prod.snd (Prod.snd y0)))))), []))
        else
          if (decide ((List.length x5 + List.length [(Prod.fst y0, (0 : Int), (0 : Int), ())]) * (24 : Nat) ≤ (140737488355328 : Nat) ∧ List.length x5 + List.length [(Prod.fst y0, (0 : Int), (0 : Int), ())] ≤ (140737488355328 : Nat))) = true then
            Option.bind (f (x0, IntKind.wrap IntKind.i64 (x1 + (1 : Int)), Prod.fst (Prod.snd (Prod.snd (Prod.snd (Prod.snd y0)))), Prod.fst (Prod.snd (Prod.snd (Prod.snd (Prod.snd (Prod.snd y0))))), Prod.fst (Prod.snd (Prod.snd (Prod.snd (Prod.snd (Prod.snd (Prod.snd y0)))))), x5 ++ [(Prod.fst y0, (0 : Int), (0 : Int), ())], Prod.fst (Prod.snd (Prod.snd y0)), Prod.fst (Prod.snd (Prod.snd (Prod.snd y0))), x8, x9, Prod.snd (Prod.snd (Prod.snd (Prod.snd (Prod.snd (Prod.snd (Prod.snd y0)))))), x11)) fun r => some r
          else
            none

noncomputable def F31_254d (N : Nat) : Nat → (Int × Int × ByteArray × Int × Int × (List (Int × (Int × (Int × Unit)))) × (List Int) × Int × (List Int) × Int × (List Int) × (List Int)) → Option (Int × ByteArray × Int × Int × (List (Int × (Int × (Int × Unit)))))
  | 0, _ => none
  | k + 1, x => B31_254d N (F31_254d N k) x

noncomputable def C31_254d (N k : Nat) : Cut := ⟨[14, 10, 0, 12, 3, 15], X31_254, tellX I31_254d (F31_254d N k) O31_254d⟩

theorem B31_254d_eq (N : Nat) (f : (Int × Int × ByteArray × Int × Int × (List (Int × (Int × (Int × Unit)))) × (List Int) × Int × (List Int) × Int × (List Int) × (List Int)) → Option (Int × ByteArray × Int × Int × (List (Int × (Int × (Int × Unit)))))) (x0 : Int) (x1 : Int) (x2 : ByteArray) (x3 : Int) (x4 : Int) (x5 : (List (Int × (Int × (Int × Unit))))) (x6 : (List Int)) (x7 : Int) (x8 : (List Int)) (x9 : Int) (x10 : (List Int)) (x11 : (List Int)) : (roundEv (mkE Try.prog ownT (tab31 N) [(254, (orC I31_254 (C31_254 N N) (orC I31_254b (C31_254b N N) (C31_254c N N))))]) Try.f31.ntmps A31 (loopAt (bod Try.f31) 254) 254 ⟨[14, 10, 0, 12, 3, 15], X31_254, tellX I31_254d f O31_254d⟩ (J31_254d (x0, x1, x2, x3, x4, x5, x6, x7, x8, x9, x10, x11))).run D31_254d = B31_254d N f (x0, x1, x2, x3, x4, x5, x6, x7, x8, x9, x10, x11) := by kernel_rfl

theorem C31_254d_ok (N k : Nat) : ∀ c', At (bod Try.f31) 254 c' → CutOK Try.prog Try.f31.ntmps (idsL A31) c' (C31_254d N k) :=
  loop_ok (E := (mkE Try.prog ownT (tab31 N) [(254, (orC I31_254 (C31_254 N N) (orC I31_254b (C31_254b N N) (C31_254c N N))))])) (mkE_ok mix (tab31_ok N)) (cutsIn_ok ⟨fun c' h => (orC_ok (C31_254_ok N N c' h) (orC_ok (C31_254b_ok N N c' h) (C31_254c_ok N N c' h) rfl rfl) rfl rfl), trivial⟩) (fuel := 200) (by decide +kernel) (by kernel_rfl) I31_254d_ok D31_254d_ok (B31_254d N) (F31_254d N) (fun _ => rfl) (fun _ _ => rfl) (fun f x => match x with | (x0, x1, x2, x3, x4, x5, x6, x7, x8, x9, x10, x11) => B31_254d_eq N f x0 x1 x2 x3 x4 x5 x6 x7 x8 x9 x10 x11) k

noncomputable def O31 (r : Int × ByteArray × Int × Int × (List (Int × (Int × (Int × Unit))))) : Tr (Pk) := .ret ⟨[.tup [.sl 1 (none), .v (.int .i64 (r.1))]], [some (.var (.agg [.v (.string (r.2.1)), .v (.int .i64 (r.2.2.1)), .v (.int .i64 (r.2.2.2.1))])), some (.row (Ty.cons (Ty.int IntKind.i64) (Ty.cons (Ty.int IntKind.i64) (Ty.cons (Ty.int IntKind.i64) Ty.unit))) 63 (r.2.2.2.2))]⟩

noncomputable def D31 : Pk → Option (Int × ByteArray × Int × Int × (List (Int × (Int × (Int × Unit)))))
  | ⟨[.tup [.sl 1 (none), .v (.int .i64 x0)]], [some (.var (.agg [.v (.string x1), .v (.int .i64 x2), .v (.int .i64 x3)])), some (.row (Ty.cons (Ty.int IntKind.i64) (Ty.cons (Ty.int IntKind.i64) (Ty.cons (Ty.int IntKind.i64) Ty.unit))) 63 x4)]⟩ => some ((x0, x1, x2, x3, x4))
  | _ => none

theorem D31_ok : ∀ y r, D31 y = some r → ∀ z, (O31 r).to z → y = z := by
  intro y r h
  unfold D31 at h
  split at h <;> first | (cases h; intro z hz; exact Option.some.inj hz) | cases h

noncomputable def F31 (N : Nat) : ((List Int) × (List Int) × Int × ByteArray × Int × Int) → Option (Int × ByteArray × Int × Int × (List (Int × (Int × (Int × Unit)))))
  | (x0, x1, x2, x3, x4, x5) =>
  Option.bind (F53 N x0) fun y0 =>
  match y0 with
  | .inl y1 =>
    Option.bind (F53 N x1) fun y2 =>
    match y2 with
    | .inl y3 =>
      if (y1 != (0 : Int)) = true then
        some (((50 : Int), x3, x4, x5, []))
      else
        if (y3 != (0 : Int)) = true then
          some (((50 : Int), x3, x4, x5, []))
        else
          Option.bind (F31_254 N N (x2, (0 : Int), x3, x4, x5, [])) fun y4 =>
          none
    | .inr y3 =>
      if (y1 != (0 : Int)) = true then
        some (((50 : Int), x3, x4, x5, []))
      else
        if (Prod.fst y3 != (0 : Int)) = true then
          some (((50 : Int), x3, x4, x5, []))
        else
          Option.bind (F31_254b N N (x2, (0 : Int), x3, x4, x5, [], Prod.fst (Prod.snd y3), Prod.fst (Prod.snd (Prod.snd y3)), Prod.snd (Prod.snd (Prod.snd y3)))) fun y5 =>
          none
  | .inr y1 =>
    Option.bind (F53 N x1) fun y6 =>
    match y6 with
    | .inl y7 =>
      if (Prod.fst y1 != (0 : Int)) = true then
        some (((50 : Int), x3, x4, x5, []))
      else
        if (y7 != (0 : Int)) = true then
          some (((50 : Int), x3, x4, x5, []))
        else
          Option.bind (F31_254c N N (x2, (0 : Int), x3, x4, x5, [], Prod.fst (Prod.snd y1), Prod.fst (Prod.snd (Prod.snd y1)), Prod.snd (Prod.snd (Prod.snd y1)))) fun y8 =>
          some ((Prod.fst y8, Prod.fst (Prod.snd y8), Prod.fst (Prod.snd (Prod.snd y8)), Prod.fst (Prod.snd (Prod.snd (Prod.snd y8))), Prod.snd (Prod.snd (Prod.snd (Prod.snd y8)))))
    | .inr y7 =>
      if (Prod.fst y1 != (0 : Int)) = true then
        some (((50 : Int), x3, x4, x5, []))
      else
        if (Prod.fst y7 != (0 : Int)) = true then
          some (((50 : Int), x3, x4, x5, []))
        else
          Option.bind (F31_254d N N (x2, (0 : Int), x3, x4, x5, [], Prod.fst (Prod.snd y1), Prod.fst (Prod.snd (Prod.snd y1)), Prod.fst (Prod.snd y7), Prod.fst (Prod.snd (Prod.snd y7)), Prod.snd (Prod.snd (Prod.snd y1)), Prod.snd (Prod.snd (Prod.snd y7)))) fun y9 =>
          some ((Prod.fst y9, Prod.fst (Prod.snd y9), Prod.fst (Prod.snd (Prod.snd y9)), Prod.fst (Prod.snd (Prod.snd (Prod.snd y9))), Prod.snd (Prod.snd (Prod.snd (Prod.snd y9)))))

theorem F31_eq (N : Nat) (x0 : (List Int)) (x1 : (List Int)) (x2 : Int) (x3 : ByteArray) (x4 : Int) (x5 : Int) : (fnEv (mkE Try.prog ownT (tab31 N) [(254, (orC I31_254 (C31_254 N N) (orC I31_254b (C31_254b N N) (orC I31_254c (C31_254c N N) (C31_254d N N)))))]) Try.f31 (J31 (x0, x1, x2, x3, x4, x5))).run D31 = F31 N (x0, x1, x2, x3, x4, x5) := by kernel_rfl

noncomputable def T31 (N : Nat) : Pk → Tr Pk := tell I31 (F31 N) O31

theorem T31_ok (N : Nat) : FOK Try.prog 31 (T31 N) :=
  tell_ok (E := (mkE Try.prog ownT (tab31 N) [(254, (orC I31_254 (C31_254 N N) (orC I31_254b (C31_254b N N) (orC I31_254c (C31_254c N N) (C31_254d N N)))))])) (mkE_ok mix (tab31_ok N)) Try.func31 (show Try.f31.body = some (bod Try.f31) by kernel_rfl) (by decide +kernel) I31_ok D31_ok (args := A31) (fun _ => by kernel_rfl) (fun _ => by show 4 ≤ Try.f31.ntmps; exact of_decide_eq_true (by kernel_rfl)) (cutsIn_ok ⟨fun c' h => (orC_ok (C31_254_ok N N c' h) (orC_ok (C31_254b_ok N N c' h) (orC_ok (C31_254c_ok N N c' h) (C31_254d_ok N N c' h) rfl rfl) rfl rfl) rfl rfl), trivial⟩) (fun x => match x with | (x0, x1, x2, x3, x4, x5) => F31_eq N x0 x1 x2 x3 x4 x5)

/-! ## f8: mirador/miradorlaw07.works -/

noncomputable def I8 : Pk → Option (Unit)
  | ⟨[], []⟩ => some ()
  | _ => none

noncomputable def J8 (x : Unit) : Pk := ⟨[], []⟩

theorem I8_ok : ∀ pk x, I8 pk = some x → pk = J8 x := by
  intro pk x h
  unfold I8 at h
  split at h <;> first | (cases h; rfl) | cases h

noncomputable def A8 : List TV := []

noncomputable def tab8 (N : Nat) : List (Nat × (Pk → Tr Pk)) := [(9, T9 N), (11, T11 N), (20, T20 N), (25, T25 N), (28, T28 N), (30, T30 N), (31, T31 N)]

theorem tab8_ok (N : Nat) : TabOK Try.prog (tab8 N) := ⟨T9_ok N, ⟨T11_ok N, ⟨T20_ok N, ⟨T25_ok N, ⟨T28_ok N, ⟨T30_ok N, ⟨T31_ok N, trivial⟩⟩⟩⟩⟩⟩⟩

noncomputable def O8 (r : Bool) : Tr (Pk) := .ret ⟨[.v (.bool (r))], []⟩

noncomputable def D8 : Pk → Option (Bool)
  | ⟨[.v (.bool x0)], []⟩ => some (x0)
  | _ => none

theorem D8_ok : ∀ y r, D8 y = some r → ∀ z, (O8 r).to z → y = z := by
  intro y r h
  unfold D8 at h
  split at h <;> first | (cases h; intro z hz; exact Option.some.inj hz) | cases h

noncomputable def F8 (N : Nat) : (Unit) → Option (Bool)
  | () =>
  Option.bind (F9 N (12 : Int)) fun y0 =>
  Option.bind (F11 N (24577 : Int)) fun y1 =>
  Option.bind (F20 N ()) fun y2 =>
  Option.bind (F25 N (Prod.fst y2, Prod.snd y2, [((97 : Int), (0 : Int), (0 : Int), ()), ((0 : Int), (3 : Int), (1 : Int), ())], (0 : Int), (0 : Int), [])) fun y3 =>
  Option.bind (F28 N (Prod.snd (Prod.snd (Prod.snd y3)), Prod.fst (Prod.snd y3), Prod.fst (Prod.snd (Prod.snd y3)), ())) fun y4 =>
  Option.bind (F30 N y4) fun y5 =>
  Option.bind (F31 N (Prod.fst y2, Prod.snd y2, (9 : Int), Prod.fst y5, Prod.fst (Prod.snd y5), Prod.snd (Prod.snd y5))) fun y6 =>
  if (Prod.fst y0 == (265 : Int)) = true then
    if (Prod.fst (Prod.snd y0) == (1 : Int)) = true then
      if (Prod.snd (Prod.snd y0) == (1 : Int)) = true then
        if (Prod.fst y1 == (29 : Int)) = true then
          if (Prod.fst (Prod.snd y1) == (0 : Int)) = true then
            if (Prod.snd (Prod.snd y1) == (13 : Int)) = true then
              if ((↑(List.length (Prod.fst y2)) : Int) == (288 : Int)) = true then
                if ((↑(List.length (Prod.snd y2)) : Int) == (30 : Int)) = true then
                  if (Prod.fst y3 == (0 : Int)) = true then
                    if (Prod.fst y6 == (0 : Int)) = true then
                      if ((↑(List.length (Prod.snd (Prod.snd (Prod.snd (Prod.snd y6))))) : Int) == (2 : Int)) = true then
                        if (within (1 : Int) (List.length (Prod.snd (Prod.snd (Prod.snd (Prod.snd y6)))))) = true then
                          Option.bind ((Prod.snd (Prod.snd (Prod.snd (Prod.snd y6))))[(1 : Nat)]?) fun y7 =>
                          some (Prod.fst (Prod.snd y7) == (3 : Int))
                        else
                          none
                      else
                        some (false)
                    else
                      some (false)
                  else
                    some (false)
                else
                  some (false)
              else
                some (false)
            else
              some (false)
          else
            some (false)
        else
          some (false)
      else
        some (false)
    else
      some (false)
  else
    some (false)

theorem F8_eq (N : Nat)  : (fnEv (mkE Try.prog ownT (tab8 N) []) Try.f8 (J8 ())).run D8 = F8 N () := by kernel_rfl

noncomputable def T8 (N : Nat) : Pk → Tr Pk := tell I8 (F8 N) O8

theorem T8_ok (N : Nat) : FOK Try.prog 8 (T8 N) :=
  tell_ok (E := (mkE Try.prog ownT (tab8 N) [])) (mkE_ok mix (tab8_ok N)) Try.func8 (show Try.f8.body = some (bod Try.f8) by kernel_rfl) (by decide +kernel) I8_ok D8_ok (args := A8) (fun _ => by kernel_rfl) (fun _ => by show 0 ≤ Try.f8.ntmps; exact of_decide_eq_true (by kernel_rfl)) (cutsIn_ok trivial) (fun x => match x with | () => F8_eq N )

/-! ## f13: mirador/miradorref07.Lengths -/

noncomputable def I13 : Pk → Option (Unit)
  | ⟨[], []⟩ => some ()
  | _ => none

noncomputable def J13 (x : Unit) : Pk := ⟨[], []⟩

theorem I13_ok : ∀ pk x, I13 pk = some x → pk = J13 x := by
  intro pk x h
  unfold I13 at h
  split at h <;> first | (cases h; rfl) | cases h

noncomputable def A13 : List TV := []

noncomputable def tab13 (N : Nat) : List (Nat × (Pk → Tr Pk)) := []

theorem tab13_ok (N : Nat) : TabOK Try.prog (tab13 N) := trivial

noncomputable def O13 (r : (List Int) × (List Int)) : Tr (Pk) := .ret ⟨[.tup [.sl 0 (none), .sl 1 (none)]], [some (.row (Ty.int IntKind.i64) 3 (r.1)), some (.row (Ty.int IntKind.i64) 3 (r.2))]⟩

noncomputable def D13 : Pk → Option ((List Int) × (List Int))
  | ⟨[.tup [.sl 0 (none), .sl 1 (none)]], [some (.row (Ty.int IntKind.i64) 3 x0), some (.row (Ty.int IntKind.i64) 3 x1)]⟩ => some ((x0, x1))
  | _ => none

theorem D13_ok : ∀ y r, D13 y = some r → ∀ z, (O13 r).to z → y = z := by
  intro y r h
  unfold D13 at h
  split at h <;> first | (cases h; intro z hz; exact Option.some.inj hz) | cases h

noncomputable def F13 (N : Nat) : (Unit) → Option ((List Int) × (List Int))
  | () =>
  some (([(3 : Int), (4 : Int), (5 : Int), (6 : Int), (7 : Int), (8 : Int), (9 : Int), (10 : Int), (11 : Int), (13 : Int), (15 : Int), (17 : Int), (19 : Int), (23 : Int), (27 : Int), (31 : Int), (35 : Int), (43 : Int), (51 : Int), (59 : Int), (67 : Int), (83 : Int), (99 : Int), (115 : Int), (131 : Int), (163 : Int), (195 : Int), (227 : Int), (258 : Int)], [(0 : Int), (0 : Int), (0 : Int), (0 : Int), (0 : Int), (0 : Int), (0 : Int), (0 : Int), (1 : Int), (1 : Int), (1 : Int), (1 : Int), (2 : Int), (2 : Int), (2 : Int), (2 : Int), (3 : Int), (3 : Int), (3 : Int), (3 : Int), (4 : Int), (4 : Int), (4 : Int), (4 : Int), (5 : Int), (5 : Int), (5 : Int), (5 : Int), (0 : Int)]))

theorem F13_eq (N : Nat)  : (fnEv (mkE Try.prog ownT (tab13 N) []) Try.f13 (J13 ())).run D13 = F13 N () := by kernel_rfl

noncomputable def T13 (N : Nat) : Pk → Tr Pk := tell I13 (F13 N) O13

theorem T13_ok (N : Nat) : FOK Try.prog 13 (T13 N) :=
  tell_ok (E := (mkE Try.prog ownT (tab13 N) [])) (mkE_ok mix (tab13_ok N)) Try.func13 (show Try.f13.body = some (bod Try.f13) by kernel_rfl) (by decide +kernel) I13_ok D13_ok (args := A13) (fun _ => by kernel_rfl) (fun _ => by show 0 ≤ Try.f13.ntmps; exact of_decide_eq_true (by kernel_rfl)) (cutsIn_ok trivial) (fun x => match x with | () => F13_eq N )


end Go.Proofs.Ytmcjfdognplgmaa.Am

set_option linter.unusedVariables false
set_option maxRecDepth 100000
namespace Go.Proofs.Ytmcjfdognplgmaa.Am
open Go.Am

/-! ## f37: mirador/miradorref07.Find -/

noncomputable def I37 : Pk → Option ((List Int) × (List Int) × Int × Int × Int)
  | ⟨[.ro (.int .i64) x0, .ro (.int .i64) x1, .v (.int .i64 x2), .v (.int .i64 x3), .v (.int .i64 x4)], []⟩ => some (x0, x1, x2, x3, x4)
  | _ => none

noncomputable def J37 (x : (List Int) × (List Int) × Int × Int × Int) : Pk := ⟨[.ro (.int .i64) (x.1), .ro (.int .i64) (x.2.1), .v (.int .i64 (x.2.2.1)), .v (.int .i64 (x.2.2.2.1)), .v (.int .i64 (x.2.2.2.2))], []⟩

theorem I37_ok : ∀ pk x, I37 pk = some x → pk = J37 x := by
  intro pk x h
  unfold I37 at h
  split at h <;> first | (cases h; rfl) | cases h

noncomputable def A37 : List TV := []

noncomputable def tab37 (N : Nat) : List (Nat × (Pk → Tr Pk)) := []

theorem tab37_ok (N : Nat) : TabOK Try.prog (tab37 N) := trivial

def X37_122 : Ex → List Nat
  | .ret => [10, 11, 12]
  | .exit 0 => [2, 3, 0, 1, 13]
  | _ => []

noncomputable def I37_122 : Pk → Option (Int × Int × (List Int) × Int × (List Int) × Int)
  | ⟨[.v (.int .i64 x0), .v (.int .i64 x1), .ro (Ty.int IntKind.i64) x2, .v (.int .i64 x3), .ro (Ty.int IntKind.i64) x4, .v (.int .i64 x5)], []⟩ => some (x0, x1, x2, x3, x4, x5)
  | _ => none

noncomputable def J37_122 (x : Int × Int × (List Int) × Int × (List Int) × Int) : Pk := ⟨[.v (.int .i64 (x.1)), .v (.int .i64 (x.2.1)), .ro (Ty.int IntKind.i64) (x.2.2.1), .v (.int .i64 (x.2.2.2.1)), .ro (Ty.int IntKind.i64) (x.2.2.2.2.1), .v (.int .i64 (x.2.2.2.2.2))], []⟩

theorem I37_122_ok : ∀ pk x, I37_122 pk = some x → pk = J37_122 x := by
  intro pk x h
  unfold I37_122 at h
  split at h <;> first | (cases h; rfl) | cases h

noncomputable def O37_122 (r : Int × Int × (List Int) × (List Int) × Int) : Tr (Ex × Pk) := .ret (.exit 0, ⟨[.v (.int .i64 (r.1)), .v (.int .i64 (r.2.1)), .ro (Ty.int IntKind.i64) (r.2.2.1), .ro (Ty.int IntKind.i64) (r.2.2.2.1), .v (.int .i64 (r.2.2.2.2))], []⟩)

noncomputable def D37_122 : Ex × Pk → Option (Int × Int × (List Int) × (List Int) × Int)
  | (.exit 0, ⟨[.v (.int .i64 x0), .v (.int .i64 x1), .ro (Ty.int IntKind.i64) x2, .ro (Ty.int IntKind.i64) x3, .v (.int .i64 x4)], []⟩) => some ((x0, x1, x2, x3, x4))
  | _ => none

theorem D37_122_ok : ∀ y r, D37_122 y = some r → ∀ z, (O37_122 r).to z → y = z := by
  intro y r h
  unfold D37_122 at h
  split at h <;> first | (cases h; intro z hz; exact Option.some.inj hz) | cases h

noncomputable def B37_122 (N : Nat) (f : (Int × Int × (List Int) × Int × (List Int) × Int) → Option (Int × Int × (List Int) × (List Int) × Int)) : (Int × Int × (List Int) × Int × (List Int) × Int) → Option (Int × Int × (List Int) × (List Int) × Int)
  | (x0, x1, x2, x3, x4, x5) =>
  if (decide (x1 < (↑(List.length x4) : Int))) = true then
    if (within x1 (List.length x4)) = true then
      Option.bind (x4[Int.toNat x1]?) fun y0 =>
      if (decide (y0 ≤ x5)) = true then
        Option.bind (f (x1, IntKind.wrap IntKind.i64 (x1 + (1 : Int)), x2, x3, x4, x5)) fun r => some r
      else
        Option.bind (f (x0, IntKind.wrap IntKind.i64 (x1 + (1 : Int)), x2, x3, x4, x5)) fun r => some r
    else
      none
  else
    some ((x3, x5, x4, x2, x0))

noncomputable def F37_122 (N : Nat) : Nat → (Int × Int × (List Int) × Int × (List Int) × Int) → Option (Int × Int × (List Int) × (List Int) × Int)
  | 0, _ => none
  | k + 1, x => B37_122 N (F37_122 N k) x

noncomputable def C37_122 (N k : Nat) : Cut := ⟨[13, 14, 1, 2, 0, 3], X37_122, tellX I37_122 (F37_122 N k) O37_122⟩

theorem B37_122_eq (N : Nat) (f : (Int × Int × (List Int) × Int × (List Int) × Int) → Option (Int × Int × (List Int) × (List Int) × Int)) (x0 : Int) (x1 : Int) (x2 : (List Int)) (x3 : Int) (x4 : (List Int)) (x5 : Int) : (roundEv (mkE Try.prog ownT (tab37 N) []) Try.f37.ntmps A37 (loopAt (bod Try.f37) 122) 122 ⟨[13, 14, 1, 2, 0, 3], X37_122, tellX I37_122 f O37_122⟩ (J37_122 (x0, x1, x2, x3, x4, x5))).run D37_122 = B37_122 N f (x0, x1, x2, x3, x4, x5) := by kernel_rfl

theorem C37_122_ok (N k : Nat) : ∀ c', At (bod Try.f37) 122 c' → CutOK Try.prog Try.f37.ntmps (idsL A37) c' (C37_122 N k) :=
  loop_ok (E := (mkE Try.prog ownT (tab37 N) [])) (mkE_ok mix (tab37_ok N)) (cutsIn_ok trivial) (fuel := 200) (by decide +kernel) (by kernel_rfl) I37_122_ok D37_122_ok (B37_122 N) (F37_122 N) (fun _ => rfl) (fun _ _ => rfl) (fun f x => match x with | (x0, x1, x2, x3, x4, x5) => B37_122_eq N f x0 x1 x2 x3 x4 x5) k

noncomputable def O37 (r : Int × Int × Int) : Tr (Pk) := .ret ⟨[.tup [.v (.int .i64 (r.1)), .v (.int .i64 (r.2.1)), .v (.int .i64 (r.2.2))]], []⟩

noncomputable def D37 : Pk → Option (Int × Int × Int)
  | ⟨[.tup [.v (.int .i64 x0), .v (.int .i64 x1), .v (.int .i64 x2)]], []⟩ => some ((x0, x1, x2))
  | _ => none

theorem D37_ok : ∀ y r, D37 y = some r → ∀ z, (O37 r).to z → y = z := by
  intro y r h
  unfold D37 at h
  split at h <;> first | (cases h; intro z hz; exact Option.some.inj hz) | cases h

noncomputable def F37 (N : Nat) : ((List Int) × (List Int) × Int × Int × Int) → Option (Int × Int × Int)
  | (x0, x1, x2, x3, x4) =>
  if (within (0 : Int) (List.length x0)) = true then
    Option.bind (x0[(0 : Nat)]?) fun y0 =>
    if (decide (x3 < y0)) = true then
      some (((0 : Int), (0 : Int), (0 : Int)))
    else
      if (decide (x3 > x4)) = true then
        some (((0 : Int), (0 : Int), (0 : Int)))
      else
        Option.bind (F37_122 N N ((0 : Int), (0 : Int), x1, x2, x0, x3)) fun y1 =>
        if (within (Prod.snd (Prod.snd (Prod.snd (Prod.snd y1)))) (List.length (Prod.fst (Prod.snd (Prod.snd y1))))) = true then
          Option.bind ((Prod.fst (Prod.snd (Prod.snd y1)))[Int.toNat (Prod.snd (Prod.snd (Prod.snd (Prod.snd y1))))]?) fun y2 =>
          if (within (Prod.snd (Prod.snd (Prod.snd (Prod.snd y1)))) (List.length (Prod.fst (Prod.snd (Prod.snd (Prod.snd y1)))))) = true then
            Option.bind ((Prod.fst (Prod.snd (Prod.snd (Prod.snd y1))))[Int.toNat (Prod.snd (Prod.snd (Prod.snd (Prod.snd y1))))]?) fun y3 =>
            some ((IntKind.wrap IntKind.i64 (Prod.fst y1 + Prod.snd (Prod.snd (Prod.snd (Prod.snd y1)))), IntKind.wrap IntKind.i64 (Prod.fst (Prod.snd y1) - y2), y3))
          else
            none
        else
          none
  else
    none

theorem F37_eq (N : Nat) (x0 : (List Int)) (x1 : (List Int)) (x2 : Int) (x3 : Int) (x4 : Int) : (fnEv (mkE Try.prog ownT (tab37 N) [(122, (C37_122 N N))]) Try.f37 (J37 (x0, x1, x2, x3, x4))).run D37 = F37 N (x0, x1, x2, x3, x4) := by kernel_rfl

noncomputable def T37 (N : Nat) : Pk → Tr Pk := tell I37 (F37 N) O37

theorem T37_ok (N : Nat) : FOK Try.prog 37 (T37 N) :=
  tell_ok (E := (mkE Try.prog ownT (tab37 N) [(122, (C37_122 N N))])) (mkE_ok mix (tab37_ok N)) Try.func37 (show Try.f37.body = some (bod Try.f37) by kernel_rfl) (by decide +kernel) I37_ok D37_ok (args := A37) (fun _ => by kernel_rfl) (fun _ => by show 5 ≤ Try.f37.ntmps; exact of_decide_eq_true (by kernel_rfl)) (cutsIn_ok ⟨fun c' h => (C37_122_ok N N c' h), trivial⟩) (fun x => match x with | (x0, x1, x2, x3, x4) => F37_eq N x0 x1 x2 x3 x4)

/-! ## f10: mirador/miradorref07.Length -/

noncomputable def I10 : Pk → Option (Int)
  | ⟨[.v (.int .i64 x0)], []⟩ => some x0
  | _ => none

noncomputable def J10 (x : Int) : Pk := ⟨[.v (.int .i64 (x))], []⟩

theorem I10_ok : ∀ pk x, I10 pk = some x → pk = J10 x := by
  intro pk x h
  unfold I10 at h
  split at h <;> first | (cases h; rfl) | cases h

noncomputable def A10 : List TV := []

noncomputable def tab10 (N : Nat) : List (Nat × (Pk → Tr Pk)) := [(13, T13 N), (37, T37 N)]

theorem tab10_ok (N : Nat) : TabOK Try.prog (tab10 N) := ⟨T13_ok N, ⟨T37_ok N, trivial⟩⟩

noncomputable def O10 (r : Int × Int × Int) : Tr (Pk) := .ret ⟨[.tup [.v (.int .i64 (r.1)), .v (.int .i64 (r.2.1)), .v (.int .i64 (r.2.2))]], []⟩

noncomputable def D10 : Pk → Option (Int × Int × Int)
  | ⟨[.tup [.v (.int .i64 x0), .v (.int .i64 x1), .v (.int .i64 x2)]], []⟩ => some ((x0, x1, x2))
  | _ => none

theorem D10_ok : ∀ y r, D10 y = some r → ∀ z, (O10 r).to z → y = z := by
  intro y r h
  unfold D10 at h
  split at h <;> first | (cases h; intro z hz; exact Option.some.inj hz) | cases h

noncomputable def F10 (N : Nat) : (Int) → Option (Int × Int × Int)
  | x0 =>
  Option.bind (F13 N ()) fun y0 =>
  Option.bind (F37 N (Prod.fst y0, Prod.snd y0, (257 : Int), x0, (258 : Int))) fun y1 =>
  some ((Prod.fst y1, Prod.fst (Prod.snd y1), Prod.snd (Prod.snd y1)))

theorem F10_eq (N : Nat) (x0 : Int) : (fnEv (mkE Try.prog ownT (tab10 N) []) Try.f10 (J10 x0)).run D10 = F10 N x0 := by kernel_rfl

noncomputable def T10 (N : Nat) : Pk → Tr Pk := tell I10 (F10 N) O10

theorem T10_ok (N : Nat) : FOK Try.prog 10 (T10 N) :=
  tell_ok (E := (mkE Try.prog ownT (tab10 N) [])) (mkE_ok mix (tab10_ok N)) Try.func10 (show Try.f10.body = some (bod Try.f10) by kernel_rfl) (by decide +kernel) I10_ok D10_ok (args := A10) (fun _ => by kernel_rfl) (fun _ => by show 1 ≤ Try.f10.ntmps; exact of_decide_eq_true (by kernel_rfl)) (cutsIn_ok trivial) (fun x => match x with | x0 => F10_eq N x0)

/-! ## f14: mirador/miradorref07.Distances -/

noncomputable def I14 : Pk → Option (Unit)
  | ⟨[], []⟩ => some ()
  | _ => none

noncomputable def J14 (x : Unit) : Pk := ⟨[], []⟩

theorem I14_ok : ∀ pk x, I14 pk = some x → pk = J14 x := by
  intro pk x h
  unfold I14 at h
  split at h <;> first | (cases h; rfl) | cases h

noncomputable def A14 : List TV := []

noncomputable def tab14 (N : Nat) : List (Nat × (Pk → Tr Pk)) := []

theorem tab14_ok (N : Nat) : TabOK Try.prog (tab14 N) := trivial

noncomputable def O14 (r : (List Int) × (List Int)) : Tr (Pk) := .ret ⟨[.tup [.sl 0 (none), .sl 1 (none)]], [some (.row (Ty.int IntKind.i64) 3 (r.1)), some (.row (Ty.int IntKind.i64) 3 (r.2))]⟩

noncomputable def D14 : Pk → Option ((List Int) × (List Int))
  | ⟨[.tup [.sl 0 (none), .sl 1 (none)]], [some (.row (Ty.int IntKind.i64) 3 x0), some (.row (Ty.int IntKind.i64) 3 x1)]⟩ => some ((x0, x1))
  | _ => none

theorem D14_ok : ∀ y r, D14 y = some r → ∀ z, (O14 r).to z → y = z := by
  intro y r h
  unfold D14 at h
  split at h <;> first | (cases h; intro z hz; exact Option.some.inj hz) | cases h

noncomputable def F14 (N : Nat) : (Unit) → Option ((List Int) × (List Int))
  | () =>
  some (([(1 : Int), (2 : Int), (3 : Int), (4 : Int), (5 : Int), (7 : Int), (9 : Int), (13 : Int), (17 : Int), (25 : Int), (33 : Int), (49 : Int), (65 : Int), (97 : Int), (129 : Int), (193 : Int), (257 : Int), (385 : Int), (513 : Int), (769 : Int), (1025 : Int), (1537 : Int), (2049 : Int), (3073 : Int), (4097 : Int), (6145 : Int), (8193 : Int), (12289 : Int), (16385 : Int), (24577 : Int)], [(0 : Int), (0 : Int), (0 : Int), (0 : Int), (1 : Int), (1 : Int), (2 : Int), (2 : Int), (3 : Int), (3 : Int), (4 : Int), (4 : Int), (5 : Int), (5 : Int), (6 : Int), (6 : Int), (7 : Int), (7 : Int), (8 : Int), (8 : Int), (9 : Int), (9 : Int), (10 : Int), (10 : Int), (11 : Int), (11 : Int), (12 : Int), (12 : Int), (13 : Int), (13 : Int)]))

theorem F14_eq (N : Nat)  : (fnEv (mkE Try.prog ownT (tab14 N) []) Try.f14 (J14 ())).run D14 = F14 N () := by kernel_rfl

noncomputable def T14 (N : Nat) : Pk → Tr Pk := tell I14 (F14 N) O14

theorem T14_ok (N : Nat) : FOK Try.prog 14 (T14 N) :=
  tell_ok (E := (mkE Try.prog ownT (tab14 N) [])) (mkE_ok mix (tab14_ok N)) Try.func14 (show Try.f14.body = some (bod Try.f14) by kernel_rfl) (by decide +kernel) I14_ok D14_ok (args := A14) (fun _ => by kernel_rfl) (fun _ => by show 0 ≤ Try.f14.ntmps; exact of_decide_eq_true (by kernel_rfl)) (cutsIn_ok trivial) (fun x => match x with | () => F14_eq N )

/-! ## f12: mirador/miradorref07.Distance -/

noncomputable def I12 : Pk → Option (Int)
  | ⟨[.v (.int .i64 x0)], []⟩ => some x0
  | _ => none

noncomputable def J12 (x : Int) : Pk := ⟨[.v (.int .i64 (x))], []⟩

theorem I12_ok : ∀ pk x, I12 pk = some x → pk = J12 x := by
  intro pk x h
  unfold I12 at h
  split at h <;> first | (cases h; rfl) | cases h

noncomputable def A12 : List TV := []

noncomputable def tab12 (N : Nat) : List (Nat × (Pk → Tr Pk)) := [(14, T14 N), (37, T37 N)]

theorem tab12_ok (N : Nat) : TabOK Try.prog (tab12 N) := ⟨T14_ok N, ⟨T37_ok N, trivial⟩⟩

noncomputable def O12 (r : Int × Int × Int) : Tr (Pk) := .ret ⟨[.tup [.v (.int .i64 (r.1)), .v (.int .i64 (r.2.1)), .v (.int .i64 (r.2.2))]], []⟩

noncomputable def D12 : Pk → Option (Int × Int × Int)
  | ⟨[.tup [.v (.int .i64 x0), .v (.int .i64 x1), .v (.int .i64 x2)]], []⟩ => some ((x0, x1, x2))
  | _ => none

theorem D12_ok : ∀ y r, D12 y = some r → ∀ z, (O12 r).to z → y = z := by
  intro y r h
  unfold D12 at h
  split at h <;> first | (cases h; intro z hz; exact Option.some.inj hz) | cases h

noncomputable def F12 (N : Nat) : (Int) → Option (Int × Int × Int)
  | x0 =>
  Option.bind (F14 N ()) fun y0 =>
  Option.bind (F37 N (Prod.fst y0, Prod.snd y0, (0 : Int), x0, (32768 : Int))) fun y1 =>
  some ((Prod.fst y1, Prod.fst (Prod.snd y1), Prod.snd (Prod.snd y1)))

theorem F12_eq (N : Nat) (x0 : Int) : (fnEv (mkE Try.prog ownT (tab12 N) []) Try.f12 (J12 x0)).run D12 = F12 N x0 := by kernel_rfl

noncomputable def T12 (N : Nat) : Pk → Tr Pk := tell I12 (F12 N) O12

theorem T12_ok (N : Nat) : FOK Try.prog 12 (T12 N) :=
  tell_ok (E := (mkE Try.prog ownT (tab12 N) [])) (mkE_ok mix (tab12_ok N)) Try.func12 (show Try.f12.body = some (bod Try.f12) by kernel_rfl) (by decide +kernel) I12_ok D12_ok (args := A12) (fun _ => by kernel_rfl) (fun _ => by show 1 ≤ Try.f12.ntmps; exact of_decide_eq_true (by kernel_rfl)) (cutsIn_ok trivial) (fun x => match x with | x0 => F12_eq N x0)

/-! ## f16: mirador/miradorref07.Of -/

noncomputable def I16 : Pk → Option ((List Int) × (List Int) × Int × Int)
  | ⟨[.ro (.int .i64) x0, .ro (.int .i64) x1, .v (.int .i64 x2), .v (.int .i64 x3)], []⟩ => some (x0, x1, x2, x3)
  | _ => none

noncomputable def J16 (x : (List Int) × (List Int) × Int × Int) : Pk := ⟨[.ro (.int .i64) (x.1), .ro (.int .i64) (x.2.1), .v (.int .i64 (x.2.2.1)), .v (.int .i64 (x.2.2.2))], []⟩

theorem I16_ok : ∀ pk x, I16 pk = some x → pk = J16 x := by
  intro pk x h
  unfold I16 at h
  split at h <;> first | (cases h; rfl) | cases h

noncomputable def A16 : List TV := []

noncomputable def tab16 (N : Nat) : List (Nat × (Pk → Tr Pk)) := []

theorem tab16_ok (N : Nat) : TabOK Try.prog (tab16 N) := trivial

noncomputable def O16 (r : Int × Int) : Tr (Pk) := .ret ⟨[.tup [.v (.int .i64 (r.1)), .v (.int .i64 (r.2))]], []⟩

noncomputable def D16 : Pk → Option (Int × Int)
  | ⟨[.tup [.v (.int .i64 x0), .v (.int .i64 x1)]], []⟩ => some ((x0, x1))
  | _ => none

theorem D16_ok : ∀ y r, D16 y = some r → ∀ z, (O16 r).to z → y = z := by
  intro y r h
  unfold D16 at h
  split at h <;> first | (cases h; intro z hz; exact Option.some.inj hz) | cases h

noncomputable def F16 (N : Nat) : ((List Int) × (List Int) × Int × Int) → Option (Int × Int)
  | (x0, x1, x2, x3) =>
  if (decide (x2 < x3)) = true then
    some (((0 : Int), (0 : Int)))
  else
    if (decide (IntKind.wrap IntKind.i64 (x2 - x3) ≥ (↑(List.length x0) : Int))) = true then
      some (((0 : Int), (0 : Int)))
    else
      if (within (IntKind.wrap IntKind.i64 (x2 - x3)) (List.length x0)) = true then
        Option.bind (x0[Int.toNat (IntKind.wrap IntKind.i64 (x2 - x3))]?) fun y0 =>
        if (within (IntKind.wrap IntKind.i64 (x2 - x3)) (List.length x1)) = true then
          Option.bind (x1[Int.toNat (IntKind.wrap IntKind.i64 (x2 - x3))]?) fun y1 =>
          some ((y0, y1))
        else
          none
      else
        none

theorem F16_eq (N : Nat) (x0 : (List Int)) (x1 : (List Int)) (x2 : Int) (x3 : Int) : (fnEv (mkE Try.prog ownT (tab16 N) []) Try.f16 (J16 (x0, x1, x2, x3))).run D16 = F16 N (x0, x1, x2, x3) := by kernel_rfl

noncomputable def T16 (N : Nat) : Pk → Tr Pk := tell I16 (F16 N) O16

theorem T16_ok (N : Nat) : FOK Try.prog 16 (T16 N) :=
  tell_ok (E := (mkE Try.prog ownT (tab16 N) [])) (mkE_ok mix (tab16_ok N)) Try.func16 (show Try.f16.body = some (bod Try.f16) by kernel_rfl) (by decide +kernel) I16_ok D16_ok (args := A16) (fun _ => by kernel_rfl) (fun _ => by show 4 ≤ Try.f16.ntmps; exact of_decide_eq_true (by kernel_rfl)) (cutsIn_ok trivial) (fun x => match x with | (x0, x1, x2, x3) => F16_eq N x0 x1 x2 x3)

/-! ## f3: mirador/miradorlaw07.SymbolsNumbers -/

noncomputable def I3 : Pk → Option (Int × Int)
  | ⟨[.v (.int .i64 x0), .v (.int .i64 x1)], []⟩ => some (x0, x1)
  | _ => none

noncomputable def J3 (x : Int × Int) : Pk := ⟨[.v (.int .i64 (x.1)), .v (.int .i64 (x.2))], []⟩

theorem I3_ok : ∀ pk x, I3 pk = some x → pk = J3 x := by
  intro pk x h
  unfold I3 at h
  split at h <;> first | (cases h; rfl) | cases h

noncomputable def A3 : List TV := []

noncomputable def tab3 (N : Nat) : List (Nat × (Pk → Tr Pk)) := [(8, T8 N), (9, T9 N), (10, T10 N), (11, T11 N), (12, T12 N), (13, T13 N), (14, T14 N), (15, T15 N), (16, T16 N), (17, T17 N)]

theorem tab3_ok (N : Nat) : TabOK Try.prog (tab3 N) := ⟨T8_ok N, ⟨T9_ok N, ⟨T10_ok N, ⟨T11_ok N, ⟨T12_ok N, ⟨T13_ok N, ⟨T14_ok N, ⟨T15_ok N, ⟨T16_ok N, ⟨T17_ok N, trivial⟩⟩⟩⟩⟩⟩⟩⟩⟩⟩

noncomputable def O3 (r : Bool) : Tr (Pk) := .ret ⟨[.v (.bool (r))], []⟩

noncomputable def D3 : Pk → Option (Bool)
  | ⟨[.v (.bool x0)], []⟩ => some (x0)
  | _ => none

theorem D3_ok : ∀ y r, D3 y = some r → ∀ z, (O3 r).to z → y = z := by
  intro y r h
  unfold D3 at h
  split at h <;> first | (cases h; intro z hz; exact Option.some.inj hz) | cases h

noncomputable def F3 (N : Nat) : (Int × Int) → Option (Bool)
  | (x0, x1) =>
  Option.bind (F8 N ()) fun y0 =>
  if (!y0) = true then
    some (false)
  else
    Option.bind (F9 N x0) fun y1 =>
    Option.bind (F10 N x0) fun y2 =>
    Option.bind (F11 N x0) fun y3 =>
    Option.bind (F12 N x0) fun y4 =>
    Option.bind (F13 N ()) fun y5 =>
    Option.bind (F14 N ()) fun y6 =>
    Option.bind (F15 N x1) fun y7 =>
    Option.bind (F16 N (Prod.fst y5, Prod.snd y5, x1, (257 : Int))) fun y8 =>
    Option.bind (F17 N x1) fun y9 =>
    Option.bind (F16 N (Prod.fst y6, Prod.snd y6, x1, (0 : Int))) fun y10 =>
    if (y0) = true then
      if (Prod.fst y1 == Prod.fst y2) = true then
        if (Prod.fst (Prod.snd y1) == Prod.fst (Prod.snd y2)) = true then
          if (Prod.snd (Prod.snd y1) == Prod.snd (Prod.snd y2)) = true then
            if (Prod.fst y3 == Prod.fst y4) = true then
              if (Prod.fst (Prod.snd y3) == Prod.fst (Prod.snd y4)) = true then
                if (Prod.snd (Prod.snd y3) == Prod.snd (Prod.snd y4)) = true then
                  if (Prod.fst y7 == Prod.fst y8) = true then
                    if (Prod.snd y7 == Prod.snd y8) = true then
                      if (Prod.fst y9 == Prod.fst y10) = true then
                        some (Prod.snd y9 == Prod.snd y10)
                      else
                        some (false)
                    else
                      some (false)
                  else
                    some (false)
                else
                  some (false)
              else
                some (false)
            else
              some (false)
          else
            some (false)
        else
          some (false)
      else
        some (false)
    else
      some (false)

theorem F3_eq (N : Nat) (x0 : Int) (x1 : Int) : (fnEv (mkE Try.prog ownT (tab3 N) []) Try.f3 (J3 (x0, x1))).run D3 = F3 N (x0, x1) := by kernel_rfl

noncomputable def T3 (N : Nat) : Pk → Tr Pk := tell I3 (F3 N) O3

theorem T3_ok (N : Nat) : FOK Try.prog 3 (T3 N) :=
  tell_ok (E := (mkE Try.prog ownT (tab3 N) [])) (mkE_ok mix (tab3_ok N)) Try.func3 (show Try.f3.body = some (bod Try.f3) by kernel_rfl) (by decide +kernel) I3_ok D3_ok (args := A3) (fun _ => by kernel_rfl) (fun _ => by show 2 ≤ Try.f3.ntmps; exact of_decide_eq_true (by kernel_rfl)) (cutsIn_ok trivial) (fun x => match x with | (x0, x1) => F3_eq N x0 x1)

/-! ## f40: mirador/miradorref06.Valid -/

noncomputable def I40 : Pk → Option (Int × Int × Int)
  | ⟨[.agg [.v (.int .i64 x0), .v (.int .i64 x1), .v (.int .i64 x2)]], []⟩ => some (x0, x1, x2)
  | _ => none

noncomputable def J40 (x : Int × Int × Int) : Pk := ⟨[.agg [.v (.int .i64 (x.1)), .v (.int .i64 (x.2.1)), .v (.int .i64 (x.2.2))]], []⟩

theorem I40_ok : ∀ pk x, I40 pk = some x → pk = J40 x := by
  intro pk x h
  unfold I40 at h
  split at h <;> first | (cases h; rfl) | cases h

noncomputable def A40 : List TV := []

noncomputable def tab40 (N : Nat) : List (Nat × (Pk → Tr Pk)) := []

theorem tab40_ok (N : Nat) : TabOK Try.prog (tab40 N) := trivial

noncomputable def O40 (r : Bool) : Tr (Pk) := .ret ⟨[.v (.bool (r))], []⟩

noncomputable def D40 : Pk → Option (Bool)
  | ⟨[.v (.bool x0)], []⟩ => some (x0)
  | _ => none

theorem D40_ok : ∀ y r, D40 y = some r → ∀ z, (O40 r).to z → y = z := by
  intro y r h
  unfold D40 at h
  split at h <;> first | (cases h; intro z hz; exact Option.some.inj hz) | cases h

noncomputable def F40 (N : Nat) : (Int × Int × Int) → Option (Bool)
  | (x0, x1, x2) =>
  if (x1 == (0 : Int)) = true then
    if (x2 == (0 : Int)) = true then
      if (decide (x0 ≥ (0 : Int))) = true then
        some (decide (x0 ≤ (255 : Int)))
      else
        some (false)
    else
      some (false)
  else
    if (x0 == (0 : Int)) = true then
      if (decide (x1 ≥ (3 : Int))) = true then
        if (decide (x1 ≤ (258 : Int))) = true then
          if (decide (x2 ≥ (1 : Int))) = true then
            some (decide (x2 ≤ (32768 : Int)))
          else
            some (false)
        else
          some (false)
      else
        some (false)
    else
      some (false)

theorem F40_eq (N : Nat) (x0 : Int) (x1 : Int) (x2 : Int) : (fnEv (mkE Try.prog ownT (tab40 N) []) Try.f40 (J40 (x0, x1, x2))).run D40 = F40 N (x0, x1, x2) := by kernel_rfl

noncomputable def T40 (N : Nat) : Pk → Tr Pk := tell I40 (F40 N) O40

theorem T40_ok (N : Nat) : FOK Try.prog 40 (T40 N) :=
  tell_ok (E := (mkE Try.prog ownT (tab40 N) [])) (mkE_ok mix (tab40_ok N)) Try.func40 (show Try.f40.body = some (bod Try.f40) by kernel_rfl) (by decide +kernel) I40_ok D40_ok (args := A40) (fun _ => by kernel_rfl) (fun _ => by show 1 ≤ Try.f40.ntmps; exact of_decide_eq_true (by kernel_rfl)) (cutsIn_ok trivial) (fun x => match x with | (x0, x1, x2) => F40_eq N x0 x1 x2)

/-! ## f19: mirador/miradorref07.Count -/

noncomputable def I19 : Pk → Option ((List (Int × (Int × (Int × Unit)))))
  | ⟨[.ro (.cons (.int .i64) (.cons (.int .i64) (.cons (.int .i64) .unit))) x0], []⟩ => some x0
  | _ => none

noncomputable def J19 (x : (List (Int × (Int × (Int × Unit))))) : Pk := ⟨[.ro (.cons (.int .i64) (.cons (.int .i64) (.cons (.int .i64) .unit))) (x)], []⟩

theorem I19_ok : ∀ pk x, I19 pk = some x → pk = J19 x := by
  intro pk x h
  unfold I19 at h
  split at h <;> first | (cases h; rfl) | cases h

noncomputable def A19 : List TV := []

noncomputable def tab19 (N : Nat) : List (Nat × (Pk → Tr Pk)) := [(40, T40 N), (10, T10 N), (12, T12 N)]

theorem tab19_ok (N : Nat) : TabOK Try.prog (tab19 N) := ⟨T40_ok N, ⟨T10_ok N, ⟨T12_ok N, trivial⟩⟩⟩

def X19_250 : Ex → List Nat
  | .ret => [2, 3]
  | .exit 0 => [4, 5]
  | _ => []

noncomputable def I19_250 : Pk → Option (Int × (List (Int × (Int × (Int × Unit)))) × (List Int) × (List Int))
  | ⟨[.v (.int .i64 x0), .ro (Ty.cons (Ty.int IntKind.i64) (Ty.cons (Ty.int IntKind.i64) (Ty.cons (Ty.int IntKind.i64) Ty.unit))) x1, .sl 0 (none), .sl 1 (none)], [some (.row (Ty.int IntKind.i64) 3 x2), some (.row (Ty.int IntKind.i64) 3 x3)]⟩ => some (x0, x1, x2, x3)
  | _ => none

noncomputable def J19_250 (x : Int × (List (Int × (Int × (Int × Unit)))) × (List Int) × (List Int)) : Pk := ⟨[.v (.int .i64 (x.1)), .ro (Ty.cons (Ty.int IntKind.i64) (Ty.cons (Ty.int IntKind.i64) (Ty.cons (Ty.int IntKind.i64) Ty.unit))) (x.2.1), .sl 0 (none), .sl 1 (none)], [some (.row (Ty.int IntKind.i64) 3 (x.2.2.1)), some (.row (Ty.int IntKind.i64) 3 (x.2.2.2))]⟩

theorem I19_250_ok : ∀ pk x, I19_250 pk = some x → pk = J19_250 x := by
  intro pk x h
  unfold I19_250 at h
  split at h <;> first | (cases h; rfl) | cases h

noncomputable def O19_250 (r : (List Int) × (List Int)) : Tr (Ex × Pk) := .ret (.exit 0, ⟨[.sl 0 (none), .sl 1 (none)], [some (.row (Ty.int IntKind.i64) 3 (r.1)), some (.row (Ty.int IntKind.i64) 3 (r.2))]⟩)

noncomputable def D19_250 : Ex × Pk → Option ((List Int) × (List Int))
  | (.exit 0, ⟨[.sl 0 (none), .sl 1 (none)], [some (.row (Ty.int IntKind.i64) 3 x0), some (.row (Ty.int IntKind.i64) 3 x1)]⟩) => some ((x0, x1))
  | _ => none

theorem D19_250_ok : ∀ y r, D19_250 y = some r → ∀ z, (O19_250 r).to z → y = z := by
  intro y r h
  unfold D19_250 at h
  split at h <;> first | (cases h; intro z hz; exact Option.some.inj hz) | cases h

noncomputable def B19_250 (N : Nat) (f : (Int × (List (Int × (Int × (Int × Unit)))) × (List Int) × (List Int)) → Option ((List Int) × (List Int))) : (Int × (List (Int × (Int × (Int × Unit)))) × (List Int) × (List Int)) → Option ((List Int) × (List Int))
  | (x0, x1, x2, x3) =>
  if (decide (x0 < (↑(List.length x1) : Int))) = true then
    if (within x0 (List.length x1)) = true then
      Option.bind (x1[Int.toNat x0]?) fun y0 =>
      Option.bind (F40 N (Prod.fst y0, Prod.fst (Prod.snd y0), Prod.fst (Prod.snd (Prod.snd y0)))) fun y1 =>
      if (!y1) = true then
        Option.bind (f (IntKind.wrap IntKind.i64 (x0 + (1 : Int)), x1, x2, x3)) fun r => some r
      else
        if (within x0 (List.length x1)) = true then
          Option.bind (x1[Int.toNat x0]?) fun y2 =>
          if (Prod.fst (Prod.snd y2) == (0 : Int)) = true then
            if (within x0 (List.length x1)) = true then
              Option.bind (x1[Int.toNat x0]?) fun y3 =>
              if (within (Prod.fst y3) (List.length x2)) = true then
                Option.bind (x2[Int.toNat (Prod.fst y3)]?) fun y4 =>
                if (within (Prod.fst y3) (List.length x2)) = true then
                  Option.bind (x2[Int.toNat (Prod.fst y3)]?) fun y5 =>
                  Option.bind (f (IntKind.wrap IntKind.i64 (x0 + (1 : Int)), x1, List.set x2 (Int.toNat (Prod.fst y3)) (IntKind.wrap IntKind.i64 (y4 + (1 : Int))), x3)) fun r => some r
                else
                  none
              else
                none
            else
              none
          else
            if (within x0 (List.length x1)) = true then
              Option.bind (x1[Int.toNat x0]?) fun y6 =>
              Option.bind (F10 N (Prod.fst (Prod.snd y6))) fun y7 =>
              if (within x0 (List.length x1)) = true then
                Option.bind (x1[Int.toNat x0]?) fun y8 =>
                Option.bind (F12 N (Prod.fst (Prod.snd (Prod.snd y8)))) fun y9 =>
                if (within (Prod.fst y7) (List.length x2)) = true then
                  Option.bind (x2[Int.toNat (Prod.fst y7)]?) fun y10 =>
                  if (within (Prod.fst y7) (List.length x2)) = true then
                    Option.bind (x2[Int.toNat (Prod.fst y7)]?) fun y11 =>
                    if (within (Prod.fst y9) (List.length x3)) = true then
                      Option.bind (x3[Int.toNat (Prod.fst y9)]?) fun y12 =>
                      if (within (Prod.fst y9) (List.length x3)) = true then
                        Option.bind (x3[Int.toNat (Prod.fst y9)]?) fun y13 =>
                        Option.bind (f (IntKind.wrap IntKind.i64 (x0 + (1 : Int)), x1, List.set x2 (Int.toNat (Prod.fst y7)) (IntKind.wrap IntKind.i64 (y10 + (1 : Int))), List.set x3 (Int.toNat (Prod.fst y9)) (IntKind.wrap IntKind.i64 (y12 + (1 : Int))))) fun r => some r
                      else
                        none
                    else
                      none
                  else
                    none
                else
                  none
              else
                none
            else
              none
        else
          none
    else
      none
  else
    some ((x2, x3))

noncomputable def F19_250 (N : Nat) : Nat → (Int × (List (Int × (Int × (Int × Unit)))) × (List Int) × (List Int)) → Option ((List Int) × (List Int))
  | 0, _ => none
  | k + 1, x => B19_250 N (F19_250 N k) x

noncomputable def C19_250 (N k : Nat) : Cut := ⟨[6, 0, 4, 5], X19_250, tellX I19_250 (F19_250 N k) O19_250⟩

theorem B19_250_eq (N : Nat) (f : (Int × (List (Int × (Int × (Int × Unit)))) × (List Int) × (List Int)) → Option ((List Int) × (List Int))) (x0 : Int) (x1 : (List (Int × (Int × (Int × Unit))))) (x2 : (List Int)) (x3 : (List Int)) : (roundEv (mkE Try.prog ownT (tab19 N) []) Try.f19.ntmps A19 (loopAt (bod Try.f19) 250) 250 ⟨[6, 0, 4, 5], X19_250, tellX I19_250 f O19_250⟩ (J19_250 (x0, x1, x2, x3))).run D19_250 = B19_250 N f (x0, x1, x2, x3) := by kernel_rfl

theorem C19_250_ok (N k : Nat) : ∀ c', At (bod Try.f19) 250 c' → CutOK Try.prog Try.f19.ntmps (idsL A19) c' (C19_250 N k) :=
  loop_ok (E := (mkE Try.prog ownT (tab19 N) [])) (mkE_ok mix (tab19_ok N)) (cutsIn_ok trivial) (fuel := 200) (by decide +kernel) (by kernel_rfl) I19_250_ok D19_250_ok (B19_250 N) (F19_250 N) (fun _ => rfl) (fun _ _ => rfl) (fun f x => match x with | (x0, x1, x2, x3) => B19_250_eq N f x0 x1 x2 x3) k

noncomputable def O19 (r : (List Int) × (List Int)) : Tr (Pk) := .ret ⟨[.tup [.sl 0 (none), .sl 1 (none)]], [some (.row (Ty.int IntKind.i64) 3 (r.1)), some (.row (Ty.int IntKind.i64) 3 (r.2))]⟩

noncomputable def D19 : Pk → Option ((List Int) × (List Int))
  | ⟨[.tup [.sl 0 (none), .sl 1 (none)]], [some (.row (Ty.int IntKind.i64) 3 x0), some (.row (Ty.int IntKind.i64) 3 x1)]⟩ => some ((x0, x1))
  | _ => none

theorem D19_ok : ∀ y r, D19 y = some r → ∀ z, (O19 r).to z → y = z := by
  intro y r h
  unfold D19 at h
  split at h <;> first | (cases h; intro z hz; exact Option.some.inj hz) | cases h

noncomputable def F19 (N : Nat) : ((List (Int × (Int × (Int × Unit))))) → Option ((List Int) × (List Int))
  | x0 =>
  Option.bind (F19_250 N N ((0 : Int), x0, [(0 : Int), (0 : Int), (0 : Int), (0 : Int), (0 : Int), (0 : Int), (0 : Int), (0 : Int), (0 : Int), (0 : Int), (0 : Int), (0 : Int), (0 : Int), (0 : Int), (0 : Int), (0 : Int), (0 : Int), (0 : Int), (0 : Int), (0 : Int), (0 : Int), (0 : Int), (0 : Int), (0 : Int), (0 : Int), (0 : Int), (0 : Int), (0 : Int), (0 : Int), (0 : Int), (0 : Int), (0 : Int), (0 : Int), (0 : Int), (0 : Int), (0 : Int), (0 : Int), (0 : Int), (0 : Int), (0 : Int), (0 : Int), (0 : Int), (0 : Int), (0 : Int), (0 : Int), (0 : Int), (0 : Int), (0 : Int), (0 : Int), (0 : Int), (0 : Int), (0 : Int), (0 : Int), (0 : Int), (0 : Int), (0 : Int), (0 : Int), (0 : Int), (0 : Int), (0 : Int), (0 : Int), (0 : Int), (0 : Int), (0 : Int), (0 : Int), (0 : Int), (0 : Int), (0 : Int), (0 : Int), (0 : Int), (0 : Int), (0 : Int), (0 : Int), (0 : Int), (0 : Int), (0 : Int), (0 : Int), (0 : Int), (0 : Int), (0 : Int), (0 : Int), (0 : Int), (0 : Int), (0 : Int), (0 : Int), (0 : Int), (0 : Int), (0 : Int), (0 : Int), (0 : Int), (0 : Int), (0 : Int), (0 : Int), (0 : Int), (0 : Int), (0 : Int), (0 : Int), (0 : Int), (0 : Int), (0 : Int), (0 : Int), (0 : Int), (0 : Int), (0 : Int), (0 : Int), (0 : Int), (0 : Int), (0 : Int), (0 : Int), (0 : Int), (0 : Int), (0 : Int), (0 : Int), (0 : Int), (0 : Int), (0 : Int), (0 : Int), (0 : Int), (0 : Int), (0 : Int), (0 : Int), (0 : Int), (0 : Int), (0 : Int), (0 : Int), (0 : Int), (0 : Int), (0 : Int), (0 : Int), (0 : Int), (0 : Int), (0 : Int), (0 : Int), (0 : Int), (0 : Int), (0 : Int), (0 : Int), (0 : Int), (0 : Int), (0 : Int), (0 : Int), (0 : Int), (0 : Int), (0 : Int), (0 : Int), (0 : Int), (0 : Int), (0 : Int), (0 : Int), (0 : Int), (0 : Int), (0 : Int), (0 : Int), (0 : Int), (0 : Int), (0 : Int), (0 : Int), (0 : Int), (0 : Int), (0 : Int), (0 : Int), (0 : Int), (0 : Int), (0 : Int), (0 : Int), (0 : Int), (0 : Int), (0 : Int), (0 : Int), (0 : Int), (0 : Int), (0 : Int), (0 : Int), (0 : Int), (0 : Int), (0 : Int), (0 : Int), (0 : Int), (0 : Int), (0 : Int), (0 : Int), (0 : Int), (0 : Int), (0 : Int), (0 : Int), (0 : Int), (0 : Int), (0 : Int), (0 : Int), (0 : Int), (0 : Int), (0 : Int), (0 : Int), (0 : Int), (0 : Int), (0 : Int), (0 : Int), (0 : Int), (0 : Int), (0 : Int), (0 : Int), (0 : Int), (0 : Int), (0 : Int), (0 : Int), (0 : Int), (0 : Int), (0 : Int), (0 : Int), (0 : Int), (0 : Int), (0 : Int), (0 : Int), (0 : Int), (0 : Int), (0 : Int), (0 : Int), (0 : Int), (0 : Int), (0 : Int), (0 : Int), (0 : Int), (0 : Int), (0 : Int), (0 : Int), (0 : Int), (0 : Int), (0 : Int), (0 : Int), (0 : Int), (0 : Int), (0 : Int), (0 : Int), (0 : Int), (0 : Int), (0 : Int), (0 : Int), (0 : Int), (0 : Int), (0 : Int), (0 : Int), (0 : Int), (0 : Int), (0 : Int), (0 : Int), (0 : Int), (0 : Int), (0 : Int), (0 : Int), (0 : Int), (0 : Int), (0 : Int), (0 : Int), (0 : Int), (0 : Int), (0 : Int), (1 : Int), (0 : Int), (0 : Int), (0 : Int), (0 : Int), (0 : Int), (0 : Int), (0 : Int), (0 : Int), (0 : Int), (0 : Int), (0 : Int), (0 : Int), (0 : Int), (0 : Int), (0 : Int), (0 : Int), (0 : Int), (0 : Int), (0 : Int), (0 : Int), (0 : Int), (0 : Int), (0 : Int), (0 : Int), (0 : Int), (0 : Int), (0 : Int), (0 : Int), (0 : Int)], [(0 : Int), (0 : Int), (0 : Int), (0 : Int), (0 : Int), (0 : Int), (0 : Int), (0 : Int), (0 : Int), (0 : Int), (0 : Int), (0 : Int), (0 : Int), (0 : Int), (0 : Int), (0 : Int), (0 : Int), (0 : Int), (0 : Int), (0 : Int), (0 : Int), (0 : Int), (0 : Int), (0 : Int), (0 : Int), (0 : Int), (0 : Int), (0 : Int), (0 : Int), (0 : Int)])) fun y0 =>
  some ((Prod.fst y0, Prod.snd y0))

theorem F19_eq (N : Nat) (x0 : (List (Int × (Int × (Int × Unit))))) : (fnEv (mkE Try.prog ownT (tab19 N) [(250, (C19_250 N N))]) Try.f19 (J19 x0)).run D19 = F19 N x0 := by kernel_rfl

noncomputable def T19 (N : Nat) : Pk → Tr Pk := tell I19 (F19 N) O19

theorem T19_ok (N : Nat) : FOK Try.prog 19 (T19 N) :=
  tell_ok (E := (mkE Try.prog ownT (tab19 N) [(250, (C19_250 N N))])) (mkE_ok mix (tab19_ok N)) Try.func19 (show Try.f19.body = some (bod Try.f19) by kernel_rfl) (by decide +kernel) I19_ok D19_ok (args := A19) (fun _ => by kernel_rfl) (fun _ => by show 1 ≤ Try.f19.ntmps; exact of_decide_eq_true (by kernel_rfl)) (cutsIn_ok ⟨fun c' h => (C19_250_ok N N c' h), trivial⟩) (fun x => match x with | x0 => F19_eq N x0)


end Go.Proofs.Ytmcjfdognplgmaa.Am

set_option linter.unusedVariables false
set_option maxRecDepth 100000
namespace Go.Proofs.Ytmcjfdognplgmaa.Am
open Go.Am

/-! ## f21: mirador/miradorref07.Fixed -/

noncomputable def I21 : Pk → Option (Unit)
  | ⟨[], []⟩ => some ()
  | _ => none

noncomputable def J21 (x : Unit) : Pk := ⟨[], []⟩

theorem I21_ok : ∀ pk x, I21 pk = some x → pk = J21 x := by
  intro pk x h
  unfold I21 at h
  split at h <;> first | (cases h; rfl) | cases h

noncomputable def A21 : List TV := []

noncomputable def tab21 (N : Nat) : List (Nat × (Pk → Tr Pk)) := []

theorem tab21_ok (N : Nat) : TabOK Try.prog (tab21 N) := trivial

def X21_122 : Ex → List Nat
  | .ret => [0, 1]
  | .exit 0 => [3, 2]
  | _ => []

def X21_250 : Ex → List Nat
  | .ret => [0, 1]
  | .exit 2 => [2, 3]
  | _ => []

noncomputable def I21_122 : Pk → Option (Int × (List Int) × (List Int))
  | ⟨[.sl 0 (none), .v (.int .i64 x0), .sl 1 (none)], [some (.row (Ty.int IntKind.i64) 3 x1), some (.row (Ty.int IntKind.i64) 3 x2)]⟩ => some (x0, x1, x2)
  | _ => none

noncomputable def J21_122 (x : Int × (List Int) × (List Int)) : Pk := ⟨[.sl 0 (none), .v (.int .i64 (x.1)), .sl 1 (none)], [some (.row (Ty.int IntKind.i64) 3 (x.2.1)), some (.row (Ty.int IntKind.i64) 3 (x.2.2))]⟩

theorem I21_122_ok : ∀ pk x, I21_122 pk = some x → pk = J21_122 x := by
  intro pk x h
  unfold I21_122 at h
  split at h <;> first | (cases h; rfl) | cases h

noncomputable def O21_122 (r : (List Int) × (List Int)) : Tr (Ex × Pk) := .ret (.exit 0, ⟨[.sl 0 (none), .sl 1 (none)], [some (.row (Ty.int IntKind.i64) 3 (r.1)), some (.row (Ty.int IntKind.i64) 3 (r.2))]⟩)

noncomputable def D21_122 : Ex × Pk → Option ((List Int) × (List Int))
  | (.exit 0, ⟨[.sl 0 (none), .sl 1 (none)], [some (.row (Ty.int IntKind.i64) 3 x0), some (.row (Ty.int IntKind.i64) 3 x1)]⟩) => some ((x0, x1))
  | _ => none

theorem D21_122_ok : ∀ y r, D21_122 y = some r → ∀ z, (O21_122 r).to z → y = z := by
  intro y r h
  unfold D21_122 at h
  split at h <;> first | (cases h; intro z hz; exact Option.some.inj hz) | cases h

noncomputable def B21_122 (N : Nat) (f : (Int × (List Int) × (List Int)) → Option ((List Int) × (List Int))) : (Int × (List Int) × (List Int)) → Option ((List Int) × (List Int))
  | (x0, x1, x2) =>
  if (decide (x0 < (288 : Int))) = true then
    if (decide (x0 ≥ (144 : Int))) = true then
      if (decide (x0 ≤ (255 : Int))) = true then
        if (decide (x0 ≥ (256 : Int))) = true then
          if (decide (x0 ≤ (279 : Int))) = true then
            if (decide ((List.length x1 + (1 : Nat)) * (8 : Nat) ≤ (140737488355328 : Nat) ∧ List.length x1 + (1 : Nat) ≤ (140737488355328 : Nat))) = true then
              Option.bind (f (IntKind.wrap IntKind.i64 (x0 + (1 : Int)), x1 ++ [(7 : Int)], x2)) fun r => some r
            else
              none
          else
            if (decide ((List.length x1 + (1 : Nat)) * (8 : Nat) ≤ (140737488355328 : Nat) ∧ List.length x1 + (1 : Nat) ≤ (140737488355328 : Nat))) = true then
              Option.bind (f (IntKind.wrap IntKind.i64 (x0 + (1 : Int)), x1 ++ [(9 : Int)], x2)) fun r => some r
            else
              none
        else
          if (decide ((List.length x1 + (1 : Nat)) * (8 : Nat) ≤ (140737488355328 : Nat) ∧ List.length x1 + (1 : Nat) ≤ (140737488355328 : Nat))) = true then
            Option.bind (f (IntKind.wrap IntKind.i64 (x0 + (1 : Int)), x1 ++ [(9 : Int)], x2)) fun r => some r
          else
            none
      else
        if (decide (x0 ≥ (256 : Int))) = true then
          if (decide (x0 ≤ (279 : Int))) = true then
            if (decide ((List.length x1 + (1 : Nat)) * (8 : Nat) ≤ (140737488355328 : Nat) ∧ List.length x1 + (1 : Nat) ≤ (140737488355328 : Nat))) = true then
              Option.bind (f (IntKind.wrap IntKind.i64 (x0 + (1 : Int)), x1 ++ [(7 : Int)], x2)) fun r => some r
            else
              none
          else
            if (decide ((List.length x1 + (1 : Nat)) * (8 : Nat) ≤ (140737488355328 : Nat) ∧ List.length x1 + (1 : Nat) ≤ (140737488355328 : Nat))) = true then
              Option.bind (f (IntKind.wrap IntKind.i64 (x0 + (1 : Int)), x1 ++ [(8 : Int)], x2)) fun r => some r
            else
              none
        else
          if (decide ((List.length x1 + (1 : Nat)) * (8 : Nat) ≤ (140737488355328 : Nat) ∧ List.length x1 + (1 : Nat) ≤ (140737488355328 : Nat))) = true then
            Option.bind (f (IntKind.wrap IntKind.i64 (x0 + (1 : Int)), x1 ++ [(8 : Int)], x2)) fun r => some r
          else
            none
    else
      if (decide (x0 ≥ (256 : Int))) = true then
        if (decide (x0 ≤ (279 : Int))) = true then
          if (decide ((List.length x1 + (1 : Nat)) * (8 : Nat) ≤ (140737488355328 : Nat) ∧ List.length x1 + (1 : Nat) ≤ (140737488355328 : Nat))) = true then
            Option.bind (f (IntKind.wrap IntKind.i64 (x0 + (1 : Int)), x1 ++ [(7 : Int)], x2)) fun r => some r
          else
            none
        else
          if (decide ((List.length x1 + (1 : Nat)) * (8 : Nat) ≤ (140737488355328 : Nat) ∧ List.length x1 + (1 : Nat) ≤ (140737488355328 : Nat))) = true then
            Option.bind (f (IntKind.wrap IntKind.i64 (x0 + (1 : Int)), x1 ++ [(8 : Int)], x2)) fun r => some r
          else
            none
      else
        if (decide ((List.length x1 + (1 : Nat)) * (8 : Nat) ≤ (140737488355328 : Nat) ∧ List.length x1 + (1 : Nat) ≤ (140737488355328 : Nat))) = true then
          Option.bind (f (IntKind.wrap IntKind.i64 (x0 + (1 : Int)), x1 ++ [(8 : Int)], x2)) fun r => some r
        else
          none
  else
    some ((x2, x1))

noncomputable def F21_122 (N : Nat) : Nat → (Int × (List Int) × (List Int)) → Option ((List Int) × (List Int))
  | 0, _ => none
  | k + 1, x => B21_122 N (F21_122 N k) x

noncomputable def C21_122 (N k : Nat) : Cut := ⟨[2, 4, 3], X21_122, tellX I21_122 (F21_122 N k) O21_122⟩

theorem B21_122_eq (N : Nat) (f : (Int × (List Int) × (List Int)) → Option ((List Int) × (List Int))) (x0 : Int) (x1 : (List Int)) (x2 : (List Int)) : (roundEv (mkE Try.prog ownT (tab21 N) []) Try.f21.ntmps A21 (loopAt (bod Try.f21) 122) 122 ⟨[2, 4, 3], X21_122, tellX I21_122 f O21_122⟩ (J21_122 (x0, x1, x2))).run D21_122 = B21_122 N f (x0, x1, x2) := by kernel_rfl

theorem C21_122_ok (N k : Nat) : ∀ c', At (bod Try.f21) 122 c' → CutOK Try.prog Try.f21.ntmps (idsL A21) c' (C21_122 N k) :=
  loop_ok (E := (mkE Try.prog ownT (tab21 N) [])) (mkE_ok mix (tab21_ok N)) (cutsIn_ok trivial) (fuel := 200) (by decide +kernel) (by kernel_rfl) I21_122_ok D21_122_ok (B21_122 N) (F21_122 N) (fun _ => rfl) (fun _ _ => rfl) (fun f x => match x with | (x0, x1, x2) => B21_122_eq N f x0 x1 x2) k

noncomputable def I21_250 : Pk → Option (Int × (List Int) × (List Int))
  | ⟨[.sl 0 (none), .v (.int .i64 x0), .sl 1 (none)], [some (.row (Ty.int IntKind.i64) 3 x1), some (.row (Ty.int IntKind.i64) 3 x2)]⟩ => some (x0, x1, x2)
  | _ => none

noncomputable def J21_250 (x : Int × (List Int) × (List Int)) : Pk := ⟨[.sl 0 (none), .v (.int .i64 (x.1)), .sl 1 (none)], [some (.row (Ty.int IntKind.i64) 3 (x.2.1)), some (.row (Ty.int IntKind.i64) 3 (x.2.2))]⟩

theorem I21_250_ok : ∀ pk x, I21_250 pk = some x → pk = J21_250 x := by
  intro pk x h
  unfold I21_250 at h
  split at h <;> first | (cases h; rfl) | cases h

noncomputable def O21_250 (r : (List Int) × (List Int)) : Tr (Ex × Pk) := .ret (.exit 2, ⟨[.sl 0 (none), .sl 1 (none)], [some (.row (Ty.int IntKind.i64) 3 (r.1)), some (.row (Ty.int IntKind.i64) 3 (r.2))]⟩)

noncomputable def D21_250 : Ex × Pk → Option ((List Int) × (List Int))
  | (.exit 2, ⟨[.sl 0 (none), .sl 1 (none)], [some (.row (Ty.int IntKind.i64) 3 x0), some (.row (Ty.int IntKind.i64) 3 x1)]⟩) => some ((x0, x1))
  | _ => none

theorem D21_250_ok : ∀ y r, D21_250 y = some r → ∀ z, (O21_250 r).to z → y = z := by
  intro y r h
  unfold D21_250 at h
  split at h <;> first | (cases h; intro z hz; exact Option.some.inj hz) | cases h

noncomputable def B21_250 (N : Nat) (f : (Int × (List Int) × (List Int)) → Option ((List Int) × (List Int))) : (Int × (List Int) × (List Int)) → Option ((List Int) × (List Int))
  | (x0, x1, x2) =>
  if (decide (x0 < (30 : Int))) = true then
    if (decide ((List.length x1 + (1 : Nat)) * (8 : Nat) ≤ (140737488355328 : Nat) ∧ List.length x1 + (1 : Nat) ≤ (140737488355328 : Nat))) = true then
      Option.bind (f (IntKind.wrap IntKind.i64 (x0 + (1 : Int)), x1 ++ [(5 : Int)], x2)) fun r => some r
    else
      none
  else
    some ((x2, x1))

noncomputable def F21_250 (N : Nat) : Nat → (Int × (List Int) × (List Int)) → Option ((List Int) × (List Int))
  | 0, _ => none
  | k + 1, x => B21_250 N (F21_250 N k) x

noncomputable def C21_250 (N k : Nat) : Cut := ⟨[3, 6, 2], X21_250, tellX I21_250 (F21_250 N k) O21_250⟩

theorem B21_250_eq (N : Nat) (f : (Int × (List Int) × (List Int)) → Option ((List Int) × (List Int))) (x0 : Int) (x1 : (List Int)) (x2 : (List Int)) : (roundEv (mkE Try.prog ownT (tab21 N) [(122, (C21_122 N N))]) Try.f21.ntmps A21 (loopAt (bod Try.f21) 250) 250 ⟨[3, 6, 2], X21_250, tellX I21_250 f O21_250⟩ (J21_250 (x0, x1, x2))).run D21_250 = B21_250 N f (x0, x1, x2) := by kernel_rfl

theorem C21_250_ok (N k : Nat) : ∀ c', At (bod Try.f21) 250 c' → CutOK Try.prog Try.f21.ntmps (idsL A21) c' (C21_250 N k) :=
  loop_ok (E := (mkE Try.prog ownT (tab21 N) [(122, (C21_122 N N))])) (mkE_ok mix (tab21_ok N)) (cutsIn_ok ⟨fun c' h => (C21_122_ok N N c' h), trivial⟩) (fuel := 200) (by decide +kernel) (by kernel_rfl) I21_250_ok D21_250_ok (B21_250 N) (F21_250 N) (fun _ => rfl) (fun _ _ => rfl) (fun f x => match x with | (x0, x1, x2) => B21_250_eq N f x0 x1 x2) k

noncomputable def O21 (r : (List Int) × (List Int)) : Tr (Pk) := .ret ⟨[.tup [.sl 0 (none), .sl 1 (none)]], [some (.row (Ty.int IntKind.i64) 3 (r.1)), some (.row (Ty.int IntKind.i64) 3 (r.2))]⟩

noncomputable def D21 : Pk → Option ((List Int) × (List Int))
  | ⟨[.tup [.sl 0 (none), .sl 1 (none)]], [some (.row (Ty.int IntKind.i64) 3 x0), some (.row (Ty.int IntKind.i64) 3 x1)]⟩ => some ((x0, x1))
  | _ => none

theorem D21_ok : ∀ y r, D21 y = some r → ∀ z, (O21 r).to z → y = z := by
  intro y r h
  unfold D21 at h
  split at h <;> first | (cases h; intro z hz; exact Option.some.inj hz) | cases h

noncomputable def F21 (N : Nat) : (Unit) → Option ((List Int) × (List Int))
  | () =>
  Option.bind (F21_122 N N ((0 : Int), [], [])) fun y0 =>
  Option.bind (F21_250 N N ((0 : Int), Prod.fst y0, Prod.snd y0)) fun y1 =>
  some ((Prod.fst y1, Prod.snd y1))

theorem F21_eq (N : Nat)  : (fnEv (mkE Try.prog ownT (tab21 N) [(122, (C21_122 N N)), (250, (C21_250 N N))]) Try.f21 (J21 ())).run D21 = F21 N () := by kernel_rfl

noncomputable def T21 (N : Nat) : Pk → Tr Pk := tell I21 (F21 N) O21

theorem T21_ok (N : Nat) : FOK Try.prog 21 (T21 N) :=
  tell_ok (E := (mkE Try.prog ownT (tab21 N) [(122, (C21_122 N N)), (250, (C21_250 N N))])) (mkE_ok mix (tab21_ok N)) Try.func21 (show Try.f21.body = some (bod Try.f21) by kernel_rfl) (by decide +kernel) I21_ok D21_ok (args := A21) (fun _ => by kernel_rfl) (fun _ => by show 0 ≤ Try.f21.ntmps; exact of_decide_eq_true (by kernel_rfl)) (cutsIn_ok ⟨fun c' h => (C21_122_ok N N c' h), ⟨fun c' h => (C21_250_ok N N c' h), trivial⟩⟩) (fun x => match x with | () => F21_eq N )

/-! ## f22: mirador/miradorref07.SameRow -/

noncomputable def I22 : Pk → Option ((List Int) × (List Int))
  | ⟨[.ro (.int .i64) x0, .ro (.int .i64) x1], []⟩ => some (x0, x1)
  | _ => none

noncomputable def J22 (x : (List Int) × (List Int)) : Pk := ⟨[.ro (.int .i64) (x.1), .ro (.int .i64) (x.2)], []⟩

theorem I22_ok : ∀ pk x, I22 pk = some x → pk = J22 x := by
  intro pk x h
  unfold I22 at h
  split at h <;> first | (cases h; rfl) | cases h

noncomputable def A22 : List TV := []

noncomputable def tab22 (N : Nat) : List (Nat × (Pk → Tr Pk)) := []

theorem tab22_ok (N : Nat) : TabOK Try.prog (tab22 N) := trivial

def X22_58 : Ex → List Nat
  | .ret => [4]
  | .exit 0 => []
  | _ => []

noncomputable def I22_58 : Pk → Option ((List Int) × (List Int) × Int)
  | ⟨[.ro (Ty.int IntKind.i64) x0, .ro (Ty.int IntKind.i64) x1, .v (.int .i64 x2)], []⟩ => some (x0, x1, x2)
  | _ => none

noncomputable def J22_58 (x : (List Int) × (List Int) × Int) : Pk := ⟨[.ro (Ty.int IntKind.i64) (x.1), .ro (Ty.int IntKind.i64) (x.2.1), .v (.int .i64 (x.2.2))], []⟩

theorem I22_58_ok : ∀ pk x, I22_58 pk = some x → pk = J22_58 x := by
  intro pk x h
  unfold I22_58 at h
  split at h <;> first | (cases h; rfl) | cases h

noncomputable def O22_58 (r : ((Bool) ⊕ (Unit))) : Tr (Ex × Pk) := .sum _ _ r (fun u => .ret (.ret, ⟨[.v (.bool (u))], []⟩)) (fun v => .ret (.exit 0, ⟨[], []⟩))

noncomputable def D22_58 : Ex × Pk → Option (((Bool) ⊕ (Unit)))
  | (.ret, ⟨[.v (.bool x0)], []⟩) => some (.inl (x0))
  | (.exit 0, ⟨[], []⟩) => some (.inr (()))
  | _ => none

theorem D22_58_ok : ∀ y r, D22_58 y = some r → ∀ z, (O22_58 r).to z → y = z := by
  intro y r h
  unfold D22_58 at h
  split at h <;> first | (cases h; intro z hz; exact Option.some.inj hz) | cases h

noncomputable def B22_58 (N : Nat) (f : ((List Int) × (List Int) × Int) → Option (((Bool) ⊕ (Unit)))) : ((List Int) × (List Int) × Int) → Option (((Bool) ⊕ (Unit)))
  | (x0, x1, x2) =>
  if (decide (x2 < (↑(List.length x0) : Int))) = true then
    if (within x2 (List.length x0)) = true then
      Option.bind (x0[Int.toNat x2]?) fun y0 =>
      if (within x2 (List.length x1)) = true then
        Option.bind (x1[Int.toNat x2]?) fun y1 =>
        if (y0 != y1) = true then
          some (.inl (false))
        else
          Option.bind (f (x0, x1, IntKind.wrap IntKind.i64 (x2 + (1 : Int)))) fun r => match r with | .inl (y) => some (.inl (y)) | .inr (y) => some (.inr (y))
      else
        none
    else
      none
  else
    some (.inr (()))

noncomputable def F22_58 (N : Nat) : Nat → ((List Int) × (List Int) × Int) → Option (((Bool) ⊕ (Unit)))
  | 0, _ => none
  | k + 1, x => B22_58 N (F22_58 N k) x

noncomputable def C22_58 (N k : Nat) : Cut := ⟨[0, 1, 5], X22_58, tellX I22_58 (F22_58 N k) O22_58⟩

theorem B22_58_eq (N : Nat) (f : ((List Int) × (List Int) × Int) → Option (((Bool) ⊕ (Unit)))) (x0 : (List Int)) (x1 : (List Int)) (x2 : Int) : (roundEv (mkE Try.prog ownT (tab22 N) []) Try.f22.ntmps A22 (loopAt (bod Try.f22) 58) 58 ⟨[0, 1, 5], X22_58, tellX I22_58 f O22_58⟩ (J22_58 (x0, x1, x2))).run D22_58 = B22_58 N f (x0, x1, x2) := by kernel_rfl

theorem C22_58_ok (N k : Nat) : ∀ c', At (bod Try.f22) 58 c' → CutOK Try.prog Try.f22.ntmps (idsL A22) c' (C22_58 N k) :=
  loop_ok (E := (mkE Try.prog ownT (tab22 N) [])) (mkE_ok mix (tab22_ok N)) (cutsIn_ok trivial) (fuel := 200) (by decide +kernel) (by kernel_rfl) I22_58_ok D22_58_ok (B22_58 N) (F22_58 N) (fun _ => rfl) (fun _ _ => rfl) (fun f x => match x with | (x0, x1, x2) => B22_58_eq N f x0 x1 x2) k

noncomputable def O22 (r : Bool) : Tr (Pk) := .ret ⟨[.v (.bool (r))], []⟩

noncomputable def D22 : Pk → Option (Bool)
  | ⟨[.v (.bool x0)], []⟩ => some (x0)
  | _ => none

theorem D22_ok : ∀ y r, D22 y = some r → ∀ z, (O22 r).to z → y = z := by
  intro y r h
  unfold D22 at h
  split at h <;> first | (cases h; intro z hz; exact Option.some.inj hz) | cases h

noncomputable def F22 (N : Nat) : ((List Int) × (List Int)) → Option (Bool)
  | (x0, x1) =>
  if ((↑(List.length x0) : Int) != (↑(List.length x1) : Int)) = true then
    some (false)
  else
    Option.bind (F22_58 N N (x0, x1, (0 : Int))) fun y0 =>
    match y0 with
    | .inl y1 =>
      some (y1)
    | .inr y1 =>
      some (true)

theorem F22_eq (N : Nat) (x0 : (List Int)) (x1 : (List Int)) : (fnEv (mkE Try.prog ownT (tab22 N) [(58, (C22_58 N N))]) Try.f22 (J22 (x0, x1))).run D22 = F22 N (x0, x1) := by kernel_rfl

noncomputable def T22 (N : Nat) : Pk → Tr Pk := tell I22 (F22 N) O22

theorem T22_ok (N : Nat) : FOK Try.prog 22 (T22 N) :=
  tell_ok (E := (mkE Try.prog ownT (tab22 N) [(58, (C22_58 N N))])) (mkE_ok mix (tab22_ok N)) Try.func22 (show Try.f22.body = some (bod Try.f22) by kernel_rfl) (by decide +kernel) I22_ok D22_ok (args := A22) (fun _ => by kernel_rfl) (fun _ => by show 2 ≤ Try.f22.ntmps; exact of_decide_eq_true (by kernel_rfl)) (cutsIn_ok ⟨fun c' h => (C22_58_ok N N c' h), trivial⟩) (fun x => match x with | (x0, x1) => F22_eq N x0 x1)

/-! ## f4: mirador/miradorlaw07.SymbolsCounts -/

noncomputable def I4 : Pk → Option ((List (Int × (Int × (Int × Unit)))))
  | ⟨[.ro (.cons (.int .i64) (.cons (.int .i64) (.cons (.int .i64) .unit))) x0], []⟩ => some x0
  | _ => none

noncomputable def J4 (x : (List (Int × (Int × (Int × Unit))))) : Pk := ⟨[.ro (.cons (.int .i64) (.cons (.int .i64) (.cons (.int .i64) .unit))) (x)], []⟩

theorem I4_ok : ∀ pk x, I4 pk = some x → pk = J4 x := by
  intro pk x h
  unfold I4 at h
  split at h <;> first | (cases h; rfl) | cases h

noncomputable def A4 : List TV := []

noncomputable def tab4 (N : Nat) : List (Nat × (Pk → Tr Pk)) := [(8, T8 N), (18, T18 N), (19, T19 N), (20, T20 N), (21, T21 N), (22, T22 N)]

theorem tab4_ok (N : Nat) : TabOK Try.prog (tab4 N) := ⟨T8_ok N, ⟨T18_ok N, ⟨T19_ok N, ⟨T20_ok N, ⟨T21_ok N, ⟨T22_ok N, trivial⟩⟩⟩⟩⟩⟩

noncomputable def O4 (r : Bool) : Tr (Pk) := .ret ⟨[.v (.bool (r))], []⟩

noncomputable def D4 : Pk → Option (Bool)
  | ⟨[.v (.bool x0)], []⟩ => some (x0)
  | _ => none

theorem D4_ok : ∀ y r, D4 y = some r → ∀ z, (O4 r).to z → y = z := by
  intro y r h
  unfold D4 at h
  split at h <;> first | (cases h; intro z hz; exact Option.some.inj hz) | cases h

noncomputable def F4 (N : Nat) : ((List (Int × (Int × (Int × Unit))))) → Option (Bool)
  | x0 =>
  Option.bind (F8 N ()) fun y0 =>
  if (!y0) = true then
    some (false)
  else
    if (decide ((↑(List.length x0) : Int) > (60 : Int))) = true then
      some (y0)
    else
      Option.bind (F18 N x0) fun y1 =>
      Option.bind (F19 N x0) fun y2 =>
      Option.bind (F20 N ()) fun y3 =>
      Option.bind (F21 N ()) fun y4 =>
      Option.bind (F22 N (Prod.fst y1, Prod.fst y2)) fun y5 =>
      if (y5) = true then
        Option.bind (F22 N (Prod.snd y1, Prod.snd y2)) fun y6 =>
        Option.bind (F22 N (Prod.fst y3, Prod.fst y4)) fun y7 =>
        if (y7) = true then
          Option.bind (F22 N (Prod.snd y3, Prod.snd y4)) fun y8 =>
          if (y0) = true then
            if (y6) = true then
              some (y8)
            else
              some (false)
          else
            some (false)
        else
          if (y0) = true then
            if (y6) = true then
              some (false)
            else
              some (false)
          else
            some (false)
      else
        Option.bind (F22 N (Prod.fst y3, Prod.fst y4)) fun y9 =>
        if (y9) = true then
          Option.bind (F22 N (Prod.snd y3, Prod.snd y4)) fun y10 =>
          if (y0) = true then
            some (false)
          else
            some (false)
        else
          if (y0) = true then
            some (false)
          else
            some (false)

theorem F4_eq (N : Nat) (x0 : (List (Int × (Int × (Int × Unit))))) : (fnEv (mkE Try.prog ownT (tab4 N) []) Try.f4 (J4 x0)).run D4 = F4 N x0 := by kernel_rfl

noncomputable def T4 (N : Nat) : Pk → Tr Pk := tell I4 (F4 N) O4

theorem T4_ok (N : Nat) : FOK Try.prog 4 (T4 N) :=
  tell_ok (E := (mkE Try.prog ownT (tab4 N) [])) (mkE_ok mix (tab4_ok N)) Try.func4 (show Try.f4.body = some (bod Try.f4) by kernel_rfl) (by decide +kernel) I4_ok D4_ok (args := A4) (fun _ => by kernel_rfl) (fun _ => by show 1 ≤ Try.f4.ntmps; exact of_decide_eq_true (by kernel_rfl)) (cutsIn_ok trivial) (fun x => match x with | x0 => F4_eq N x0)


end Go.Proofs.Ytmcjfdognplgmaa.Am

set_option linter.unusedVariables false
set_option maxRecDepth 100000
namespace Go.Proofs.Ytmcjfdognplgmaa.Am
open Go.Am
/-! ## f5: mirador/miradorlaw07.SymbolsRise -/

noncomputable def I5 : Pk → Option (Int × Int)
  | ⟨[.v (.int .i64 x0), .v (.int .i64 x1)], []⟩ => some (x0, x1)
  | _ => none

noncomputable def J5 (x : Int × Int) : Pk := ⟨[.v (.int .i64 (x.1)), .v (.int .i64 (x.2))], []⟩

theorem I5_ok : ∀ pk x, I5 pk = some x → pk = J5 x := by
  intro pk x h
  unfold I5 at h
  split at h <;> first | (cases h; rfl) | cases h

noncomputable def A5 : List TV := []

noncomputable def tab5 (N : Nat) : List (Nat × (Pk → Tr Pk)) := [(8, T8 N), (11, T11 N), (17, T17 N), (9, T9 N), (15, T15 N)]

theorem tab5_ok (N : Nat) : TabOK Try.prog (tab5 N) := ⟨T8_ok N, ⟨T11_ok N, ⟨T17_ok N, ⟨T9_ok N, ⟨T15_ok N, trivial⟩⟩⟩⟩⟩

noncomputable def O5 (r : Bool) : Tr (Pk) := .ret ⟨[.v (.bool (r))], []⟩

noncomputable def D5 : Pk → Option (Bool)
  | ⟨[.v (.bool x0)], []⟩ => some (x0)
  | _ => none

theorem D5_ok : ∀ y r, D5 y = some r → ∀ z, (O5 r).to z → y = z := by
  intro y r h
  unfold D5 at h
  split at h <;> first | (cases h; intro z hz; exact Option.some.inj hz) | cases h

noncomputable def F5 (N : Nat) : (Int × Int) → Option (Bool)
  | (x0, x1) =>
  Option.bind (F8 N ()) fun y0 =>
  if (!y0) = true then
    some (false)
  else
    if (decide (x0 < (1 : Int))) = true then
      some (y0)
    else
      if (decide (x1 < x0)) = true then
        some (y0)
      else
        if (decide (x1 > (32768 : Int))) = true then
          some (y0)
        else
          Option.bind (F11 N x0) fun y1 =>
          Option.bind (F11 N x1) fun y2 =>
          Option.bind (F17 N (Prod.fst y1)) fun y3 =>
          if (decide (Prod.fst y2 < Prod.fst y1)) = true then
            some (false)
          else
            if (Prod.fst y1 == Prod.fst y2) = true then
              if (IntKind.wrap IntKind.i64 (Prod.fst (Prod.snd y2) - Prod.fst (Prod.snd y1)) != IntKind.wrap IntKind.i64 (x1 - x0)) = true then
                some (false)
              else
                if (Prod.snd (Prod.snd y1) != Prod.snd (Prod.snd y2)) = true then
                  some (false)
                else
                  if (IntKind.wrap IntKind.i64 (Prod.fst y3 + Prod.fst (Prod.snd y1)) != x0) = true then
                    some (false)
                  else
                    if (Prod.snd y3 != Prod.snd (Prod.snd y1)) = true then
                      some (false)
                    else
                      if (decide (Prod.snd (Prod.snd y1) < (0 : Int))) = true then
                        none
                      else
                        if (decide (Prod.fst (Prod.snd y1) ≥ IntKind.wrap IntKind.i64 ((1 : Int) * (2 : Int) ^ min (Int.toNat (Prod.snd (Prod.snd y1))) (64 : Nat)))) = true then
                          some (false)
                        else
                          if (decide (x0 < (3 : Int))) = true then
                            some (y0)
                          else
                            if (decide (x1 > (258 : Int))) = true then
                              some (y0)
                            else
                              Option.bind (F9 N x0) fun y4 =>
                              Option.bind (F9 N x1) fun y5 =>
                              Option.bind (F15 N (Prod.fst y4)) fun y6 =>
                              if (y0) = true then
                                if (decide (Prod.fst y5 ≥ Prod.fst y4)) = true then
                                  if (Prod.fst y4 != Prod.fst y5) = true then
                                    if (IntKind.wrap IntKind.i64 (Prod.fst y6 + Prod.fst (Prod.snd y4)) == x0) = true then
                                      if (Prod.snd y6 == Prod.snd (Prod.snd y4)) = true then
                                        if (decide (Prod.snd (Prod.snd y4) < (0 : Int))) = true then
                                          none
                                        else
                                          some (decide (Prod.fst (Prod.snd y4) < IntKind.wrap IntKind.i64 ((1 : Int) * (2 : Int) ^ min (Int.toNat (Prod.snd (Prod.snd y4))) (64 : Nat))))
                                      else
                                        some (false)
                                    else
                                      some (false)
                                  else
                                    if (IntKind.wrap IntKind.i64 (Prod.fst (Prod.snd y5) - Prod.fst (Prod.snd y4)) == IntKind.wrap IntKind.i64 (x1 - x0)) = true then
                                      if (Prod.snd (Prod.snd y4) == Prod.snd (Prod.snd y5)) = true then
                                        if (IntKind.wrap IntKind.i64 (Prod.fst y6 + Prod.fst (Prod.snd y4)) == x0) = true then
                                          if (Prod.snd y6 == Prod.snd (Prod.snd y4)) = true then
                                            if (decide (Prod.snd (Prod.snd y4) < (0 : Int))) = true then
                                              none
                                            else
                                              some (decide (Prod.fst (Prod.snd y4) < IntKind.wrap IntKind.i64 ((1 : Int) * (2 : Int) ^ min (Int.toNat (Prod.snd (Prod.snd y4))) (64 : Nat))))
                                          else
                                            some (false)
                                        else
                                          some (false)
                                      else
                                        some (false)
                                    else
                                      some (false)
                                else
                                  some (false)
                              else
                                some (false)
            else
              if (IntKind.wrap IntKind.i64 (Prod.fst y3 + Prod.fst (Prod.snd y1)) != x0) = true then
                some (false)
              else
                if (Prod.snd y3 != Prod.snd (Prod.snd y1)) = true then
                  some (false)
                else
                  if (decide (Prod.snd (Prod.snd y1) < (0 : Int))) = true then
                    none
                  else
                    if (decide (Prod.fst (Prod.snd y1) ≥ IntKind.wrap IntKind.i64 ((1 : Int) * (2 : Int) ^ min (Int.toNat (Prod.snd (Prod.snd y1))) (64 : Nat)))) = true then
                      some (false)
                    else
                      if (decide (x0 < (3 : Int))) = true then
                        some (y0)
                      else
                        if (decide (x1 > (258 : Int))) = true then
                          some (y0)
                        else
                          Option.bind (F9 N x0) fun y7 =>
                          Option.bind (F9 N x1) fun y8 =>
                          Option.bind (F15 N (Prod.fst y7)) fun y9 =>
                          if (y0) = true then
                            if (decide (Prod.fst y8 ≥ Prod.fst y7)) = true then
                              if (Prod.fst y7 != Prod.fst y8) = true then
                                if (IntKind.wrap IntKind.i64 (Prod.fst y9 + Prod.fst (Prod.snd y7)) == x0) = true then
                                  if (Prod.snd y9 == Prod.snd (Prod.snd y7)) = true then
                                    if (decide (Prod.snd (Prod.snd y7) < (0 : Int))) = true then
                                      none
                                    else
                                      some (decide (Prod.fst (Prod.snd y7) < IntKind.wrap IntKind.i64 ((1 : Int) * (2 : Int) ^ min (Int.toNat (Prod.snd (Prod.snd y7))) (64 : Nat))))
                                  else
                                    some (false)
                                else
                                  some (false)
                              else
                                if (IntKind.wrap IntKind.i64 (Prod.fst (Prod.snd y8) - Prod.fst (Prod.snd y7)) == IntKind.wrap IntKind.i64 (x1 - x0)) = true then
                                  if (Prod.snd (Prod.snd y7) == Prod.snd (Prod.snd y8)) = true then
                                    if (IntKind.wrap IntKind.i64 (Prod.fst y9 + Prod.fst (Prod.snd y7)) == x0) = true then
                                      if (Prod.snd y9 == Prod.snd (Prod.snd y7)) = true then
                                        if (decide (Prod.snd (Prod.snd y7) < (0 : Int))) = true then
                                          none
                                        else
                                          some (decide (Prod.fst (Prod.snd y7) < IntKind.wrap IntKind.i64 ((1 : Int) * (2 : Int) ^ min (Int.toNat (Prod.snd (Prod.snd y7))) (64 : Nat))))
                                      else
                                        some (false)
                                    else
                                      some (false)
                                  else
                                    some (false)
                                else
                                  some (false)
                            else
                              some (false)
                          else
                            some (false)

theorem F5_eq (N : Nat) (x0 : Int) (x1 : Int) : (fnEv (mkE Try.prog ownT (tab5 N) []) Try.f5 (J5 (x0, x1))).run D5 = F5 N (x0, x1) := by kernel_rfl

noncomputable def T5 (N : Nat) : Pk → Tr Pk := tell I5 (F5 N) O5

theorem T5_ok (N : Nat) : FOK Try.prog 5 (T5 N) :=
  tell_ok (E := (mkE Try.prog ownT (tab5 N) [])) (mkE_ok mix (tab5_ok N)) Try.func5 (show Try.f5.body = some (bod Try.f5) by kernel_rfl) (by decide +kernel) I5_ok D5_ok (args := A5) (fun _ => by kernel_rfl) (fun _ => by show 2 ≤ Try.f5.ntmps; exact of_decide_eq_true (by kernel_rfl)) (cutsIn_ok trivial) (fun x => match x with | (x0, x1) => F5_eq N x0 x1)


end Go.Proofs.Ytmcjfdognplgmaa.Am
