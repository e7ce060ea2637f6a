/- The seat's Go functions come to the Lean functions written here, wherever these give an answer (fourth part). -/
import Derived.Test.YtpjkklailofkjaaSC
set_option linter.unusedVariables false
set_option maxRecDepth 100000
namespace Go.Proofs.Ytpjkklailofkjaa.Am
open Go.Am

/-! ## f5: mirador/miradorlaw05.HuffmanLengths -/

noncomputable def I5 : Pk → Option ((List Int) × Int)
  | ⟨[.ro (.int .i64) x0, .v (.int .i64 x1)], []⟩ => some (x0, x1)
  | _ => none

noncomputable def J5 (x : (List Int) × Int) : Pk := ⟨[.ro (.int .i64) (x.1), .v (.int .i64 (x.2))], []⟩

theorem I5_ok : ∀ pk x, I5 pk = some x → pk = J5 x := by
  intro pk x h
  unfold I5 at h
  split at h <;> first | (cases h; rfl) | cases h

noncomputable def A5 : List TV := []

noncomputable def tab5 (N : Nat) : List (Nat × (Pk → Tr Pk)) := [(11, T11 N), (17, T17 N), (12, T12 N)]

theorem tab5_ok (N : Nat) : TabOK Try.prog (tab5 N) := ⟨T11_ok N, ⟨T17_ok N, ⟨T12_ok N, trivial⟩⟩⟩

def X5_2042 : Ex → List Nat
  | .ret => [4]
  | .exit 0 => [8, 1, 0, 9, 5, 7, 6]
  | _ => []

def X5_65530 : Ex → List Nat
  | .ret => [4]
  | .exit 2 => [5, 9, 11]
  | _ => []

noncomputable def I5_2042 : Pk → Option (Bool × Int × Int × Int × Bool × Int × (List Int) × (List Int))
  | ⟨[.v (.bool x0), .v (.int .i64 x1), .v (.int .i64 x2), .sl 0 (none), .v (.int .i64 x3), .v (.bool x4), .v (.int .i64 x5), .ro (Ty.int IntKind.i64) x6], [some (.row (Ty.int IntKind.i64) 3 x7)]⟩ => some (x0, x1, x2, x3, x4, x5, x6, x7)
  | _ => none

noncomputable def J5_2042 (x : Bool × Int × Int × Int × Bool × Int × (List Int) × (List Int)) : Pk := ⟨[.v (.bool (x.1)), .v (.int .i64 (x.2.1)), .v (.int .i64 (x.2.2.1)), .sl 0 (none), .v (.int .i64 (x.2.2.2.1)), .v (.bool (x.2.2.2.2.1)), .v (.int .i64 (x.2.2.2.2.2.1)), .ro (Ty.int IntKind.i64) (x.2.2.2.2.2.2.1)], [some (.row (Ty.int IntKind.i64) 3 (x.2.2.2.2.2.2.2))]⟩

theorem I5_2042_ok : ∀ pk x, I5_2042 pk = some x → pk = J5_2042 x := by
  intro pk x h
  unfold I5_2042 at h
  split at h <;> first | (cases h; rfl) | cases h

noncomputable def O5_2042 (r : Bool × Int × (List Int) × Int × Bool × Int × (List Int)) : Tr (Ex × Pk) := .ret (.exit 0, ⟨[.v (.bool (r.1)), .v (.int .i64 (r.2.1)), .ro (Ty.int IntKind.i64) (r.2.2.1), .v (.int .i64 (r.2.2.2.1)), .v (.bool (r.2.2.2.2.1)), .v (.int .i64 (r.2.2.2.2.2.1)), .sl 0 (none)], [some (.row (Ty.int IntKind.i64) 3 (r.2.2.2.2.2.2))]⟩)

noncomputable def D5_2042 : Ex × Pk → Option (Bool × Int × (List Int) × Int × Bool × Int × (List Int))
  | (.exit 0, ⟨[.v (.bool x0), .v (.int .i64 x1), .ro (Ty.int IntKind.i64) x2, .v (.int .i64 x3), .v (.bool x4), .v (.int .i64 x5), .sl 0 (none)], [some (.row (Ty.int IntKind.i64) 3 x6)]⟩) => some ((x0, x1, x2, x3, x4, x5, x6))
  | _ => none

theorem D5_2042_ok : ∀ y r, D5_2042 y = some r → ∀ z, (O5_2042 r).to z → y = z := by
  intro y r h
  unfold D5_2042 at h
  split at h <;> first | (cases h; intro z hz; exact Option.some.inj hz) | cases h

noncomputable def B5_2042 (N : Nat) (f : (Bool × Int × Int × Int × Bool × Int × (List Int) × (List Int)) → Option (Bool × Int × (List Int) × Int × Bool × Int × (List Int))) : (Bool × Int × Int × Int × Bool × Int × (List Int) × (List Int)) → Option (Bool × Int × (List Int) × Int × Bool × Int × (List Int))
  | (x0, x1, x2, x3, x4, x5, x6, x7) =>
  iteP (decide (x2 < (↑(List.length x6) : Int))) (
    iteP (x0) (
      iteP (within x2 (List.length x6)) (
        Option.bind (x6[Int.toNat x2]?) fun y0 =>
        iteP (decide (y0 > (0 : Int))) (
          Option.bind (f (true, IntKind.wrap IntKind.i64 (x1 + (1 : Int)), IntKind.wrap IntKind.i64 (x2 + (1 : Int)), x3, x4, x5, x6, x7)) fun r => some r) (
          Option.bind (f (true, x1, IntKind.wrap IntKind.i64 (x2 + (1 : Int)), x3, x4, x5, x6, x7)) fun r => some r)) (
        none)) (
      iteP (within x2 (List.length x6)) (
        Option.bind (x6[Int.toNat x2]?) fun y1 =>
        iteP (decide (y1 < (0 : Int))) (
          iteP (within x2 (List.length x6)) (
            Option.bind (x6[Int.toNat x2]?) fun y2 =>
            iteP (decide (y2 > (0 : Int))) (
              Option.bind (f (true, IntKind.wrap IntKind.i64 (x1 + (1 : Int)), IntKind.wrap IntKind.i64 (x2 + (1 : Int)), x3, x4, x5, x6, x7)) fun r => some r) (
              Option.bind (f (true, x1, IntKind.wrap IntKind.i64 (x2 + (1 : Int)), x3, x4, x5, x6, x7)) fun r => some r)) (
            none)) (
          iteP (within x2 (List.length x6)) (
            Option.bind (x6[Int.toNat x2]?) fun y3 =>
            iteP (within x2 (List.length x6)) (
              Option.bind (x6[Int.toNat x2]?) fun y4 =>
              iteP (decide (y4 > (0 : Int))) (
                Option.bind (f (decide (y3 > (1073741824 : Int)), IntKind.wrap IntKind.i64 (x1 + (1 : Int)), IntKind.wrap IntKind.i64 (x2 + (1 : Int)), x3, x4, x5, x6, x7)) fun r => some r) (
                Option.bind (f (decide (y3 > (1073741824 : Int)), x1, IntKind.wrap IntKind.i64 (x2 + (1 : Int)), x3, x4, x5, x6, x7)) fun r => some r)) (
              none)) (
            none))) (
        none))) (
    some ((x0, x5, x6, x1, x4, x3, x7)))

noncomputable def F5_2042 (N : Nat) : Nat → (Bool × Int × Int × Int × Bool × Int × (List Int) × (List Int)) → Option (Bool × Int × (List Int) × Int × Bool × Int × (List Int))
  | 0, _ => none
  | k + 1, x => B5_2042 N (F5_2042 N k) x

noncomputable def C5_2042 (N : Nat) (k : Nat) : Cut := ⟨[8, 9, 10, 6, 7, 5, 1, 0], X5_2042, tellX I5_2042 (F5_2042 N k) O5_2042⟩

theorem B5_2042_eq (N : Nat) (f : (Bool × Int × Int × Int × Bool × Int × (List Int) × (List Int)) → Option (Bool × Int × (List Int) × Int × Bool × Int × (List Int))) (x0 : Bool) (x1 : Int) (x2 : Int) (x3 : Int) (x4 : Bool) (x5 : Int) (x6 : (List Int)) (x7 : (List Int)) : (roundEv (mkE Try.prog ownT (tab5 N) []) Try.f5.ntmps A5 (loopAt (bod Try.f5) 2042) 2042 ⟨[8, 9, 10, 6, 7, 5, 1, 0], X5_2042, tellX I5_2042 f O5_2042⟩ (J5_2042 (x0, x1, x2, x3, x4, x5, x6, x7))).run D5_2042 = B5_2042 N f (x0, x1, x2, x3, x4, x5, x6, x7) := by kernel_rfl

theorem C5_2042_ok (N : Nat) (k : Nat) : ∀ c', At (bod Try.f5) 2042 c' → CutOK Try.prog Try.f5.ntmps (idsL A5) c' (C5_2042 N k) :=
  loop_ok (E := (mkE Try.prog ownT (tab5 N) [])) (mkE_ok mix (tab5_ok N)) (cutsIn_ok trivial) (fuel := 200) (by decide +kernel) (by kernel_rfl) I5_2042_ok D5_2042_ok (B5_2042 N) (F5_2042 N) (fun _ => rfl) (fun _ _ => rfl) (fun f x => match x with | (x0, x1, x2, x3, x4, x5, x6, x7) => B5_2042_eq N f x0 x1 x2 x3 x4 x5 x6 x7) k

noncomputable def I5_65530 : Pk → Option (Int × Int × Bool × (List Int) × Int × Int × (List Int))
  | ⟨[.v (.int .i64 x0), .v (.int .i64 x1), .v (.bool x2), .ro (Ty.int IntKind.i64) x3, .sl 0 (none), .v (.int .i64 x4), .v (.int .i64 x5)], [some (.row (Ty.int IntKind.i64) 3 x6)]⟩ => some (x0, x1, x2, x3, x4, x5, x6)
  | _ => none

noncomputable def J5_65530 (x : Int × Int × Bool × (List Int) × Int × Int × (List Int)) : Pk := ⟨[.v (.int .i64 (x.1)), .v (.int .i64 (x.2.1)), .v (.bool (x.2.2.1)), .ro (Ty.int IntKind.i64) (x.2.2.2.1), .sl 0 (none), .v (.int .i64 (x.2.2.2.2.1)), .v (.int .i64 (x.2.2.2.2.2.1))], [some (.row (Ty.int IntKind.i64) 3 (x.2.2.2.2.2.2))]⟩

theorem I5_65530_ok : ∀ pk x, I5_65530 pk = some x → pk = J5_65530 x := by
  intro pk x h
  unfold I5_65530 at h
  split at h <;> first | (cases h; rfl) | cases h

noncomputable def O5_65530 (r : ((Bool) ⊕ (Bool × Int × Int))) : Tr (Ex × Pk) := .sum _ _ r (fun u => .ret (.ret, ⟨[.v (.bool (u))], []⟩)) (fun v => .ret (.exit 2, ⟨[.v (.bool (v.1)), .v (.int .i64 (v.2.1)), .v (.int .i64 (v.2.2))], []⟩))

noncomputable def D5_65530 : Ex × Pk → Option (((Bool) ⊕ (Bool × Int × Int)))
  | (.ret, ⟨[.v (.bool x0)], []⟩) => some (.inl (x0))
  | (.exit 2, ⟨[.v (.bool x0), .v (.int .i64 x1), .v (.int .i64 x2)], []⟩) => some (.inr ((x0, x1, x2)))
  | _ => none

theorem D5_65530_ok : ∀ y r, D5_65530 y = some r → ∀ z, (O5_65530 r).to z → y = z := by
  intro y r h
  unfold D5_65530 at h
  split at h <;> first | (cases h; intro z hz; exact Option.some.inj hz) | cases h

noncomputable def B5_65530 (N : Nat) (f : (Int × Int × Bool × (List Int) × Int × Int × (List Int)) → Option (((Bool) ⊕ (Bool × Int × Int)))) : (Int × Int × Bool × (List Int) × Int × Int × (List Int)) → Option (((Bool) ⊕ (Bool × Int × Int)))
  | (x0, x1, x2, x3, x4, x5, x6) =>
  iteP (decide (x5 < (↑(List.length x6) : Int))) (
    iteP (within x5 (List.length x6)) (
      Option.bind (x6[Int.toNat x5]?) fun y0 =>
      iteP (within x5 (List.length x3)) (
        Option.bind (x3[Int.toNat x5]?) fun y1 =>
        iteP (!(y0 == (0 : Int)) == (y1 == (0 : Int))) (
          some (.inl (false))) (
          iteP (within x5 (List.length x6)) (
            Option.bind (x6[Int.toNat x5]?) fun y2 =>
            iteP (decide (y2 > x4)) (
              some (.inl (false))) (
              Option.bind (f (x0, x1, x2, x3, x4, IntKind.wrap IntKind.i64 (x5 + (1 : Int)), x6)) fun r => match r with | .inl (y) => some (.inl (y)) | .inr (y) => some (.inr (y)))) (
            none))) (
        none)) (
      none)) (
    some (.inr ((x2, x1, x0))))

noncomputable def F5_65530 (N : Nat) : Nat → (Int × Int × Bool × (List Int) × Int × Int × (List Int)) → Option (((Bool) ⊕ (Bool × Int × Int)))
  | 0, _ => none
  | k + 1, x => B5_65530 N (F5_65530 N k) x

noncomputable def C5_65530 (N : Nat) (k : Nat) : Cut := ⟨[11, 9, 5, 0, 6, 1, 13], X5_65530, tellX I5_65530 (F5_65530 N k) O5_65530⟩

theorem B5_65530_eq (N : Nat) (f : (Int × Int × Bool × (List Int) × Int × Int × (List Int)) → Option (((Bool) ⊕ (Bool × Int × Int)))) (x0 : Int) (x1 : Int) (x2 : Bool) (x3 : (List Int)) (x4 : Int) (x5 : Int) (x6 : (List Int)) : (roundEv (mkE Try.prog ownT (tab5 N) [(2042, (C5_2042 N N))]) Try.f5.ntmps A5 (loopAt (bod Try.f5) 65530) 65530 ⟨[11, 9, 5, 0, 6, 1, 13], X5_65530, tellX I5_65530 f O5_65530⟩ (J5_65530 (x0, x1, x2, x3, x4, x5, x6))).run D5_65530 = B5_65530 N f (x0, x1, x2, x3, x4, x5, x6) := by kernel_rfl

theorem C5_65530_ok (N : Nat) (k : Nat) : ∀ c', At (bod Try.f5) 65530 c' → CutOK Try.prog Try.f5.ntmps (idsL A5) c' (C5_65530 N k) :=
  loop_ok (E := (mkE Try.prog ownT (tab5 N) [(2042, (C5_2042 N N))])) (mkE_ok mix (tab5_ok N)) (cutsIn_ok ⟨fun c' h => (C5_2042_ok N N c' h), trivial⟩) (fuel := 200) (by decide +kernel) (by kernel_rfl) I5_65530_ok D5_65530_ok (B5_65530 N) (F5_65530 N) (fun _ => rfl) (fun _ _ => rfl) (fun f x => match x with | (x0, x1, x2, x3, x4, x5, x6) => B5_65530_eq N f x0 x1 x2 x3 x4 x5 x6) k

noncomputable def O5 (r : Bool) : Tr (Pk) := .ret ⟨[.v (.bool (r))], []⟩

noncomputable def D5 : Pk → Option (Bool)
  | ⟨[.v (.bool x0)], []⟩ => some (x0)
  | _ => none

theorem D5_ok : ∀ y r, D5 y = some r → ∀ z, (O5 r).to z → y = z := by
  intro y r h
  unfold D5 at h
  split at h <;> first | (cases h; intro z hz; exact Option.some.inj hz) | cases h

noncomputable def F5 (N : Nat) : ((List Int) × Int) → Option (Bool)
  | (x0, x1) =>
  Option.bind (F11 N ()) fun y0 =>
  iteP (!y0) (
    some (false)) (
    iteP (decide ((↑(List.length x0) : Int) > (340 : Int))) (
      some (y0)) (
      Option.bind (F17 N (x0, x1)) fun y1 =>
      iteP (decide ((↑(List.length x0) : Int) > (320 : Int))) (
        Option.bind (F5_2042 N N (true, (0 : Int), (0 : Int), Prod.fst y1, y0, x1, x0, Prod.snd y1)) fun y2 =>
        iteP (Prod.fst y2) (
          iteP (Prod.fst (Prod.snd (Prod.snd (Prod.snd (Prod.snd y2))))) (
            iteP (Prod.fst (Prod.snd (Prod.snd (Prod.snd (Prod.snd (Prod.snd y2))))) == (1 : Int)) (
              some ((↑(List.length (Prod.snd (Prod.snd (Prod.snd (Prod.snd (Prod.snd (Prod.snd y2))))))) : Int) == (0 : Int))) (
              some (false))) (
            some (false))) (
          iteP (decide (Prod.fst (Prod.snd y2) < (0 : Int))) (
            none) (
            iteP (decide (Prod.fst (Prod.snd (Prod.snd (Prod.snd y2))) > IntKind.wrap IntKind.i64 ((1 : Int) * (2 : Int) ^ min (Int.toNat (Prod.fst (Prod.snd y2))) (64 : Nat)))) (
              iteP (Prod.fst (Prod.snd (Prod.snd (Prod.snd (Prod.snd y2))))) (
                iteP (Prod.fst (Prod.snd (Prod.snd (Prod.snd (Prod.snd (Prod.snd y2))))) == (50 : Int)) (
                  some ((↑(List.length (Prod.snd (Prod.snd (Prod.snd (Prod.snd (Prod.snd (Prod.snd y2))))))) : Int) == (0 : Int))) (
                  some (false))) (
                some (false))) (
              Option.bind (F12 N (Prod.snd (Prod.snd (Prod.snd (Prod.snd (Prod.snd (Prod.snd y2))))))) fun y3 =>
              iteP (Prod.fst (Prod.snd (Prod.snd (Prod.snd (Prod.snd (Prod.snd y2))))) != (0 : Int)) (
                some (false)) (
                iteP (Prod.snd y3 != (0 : Int)) (
                  some (false)) (
                  iteP ((↑(List.length (Prod.snd (Prod.snd (Prod.snd (Prod.snd (Prod.snd (Prod.snd y2))))))) : Int) != (↑(List.length (Prod.fst (Prod.snd (Prod.snd y2)))) : Int)) (
                    some (false)) (
                    Option.bind (F5_65530 N N (Prod.fst y3, Prod.fst (Prod.snd (Prod.snd (Prod.snd y2))), Prod.fst (Prod.snd (Prod.snd (Prod.snd (Prod.snd y2)))), Prod.fst (Prod.snd (Prod.snd y2)), Prod.fst (Prod.snd y2), (0 : Int), Prod.snd (Prod.snd (Prod.snd (Prod.snd (Prod.snd (Prod.snd y2))))))) fun y4 =>
                    match y4 with
                    | .inl y5 =>
                      some (y5)
                    | .inr y5 =>
                      iteP (Prod.fst y5) (
                        iteP (decide (Prod.fst (Prod.snd y5) > (1 : Int))) (
                          iteP (Prod.snd (Prod.snd y5) == (0 : Int)) (
                            some (true)) (
                            iteP (Prod.fst (Prod.snd y5) == (1 : Int)) (
                              iteP (Prod.snd (Prod.snd y5) == (16384 : Int)) (
                                some (true)) (
                                iteP (Prod.fst (Prod.snd y5) == (0 : Int)) (
                                  some (Prod.snd (Prod.snd y5) == (32768 : Int))) (
                                  some (false)))) (
                              iteP (Prod.fst (Prod.snd y5) == (0 : Int)) (
                                some (Prod.snd (Prod.snd y5) == (32768 : Int))) (
                                some (false))))) (
                          iteP (Prod.fst (Prod.snd y5) == (1 : Int)) (
                            iteP (Prod.snd (Prod.snd y5) == (16384 : Int)) (
                              some (true)) (
                              iteP (Prod.fst (Prod.snd y5) == (0 : Int)) (
                                some (Prod.snd (Prod.snd y5) == (32768 : Int))) (
                                some (false)))) (
                            iteP (Prod.fst (Prod.snd y5) == (0 : Int)) (
                              some (Prod.snd (Prod.snd y5) == (32768 : Int))) (
                              some (false))))) (
                        some (false))))))))) (
        iteP (decide (x1 < (1 : Int))) (
          Option.bind (F5_2042 N N (true, (0 : Int), (0 : Int), Prod.fst y1, y0, x1, x0, Prod.snd y1)) fun y6 =>
          iteP (Prod.fst y6) (
            iteP (Prod.fst (Prod.snd (Prod.snd (Prod.snd (Prod.snd y6))))) (
              iteP (Prod.fst (Prod.snd (Prod.snd (Prod.snd (Prod.snd (Prod.snd y6))))) == (1 : Int)) (
                some ((↑(List.length (Prod.snd (Prod.snd (Prod.snd (Prod.snd (Prod.snd (Prod.snd y6))))))) : Int) == (0 : Int))) (
                some (false))) (
              some (false))) (
            iteP (decide (Prod.fst (Prod.snd y6) < (0 : Int))) (
              none) (
              iteP (decide (Prod.fst (Prod.snd (Prod.snd (Prod.snd y6))) > IntKind.wrap IntKind.i64 ((1 : Int) * (2 : Int) ^ min (Int.toNat (Prod.fst (Prod.snd y6))) (64 : Nat)))) (
                iteP (Prod.fst (Prod.snd (Prod.snd (Prod.snd (Prod.snd y6))))) (
                  iteP (Prod.fst (Prod.snd (Prod.snd (Prod.snd (Prod.snd (Prod.snd y6))))) == (50 : Int)) (
                    some ((↑(List.length (Prod.snd (Prod.snd (Prod.snd (Prod.snd (Prod.snd (Prod.snd y6))))))) : Int) == (0 : Int))) (
                    some (false))) (
                  some (false))) (
                Option.bind (F12 N (Prod.snd (Prod.snd (Prod.snd (Prod.snd (Prod.snd (Prod.snd y6))))))) fun y7 =>
                iteP (Prod.fst (Prod.snd (Prod.snd (Prod.snd (Prod.snd (Prod.snd y6))))) != (0 : Int)) (
                  some (false)) (
                  iteP (Prod.snd y7 != (0 : Int)) (
                    some (false)) (
                    iteP ((↑(List.length (Prod.snd (Prod.snd (Prod.snd (Prod.snd (Prod.snd (Prod.snd y6))))))) : Int) != (↑(List.length (Prod.fst (Prod.snd (Prod.snd y6)))) : Int)) (
                      some (false)) (
                      Option.bind (F5_65530 N N (Prod.fst y7, Prod.fst (Prod.snd (Prod.snd (Prod.snd y6))), Prod.fst (Prod.snd (Prod.snd (Prod.snd (Prod.snd y6)))), Prod.fst (Prod.snd (Prod.snd y6)), Prod.fst (Prod.snd y6), (0 : Int), Prod.snd (Prod.snd (Prod.snd (Prod.snd (Prod.snd (Prod.snd y6))))))) fun y8 =>
                      match y8 with
                      | .inl y9 =>
                        some (y9)
                      | .inr y9 =>
                        iteP (Prod.fst y9) (
                          iteP (decide (Prod.fst (Prod.snd y9) > (1 : Int))) (
                            iteP (Prod.snd (Prod.snd y9) == (0 : Int)) (
                              some (true)) (
                              iteP (Prod.fst (Prod.snd y9) == (1 : Int)) (
                                iteP (Prod.snd (Prod.snd y9) == (16384 : Int)) (
                                  some (true)) (
                                  iteP (Prod.fst (Prod.snd y9) == (0 : Int)) (
                                    some (Prod.snd (Prod.snd y9) == (32768 : Int))) (
                                    some (false)))) (
                                iteP (Prod.fst (Prod.snd y9) == (0 : Int)) (
                                  some (Prod.snd (Prod.snd y9) == (32768 : Int))) (
                                  some (false))))) (
                            iteP (Prod.fst (Prod.snd y9) == (1 : Int)) (
                              iteP (Prod.snd (Prod.snd y9) == (16384 : Int)) (
                                some (true)) (
                                iteP (Prod.fst (Prod.snd y9) == (0 : Int)) (
                                  some (Prod.snd (Prod.snd y9) == (32768 : Int))) (
                                  some (false)))) (
                              iteP (Prod.fst (Prod.snd y9) == (0 : Int)) (
                                some (Prod.snd (Prod.snd y9) == (32768 : Int))) (
                                some (false))))) (
                          some (false))))))))) (
          Option.bind (F5_2042 N N (decide (x1 > (15 : Int)), (0 : Int), (0 : Int), Prod.fst y1, y0, x1, x0, Prod.snd y1)) fun y10 =>
          iteP (Prod.fst y10) (
            iteP (Prod.fst (Prod.snd (Prod.snd (Prod.snd (Prod.snd y10))))) (
              iteP (Prod.fst (Prod.snd (Prod.snd (Prod.snd (Prod.snd (Prod.snd y10))))) == (1 : Int)) (
                some ((↑(List.length (Prod.snd (Prod.snd (Prod.snd (Prod.snd (Prod.snd (Prod.snd y10))))))) : Int) == (0 : Int))) (
                some (false))) (
              some (false))) (
            iteP (decide (Prod.fst (Prod.snd y10) < (0 : Int))) (
              none) (
              iteP (decide (Prod.fst (Prod.snd (Prod.snd (Prod.snd y10))) > IntKind.wrap IntKind.i64 ((1 : Int) * (2 : Int) ^ min (Int.toNat (Prod.fst (Prod.snd y10))) (64 : Nat)))) (
                iteP (Prod.fst (Prod.snd (Prod.snd (Prod.snd (Prod.snd y10))))) (
                  iteP (Prod.fst (Prod.snd (Prod.snd (Prod.snd (Prod.snd (Prod.snd y10))))) == (50 : Int)) (
                    some ((↑(List.length (Prod.snd (Prod.snd (Prod.snd (Prod.snd (Prod.snd (Prod.snd y10))))))) : Int) == (0 : Int))) (
                    some (false))) (
                  some (false))) (
                Option.bind (F12 N (Prod.snd (Prod.snd (Prod.snd (Prod.snd (Prod.snd (Prod.snd y10))))))) fun y11 =>
                iteP (Prod.fst (Prod.snd (Prod.snd (Prod.snd (Prod.snd (Prod.snd y10))))) != (0 : Int)) (
                  some (false)) (
                  iteP (Prod.snd y11 != (0 : Int)) (
                    some (false)) (
                    iteP ((↑(List.length (Prod.snd (Prod.snd (Prod.snd (Prod.snd (Prod.snd (Prod.snd y10))))))) : Int) != (↑(List.length (Prod.fst (Prod.snd (Prod.snd y10)))) : Int)) (
                      some (false)) (
                      Option.bind (F5_65530 N N (Prod.fst y11, Prod.fst (Prod.snd (Prod.snd (Prod.snd y10))), Prod.fst (Prod.snd (Prod.snd (Prod.snd (Prod.snd y10)))), Prod.fst (Prod.snd (Prod.snd y10)), Prod.fst (Prod.snd y10), (0 : Int), Prod.snd (Prod.snd (Prod.snd (Prod.snd (Prod.snd (Prod.snd y10))))))) fun y12 =>
                      match y12 with
                      | .inl y13 =>
                        some (y13)
                      | .inr y13 =>
                        iteP (Prod.fst y13) (
                          iteP (decide (Prod.fst (Prod.snd y13) > (1 : Int))) (
                            iteP (Prod.snd (Prod.snd y13) == (0 : Int)) (
                              some (true)) (
                              iteP (Prod.fst (Prod.snd y13) == (1 : Int)) (
                                iteP (Prod.snd (Prod.snd y13) == (16384 : Int)) (
                                  some (true)) (
                                  iteP (Prod.fst (Prod.snd y13) == (0 : Int)) (
                                    some (Prod.snd (Prod.snd y13) == (32768 : Int))) (
                                    some (false)))) (
                                iteP (Prod.fst (Prod.snd y13) == (0 : Int)) (
                                  some (Prod.snd (Prod.snd y13) == (32768 : Int))) (
                                  some (false))))) (
                            iteP (Prod.fst (Prod.snd y13) == (1 : Int)) (
                              iteP (Prod.snd (Prod.snd y13) == (16384 : Int)) (
                                some (true)) (
                                iteP (Prod.fst (Prod.snd y13) == (0 : Int)) (
                                  some (Prod.snd (Prod.snd y13) == (32768 : Int))) (
                                  some (false)))) (
                              iteP (Prod.fst (Prod.snd y13) == (0 : Int)) (
                                some (Prod.snd (Prod.snd y13) == (32768 : Int))) (
                                some (false))))) (
                          some (false))))))))))))

theorem F5_eq (N : Nat) (x0 : (List Int)) (x1 : Int) : (fnEv (mkE Try.prog ownT (tab5 N) [(2042, (C5_2042 N N)), (65530, (C5_65530 N N))]) Try.f5 (J5 (x0, x1))).run D5 = F5 N (x0, x1) := by kernel_rfl

noncomputable def T5 (N : Nat) : Pk → Tr Pk := tell I5 (F5 N) O5

theorem T5_ok (N : Nat) : FOK Try.prog 5 (T5 N) :=
  (tell_ok (E := (mkE Try.prog ownT (tab5 N) [(2042, (C5_2042 N N)), (65530, (C5_65530 N N))])) (mkE_ok mix (tab5_ok N)) Try.func5 (show Try.f5.body = some (bod Try.f5) by kernel_rfl) (by decide +kernel) (F := F5 N) I5_ok D5_ok (args := A5) (fun _ => by kernel_rfl) (fun _ => by show 2 ≤ Try.f5.ntmps; exact of_decide_eq_true (by kernel_rfl)) (cutsIn_ok ⟨fun c' h => (C5_2042_ok N N c' h), ⟨fun c' h => (C5_65530_ok N N c' h), trivial⟩⟩) (fun x => match x with | (x0, x1) => F5_eq N x0 x1))

/-! ## f18: mirador/miradorref05.Cost -/

noncomputable def I18 : Pk → Option ((List Int) × (List Int))
  | ⟨[.ro (.int .i64) x0, .ro (.int .i64) x1], []⟩ => some (x0, x1)
  | _ => none

noncomputable def J18 (x : (List Int) × (List Int)) : Pk := ⟨[.ro (.int .i64) (x.1), .ro (.int .i64) (x.2)], []⟩

theorem I18_ok : ∀ pk x, I18 pk = some x → pk = J18 x := by
  intro pk x h
  unfold I18 at h
  split at h <;> first | (cases h; rfl) | cases h

noncomputable def A18 : List TV := []

noncomputable def tab18 (N : Nat) : List (Nat × (Pk → Tr Pk)) := []

theorem tab18_ok (N : Nat) : TabOK Try.prog (tab18 N) := trivial

def X18_58 : Ex → List Nat
  | .ret => [4]
  | .exit 0 => [5]
  | _ => []

noncomputable def I18_58 : Pk → Option (Int × Int × (List Int) × (List Int))
  | ⟨[.v (.int .i64 x0), .v (.int .i64 x1), .ro (Ty.int IntKind.i64) x2, .ro (Ty.int IntKind.i64) x3], []⟩ => some (x0, x1, x2, x3)
  | _ => none

noncomputable def J18_58 (x : Int × Int × (List Int) × (List Int)) : Pk := ⟨[.v (.int .i64 (x.1)), .v (.int .i64 (x.2.1)), .ro (Ty.int IntKind.i64) (x.2.2.1), .ro (Ty.int IntKind.i64) (x.2.2.2)], []⟩

theorem I18_58_ok : ∀ pk x, I18_58 pk = some x → pk = J18_58 x := by
  intro pk x h
  unfold I18_58 at h
  split at h <;> first | (cases h; rfl) | cases h

noncomputable def O18_58 (r : Int) : Tr (Ex × Pk) := .ret (.exit 0, ⟨[.v (.int .i64 (r))], []⟩)

noncomputable def D18_58 : Ex × Pk → Option (Int)
  | (.exit 0, ⟨[.v (.int .i64 x0)], []⟩) => some (x0)
  | _ => none

theorem D18_58_ok : ∀ y r, D18_58 y = some r → ∀ z, (O18_58 r).to z → y = z := by
  intro y r h
  unfold D18_58 at h
  split at h <;> first | (cases h; intro z hz; exact Option.some.inj hz) | cases h

noncomputable def B18_58 (N : Nat) (f : (Int × Int × (List Int) × (List Int)) → Option (Int)) : (Int × Int × (List Int) × (List Int)) → Option (Int)
  | (x0, x1, x2, x3) =>
  iteP (decide (x1 < (↑(List.length x2) : Int))) (
    iteP (within x1 (List.length x2)) (
      Option.bind (x2[Int.toNat x1]?) fun y0 =>
      iteP (within x1 (List.length x3)) (
        Option.bind (x3[Int.toNat x1]?) fun y1 =>
        Option.bind (f (IntKind.wrap IntKind.i64 (x0 + IntKind.wrap IntKind.i64 (y0 * y1)), IntKind.wrap IntKind.i64 (x1 + (1 : Int)), x2, x3)) fun r => some r) (
        none)) (
      none)) (
    some (x0))

noncomputable def F18_58 (N : Nat) : Nat → (Int × Int × (List Int) × (List Int)) → Option (Int)
  | 0, _ => none
  | k + 1, x => B18_58 N (F18_58 N k) x

noncomputable def C18_58 (N : Nat) (k : Nat) : Cut := ⟨[5, 6, 0, 1], X18_58, tellX I18_58 (F18_58 N k) O18_58⟩

theorem B18_58_eq (N : Nat) (f : (Int × Int × (List Int) × (List Int)) → Option (Int)) (x0 : Int) (x1 : Int) (x2 : (List Int)) (x3 : (List Int)) : (roundEv (mkE Try.prog ownT (tab18 N) []) Try.f18.ntmps A18 (loopAt (bod Try.f18) 58) 58 ⟨[5, 6, 0, 1], X18_58, tellX I18_58 f O18_58⟩ (J18_58 (x0, x1, x2, x3))).run D18_58 = B18_58 N f (x0, x1, x2, x3) := by kernel_rfl

theorem C18_58_ok (N : Nat) (k : Nat) : ∀ c', At (bod Try.f18) 58 c' → CutOK Try.prog Try.f18.ntmps (idsL A18) c' (C18_58 N k) :=
  loop_ok (E := (mkE Try.prog ownT (tab18 N) [])) (mkE_ok mix (tab18_ok N)) (cutsIn_ok trivial) (fuel := 200) (by decide +kernel) (by kernel_rfl) I18_58_ok D18_58_ok (B18_58 N) (F18_58 N) (fun _ => rfl) (fun _ _ => rfl) (fun f x => match x with | (x0, x1, x2, x3) => B18_58_eq N f x0 x1 x2 x3) k

noncomputable def O18 (r : Int) : Tr (Pk) := .ret ⟨[.v (.int .i64 (r))], []⟩

noncomputable def D18 : Pk → Option (Int)
  | ⟨[.v (.int .i64 x0)], []⟩ => some (x0)
  | _ => none

theorem D18_ok : ∀ y r, D18 y = some r → ∀ z, (O18 r).to z → y = z := by
  intro y r h
  unfold D18 at h
  split at h <;> first | (cases h; intro z hz; exact Option.some.inj hz) | cases h

noncomputable def F18 (N : Nat) : ((List Int) × (List Int)) → Option (Int)
  | (x0, x1) =>
  Option.bind (F18_58 N N ((0 : Int), (0 : Int), x0, x1)) fun y0 =>
  some (y0)

theorem F18_eq (N : Nat) (x0 : (List Int)) (x1 : (List Int)) : (fnEv (mkE Try.prog ownT (tab18 N) [(58, (C18_58 N N))]) Try.f18 (J18 (x0, x1))).run D18 = F18 N (x0, x1) := by kernel_rfl

noncomputable def T18 (N : Nat) : Pk → Tr Pk := tell I18 (F18 N) O18

theorem T18_ok (N : Nat) : FOK Try.prog 18 (T18 N) :=
  (tell_ok (E := (mkE Try.prog ownT (tab18 N) [(58, (C18_58 N N))])) (mkE_ok mix (tab18_ok N)) Try.func18 (show Try.f18.body = some (bod Try.f18) by kernel_rfl) (by decide +kernel) (F := F18 N) I18_ok D18_ok (args := A18) (fun _ => by kernel_rfl) (fun _ => by show 2 ≤ Try.f18.ntmps; exact of_decide_eq_true (by kernel_rfl)) (cutsIn_ok ⟨fun c' h => (C18_58_ok N N c' h), trivial⟩) (fun x => match x with | (x0, x1) => F18_eq N x0 x1))

/-! ## f19: mirador/miradorref05.Least -/

noncomputable def I19 : Pk → Option ((List Int) × Int × Int × Int)
  | ⟨[.ro (.int .i64) x0, .v (.int .i64 x1), .v (.int .i64 x2), .v (.int .i64 x3)], []⟩ => some (x0, x1, x2, x3)
  | _ => none

noncomputable def J19 (x : (List Int) × Int × Int × Int) : Pk := ⟨[.ro (.int .i64) (x.1), .v (.int .i64 (x.2.1)), .v (.int .i64 (x.2.2.1)), .v (.int .i64 (x.2.2.2))], []⟩

theorem I19_ok : ∀ pk x, I19 pk = some x → pk = J19 x := by
  intro pk x h
  unfold I19 at h
  split at h <;> first | (cases h; rfl) | cases h

noncomputable def A19 : List TV := []

noncomputable def O19 (r : Int) : Tr (Pk) := .ret ⟨[.v (.int .i64 (r))], []⟩

noncomputable def D19 : Pk → Option (Int)
  | ⟨[.v (.int .i64 x0)], []⟩ => some (x0)
  | _ => none

noncomputable def tab19 (N : Nat) (G : ((List Int) × Int × Int × Int) → Option (Int)) : List (Nat × (Pk → Tr Pk)) := [(19, tell I19 G O19), (37, T37 N)]

theorem tab19_ok (N : Nat) (G : ((List Int) × Int × Int × Int) → Option (Int)) (hG : FOK Try.prog 19 (tell I19 G O19)) : TabOK Try.prog (tab19 N G) := ⟨hG, ⟨T37_ok N, trivial⟩⟩

def X19_122 : Ex → List Nat
  | .ret => [8]
  | .exit 0 => [9]
  | _ => []

noncomputable def I19_122 : Pk → Option (Int × Int × (List Int) × Int × Int × Int)
  | ⟨[.v (.int .i64 x0), .v (.int .i64 x1), .ro (Ty.int IntKind.i64) x2, .v (.int .i64 x3), .v (.int .i64 x4), .v (.int .i64 x5)], []⟩ => some (x0, x1, x2, x3, x4, x5)
  | _ => none

noncomputable def J19_122 (x : Int × Int × (List Int) × Int × Int × Int) : Pk := ⟨[.v (.int .i64 (x.1)), .v (.int .i64 (x.2.1)), .ro (Ty.int IntKind.i64) (x.2.2.1), .v (.int .i64 (x.2.2.2.1)), .v (.int .i64 (x.2.2.2.2.1)), .v (.int .i64 (x.2.2.2.2.2))], []⟩

theorem I19_122_ok : ∀ pk x, I19_122 pk = some x → pk = J19_122 x := by
  intro pk x h
  unfold I19_122 at h
  split at h <;> first | (cases h; rfl) | cases h

noncomputable def O19_122 (r : Int) : Tr (Ex × Pk) := .ret (.exit 0, ⟨[.v (.int .i64 (r))], []⟩)

noncomputable def D19_122 : Ex × Pk → Option (Int)
  | (.exit 0, ⟨[.v (.int .i64 x0)], []⟩) => some (x0)
  | _ => none

theorem D19_122_ok : ∀ y r, D19_122 y = some r → ∀ z, (O19_122 r).to z → y = z := by
  intro y r h
  unfold D19_122 at h
  split at h <;> first | (cases h; intro z hz; exact Option.some.inj hz) | cases h

noncomputable def B19_122 (N : Nat) (G : ((List Int) × Int × Int × Int) → Option (Int)) (f : (Int × Int × (List Int) × Int × Int × Int) → Option (Int)) : (Int × Int × (List Int) × Int × Int × Int) → Option (Int)
  | (x0, x1, x2, x3, x4, x5) =>
  iteP (decide (x0 ≤ x5)) (
    Option.bind (F37 N (IntKind.wrap IntKind.i64 ((15 : Int) - x0))) fun y0 =>
    iteP (decide (y0 > x4)) (
      Option.bind (f (IntKind.wrap IntKind.i64 (x0 + (1 : Int)), x1, x2, x3, x4, x5)) fun r => some r) (
      Option.bind (G (x2, IntKind.wrap IntKind.i64 (x1 + (1 : Int)), x5, IntKind.wrap IntKind.i64 (x4 - y0))) fun y1 =>
      iteP (decide (y1 ≥ (0 : Int))) (
        iteP (decide (x3 < (0 : Int))) (
          iteP (within x1 (List.length x2)) (
            Option.bind (x2[Int.toNat x1]?) fun y2 =>
            Option.bind (f (IntKind.wrap IntKind.i64 (x0 + (1 : Int)), x1, x2, IntKind.wrap IntKind.i64 (y1 + IntKind.wrap IntKind.i64 (y2 * x0)), x4, x5)) fun r => some r) (
            none)) (
          iteP (within x1 (List.length x2)) (
            Option.bind (x2[Int.toNat x1]?) fun y3 =>
            iteP (decide (IntKind.wrap IntKind.i64 (y1 + IntKind.wrap IntKind.i64 (y3 * x0)) < x3)) (
              iteP (within x1 (List.length x2)) (
                Option.bind (x2[Int.toNat x1]?) fun y4 =>
                Option.bind (f (IntKind.wrap IntKind.i64 (x0 + (1 : Int)), x1, x2, IntKind.wrap IntKind.i64 (y1 + IntKind.wrap IntKind.i64 (y4 * x0)), x4, x5)) fun r => some r) (
                none)) (
              Option.bind (f (IntKind.wrap IntKind.i64 (x0 + (1 : Int)), x1, x2, x3, x4, x5)) fun r => some r)) (
            none))) (
        Option.bind (f (IntKind.wrap IntKind.i64 (x0 + (1 : Int)), x1, x2, x3, x4, x5)) fun r => some r))) (
    some (x3))

noncomputable def F19_122 (N : Nat) (G : ((List Int) × Int × Int × Int) → Option (Int)) : Nat → (Int × Int × (List Int) × Int × Int × Int) → Option (Int)
  | 0, _ => none
  | k + 1, x => B19_122 N G (F19_122 N G k) x

noncomputable def C19_122 (N : Nat) (G : ((List Int) × Int × Int × Int) → Option (Int)) (k : Nat) : Cut := ⟨[10, 1, 0, 9, 3, 2], X19_122, tellX I19_122 (F19_122 N G k) O19_122⟩

theorem B19_122_eq (N : Nat) (G : ((List Int) × Int × Int × Int) → Option (Int)) (f : (Int × Int × (List Int) × Int × Int × Int) → Option (Int)) (x0 : Int) (x1 : Int) (x2 : (List Int)) (x3 : Int) (x4 : Int) (x5 : Int) : (roundEv (mkE Try.prog ownT (tab19 N G) []) Try.f19.ntmps A19 (loopAt (bod Try.f19) 122) 122 ⟨[10, 1, 0, 9, 3, 2], X19_122, tellX I19_122 f O19_122⟩ (J19_122 (x0, x1, x2, x3, x4, x5))).run D19_122 = B19_122 N G f (x0, x1, x2, x3, x4, x5) := by kernel_rfl

theorem C19_122_ok (N : Nat) (G : ((List Int) × Int × Int × Int) → Option (Int)) (hG : FOK Try.prog 19 (tell I19 G O19)) (k : Nat) : ∀ c', At (bod Try.f19) 122 c' → CutOK Try.prog Try.f19.ntmps (idsL A19) c' (C19_122 N G k) :=
  loop_ok (E := (mkE Try.prog ownT (tab19 N G) [])) (mkE_ok mix (tab19_ok N G hG)) (cutsIn_ok trivial) (fuel := 200) (by decide +kernel) (by kernel_rfl) I19_122_ok D19_122_ok (B19_122 N G) (F19_122 N G) (fun _ => rfl) (fun _ _ => rfl) (fun f x => match x with | (x0, x1, x2, x3, x4, x5) => B19_122_eq N G f x0 x1 x2 x3 x4 x5) k

theorem D19_ok : ∀ y r, D19 y = some r → ∀ z, (O19 r).to z → y = z := by
  intro y r h
  unfold D19 at h
  split at h <;> first | (cases h; intro z hz; exact Option.some.inj hz) | cases h

noncomputable def F19g (N : Nat) (G : ((List Int) × Int × Int × Int) → Option (Int)) : ((List Int) × Int × Int × Int) → Option (Int)
  | (x0, x1, x2, x3) =>
  iteP (x1 == (↑(List.length x0) : Int)) (
    some ((0 : Int))) (
    Option.bind (F19_122 N G N ((1 : Int), x1, x0, (-1 : Int), x3, x2)) fun y0 =>
    some (y0))

noncomputable def F19k (N : Nat) : Nat → ((List Int) × Int × Int × Int) → Option (Int)
  | 0, _ => none
  | k + 1, x => F19g N (F19k N k) x

noncomputable def F19 (N : Nat) : ((List Int) × Int × Int × Int) → Option (Int) := F19k N N

theorem F19_eq (N : Nat) (G : ((List Int) × Int × Int × Int) → Option (Int)) (x0 : (List Int)) (x1 : Int) (x2 : Int) (x3 : Int) : (fnEv (mkE Try.prog ownT (tab19 N G) [(122, (C19_122 N G N))]) Try.f19 (J19 (x0, x1, x2, x3))).run D19 = F19g N G (x0, x1, x2, x3) := by kernel_rfl

noncomputable def T19 (N : Nat) : Pk → Tr Pk := tell I19 (F19 N) O19

theorem T19_rec (N : Nat) : ∀ k, FOK Try.prog 19 (tell I19 (F19k N k) O19)
  | 0 => tell_none fun _ => rfl
  | k + 1 => tell_ok (E := (mkE Try.prog ownT (tab19 N (F19k N k)) [(122, (C19_122 N (F19k N k) N))])) (mkE_ok mix (tab19_ok N (F19k N k) (T19_rec N k))) Try.func19 (show Try.f19.body = some (bod Try.f19) by kernel_rfl) (by decide +kernel) (F := F19k N (k + 1)) I19_ok D19_ok (args := A19) (fun _ => by kernel_rfl) (fun _ => by show 4 ≤ Try.f19.ntmps; exact of_decide_eq_true (by kernel_rfl)) (cutsIn_ok ⟨fun c' h => (C19_122_ok N (F19k N k) (T19_rec N k) N c' h), trivial⟩) (fun x => match x with | (x0, x1, x2, x3) => F19_eq N (F19k N k) x0 x1 x2 x3)

theorem T19_ok (N : Nat) : FOK Try.prog 19 (T19 N) :=
  (T19_rec N N)


end Go.Proofs.Ytpjkklailofkjaa.Am

set_option linter.unusedVariables false
set_option maxRecDepth 100000
namespace Go.Proofs.Ytpjkklailofkjaa.Am
open Go.Am

/-! ## f6: mirador/miradorlaw05.HuffmanBest -/

noncomputable def I6 : Pk → Option ((List Int) × Int)
  | ⟨[.ro (.int .i64) x0, .v (.int .i64 x1)], []⟩ => some (x0, x1)
  | _ => none

noncomputable def J6 (x : (List Int) × Int) : Pk := ⟨[.ro (.int .i64) (x.1), .v (.int .i64 (x.2))], []⟩

theorem I6_ok : ∀ pk x, I6 pk = some x → pk = J6 x := by
  intro pk x h
  unfold I6 at h
  split at h <;> first | (cases h; rfl) | cases h

noncomputable def A6 : List TV := []

noncomputable def tab6 (N : Nat) : List (Nat × (Pk → Tr Pk)) := [(11, T11 N), (17, T17 N), (18, T18 N), (19, T19 N)]

theorem tab6_ok (N : Nat) : TabOK Try.prog (tab6 N) := ⟨T11_ok N, ⟨T17_ok N, ⟨T18_ok N, ⟨T19_ok N, trivial⟩⟩⟩⟩

def X6_506 : Ex → List Nat
  | .ret => [4]
  | .exit 0 => [0, 5, 6, 1]
  | _ => []

noncomputable def I6_506 : Pk → Option (Int × (List Int) × Int × Bool × (List Int))
  | ⟨[.v (.int .i64 x0), .ro (Ty.int IntKind.i64) x1, .v (.int .i64 x2), .sl 0 (none), .v (.bool x3)], [some (.row (Ty.int IntKind.i64) 3 x4)]⟩ => some (x0, x1, x2, x3, x4)
  | _ => none

noncomputable def J6_506 (x : Int × (List Int) × Int × Bool × (List Int)) : Pk := ⟨[.v (.int .i64 (x.1)), .ro (Ty.int IntKind.i64) (x.2.1), .v (.int .i64 (x.2.2.1)), .sl 0 (none), .v (.bool (x.2.2.2.1))], [some (.row (Ty.int IntKind.i64) 3 (x.2.2.2.2))]⟩

theorem I6_506_ok : ∀ pk x, I6_506 pk = some x → pk = J6_506 x := by
  intro pk x h
  unfold I6_506 at h
  split at h <;> first | (cases h; rfl) | cases h

noncomputable def O6_506 (r : ((Bool) ⊕ ((List Int) × Bool × Int × (List Int)))) : Tr (Ex × Pk) := .sum _ _ r (fun u => .ret (.ret, ⟨[.v (.bool (u))], []⟩)) (fun v => .ret (.exit 0, ⟨[.ro (Ty.int IntKind.i64) (v.1), .v (.bool (v.2.1)), .sl 0 (none), .v (.int .i64 (v.2.2.1))], [some (.row (Ty.int IntKind.i64) 3 (v.2.2.2))]⟩))

noncomputable def D6_506 : Ex × Pk → Option (((Bool) ⊕ ((List Int) × Bool × Int × (List Int))))
  | (.ret, ⟨[.v (.bool x0)], []⟩) => some (.inl (x0))
  | (.exit 0, ⟨[.ro (Ty.int IntKind.i64) x0, .v (.bool x1), .sl 0 (none), .v (.int .i64 x2)], [some (.row (Ty.int IntKind.i64) 3 x3)]⟩) => some (.inr ((x0, x1, x2, x3)))
  | _ => none

theorem D6_506_ok : ∀ y r, D6_506 y = some r → ∀ z, (O6_506 r).to z → y = z := by
  intro y r h
  unfold D6_506 at h
  split at h <;> first | (cases h; intro z hz; exact Option.some.inj hz) | cases h

noncomputable def B6_506 (N : Nat) (f : (Int × (List Int) × Int × Bool × (List Int)) → Option (((Bool) ⊕ ((List Int) × Bool × Int × (List Int))))) : (Int × (List Int) × Int × Bool × (List Int)) → Option (((Bool) ⊕ ((List Int) × Bool × Int × (List Int))))
  | (x0, x1, x2, x3, x4) =>
  iteP (decide (x2 < (↑(List.length x1) : Int))) (
    iteP (within x2 (List.length x1)) (
      Option.bind (x1[Int.toNat x2]?) fun y0 =>
      iteP (decide (y0 < (0 : Int))) (
        some (.inl (x3))) (
        iteP (within x2 (List.length x1)) (
          Option.bind (x1[Int.toNat x2]?) fun y1 =>
          iteP (decide (y1 > (1073741824 : Int))) (
            some (.inl (x3))) (
            iteP (within x2 (List.length x1)) (
              Option.bind (x1[Int.toNat x2]?) fun y2 =>
              iteP (decide (y2 > (0 : Int))) (
                iteP (within x2 (List.length x1)) (
                  Option.bind (x1[Int.toNat x2]?) fun y3 =>
                  iteP (decide ((List.length x4 + List.length [y3]) * (8 : Nat) ≤ (140737488355328 : Nat) ∧ List.length x4 + List.length [y3] ≤ (140737488355328 : Nat))) (
                    Option.bind (f (x0, x1, IntKind.wrap IntKind.i64 (x2 + (1 : Int)), x3, x4 ++ [y3])) fun r => match r with | .inl (y) => some (.inl (y)) | .inr (y) => some (.inr (y))) (
                    none)) (
                  none)) (
                Option.bind (f (x0, x1, IntKind.wrap IntKind.i64 (x2 + (1 : Int)), x3, x4)) fun r => match r with | .inl (y) => some (.inl (y)) | .inr (y) => some (.inr (y)))) (
              none))) (
          none))) (
      none)) (
    some (.inr ((x1, x3, x0, x4))))

noncomputable def F6_506 (N : Nat) : Nat → (Int × (List Int) × Int × Bool × (List Int)) → Option (((Bool) ⊕ ((List Int) × Bool × Int × (List Int))))
  | 0, _ => none
  | k + 1, x => B6_506 N (F6_506 N k) x

noncomputable def C6_506 (N : Nat) (k : Nat) : Cut := ⟨[1, 0, 7, 6, 5], X6_506, tellX I6_506 (F6_506 N k) O6_506⟩

theorem B6_506_eq (N : Nat) (f : (Int × (List Int) × Int × Bool × (List Int)) → Option (((Bool) ⊕ ((List Int) × Bool × Int × (List Int))))) (x0 : Int) (x1 : (List Int)) (x2 : Int) (x3 : Bool) (x4 : (List Int)) : (roundEv (mkE Try.prog ownT (tab6 N) []) Try.f6.ntmps A6 (loopAt (bod Try.f6) 506) 506 ⟨[1, 0, 7, 6, 5], X6_506, tellX I6_506 f O6_506⟩ (J6_506 (x0, x1, x2, x3, x4))).run D6_506 = B6_506 N f (x0, x1, x2, x3, x4) := by kernel_rfl

theorem C6_506_ok (N : Nat) (k : Nat) : ∀ c', At (bod Try.f6) 506 c' → CutOK Try.prog Try.f6.ntmps (idsL A6) c' (C6_506 N k) :=
  loop_ok (E := (mkE Try.prog ownT (tab6 N) [])) (mkE_ok mix (tab6_ok N)) (cutsIn_ok trivial) (fuel := 200) (by decide +kernel) (by kernel_rfl) I6_506_ok D6_506_ok (B6_506 N) (F6_506 N) (fun _ => rfl) (fun _ _ => rfl) (fun f x => match x with | (x0, x1, x2, x3, x4) => B6_506_eq N f x0 x1 x2 x3 x4) k

noncomputable def O6 (r : Bool) : Tr (Pk) := .ret ⟨[.v (.bool (r))], []⟩

noncomputable def D6 : Pk → Option (Bool)
  | ⟨[.v (.bool x0)], []⟩ => some (x0)
  | _ => none

theorem D6_ok : ∀ y r, D6 y = some r → ∀ z, (O6 r).to z → y = z := by
  intro y r h
  unfold D6 at h
  split at h <;> first | (cases h; intro z hz; exact Option.some.inj hz) | cases h

noncomputable def F6 (N : Nat) : ((List Int) × Int) → Option (Bool)
  | (x0, x1) =>
  Option.bind (F11 N ()) fun y0 =>
  iteP (!y0) (
    some (false)) (
    iteP (decide ((↑(List.length x0) : Int) > (6 : Int))) (
      some (y0)) (
      iteP (decide (x1 < (1 : Int))) (
        some (y0)) (
        iteP (decide (x1 > (6 : Int))) (
          some (y0)) (
          Option.bind (F6_506 N N (x1, x0, (0 : Int), y0, [])) fun y1 =>
          match y1 with
          | .inl y2 =>
            some (y2)
          | .inr y2 =>
            Option.bind (F17 N (Prod.fst y2, Prod.fst (Prod.snd (Prod.snd y2)))) fun y3 =>
            iteP (Prod.fst y3 != (0 : Int)) (
              iteP (Prod.fst (Prod.snd y2)) (
                iteP (Prod.fst y3 == (0 : Int)) (
                  some (true)) (
                  iteP (decide (Prod.fst (Prod.snd (Prod.snd y2)) < (0 : Int))) (
                    none) (
                    some (decide ((↑(List.length (Prod.snd (Prod.snd (Prod.snd y2)))) : Int) > IntKind.wrap IntKind.i64 ((1 : Int) * (2 : Int) ^ min (Int.toNat (Prod.fst (Prod.snd (Prod.snd y2)))) (64 : Nat))))))) (
                some (false))) (
              iteP (decide ((↑(List.length (Prod.snd (Prod.snd (Prod.snd y2)))) : Int) < (2 : Int))) (
                iteP (Prod.fst (Prod.snd y2)) (
                  iteP (Prod.fst y3 == (0 : Int)) (
                    some (true)) (
                    iteP (decide (Prod.fst (Prod.snd (Prod.snd y2)) < (0 : Int))) (
                      none) (
                      some (decide ((↑(List.length (Prod.snd (Prod.snd (Prod.snd y2)))) : Int) > IntKind.wrap IntKind.i64 ((1 : Int) * (2 : Int) ^ min (Int.toNat (Prod.fst (Prod.snd (Prod.snd y2)))) (64 : Nat))))))) (
                  some (false))) (
                iteP (Prod.fst (Prod.snd y2)) (
                  iteP ((↑(List.length (Prod.snd y3)) : Int) == (↑(List.length (Prod.fst y2)) : Int)) (
                    Option.bind (F18 N (Prod.fst y2, Prod.snd y3)) fun y4 =>
                    Option.bind (F19 N (Prod.snd (Prod.snd (Prod.snd y2)), (0 : Int), Prod.fst (Prod.snd (Prod.snd y2)), (32768 : Int))) fun y5 =>
                    some (y4 == y5)) (
                    some (false))) (
                  some (false))))))))

theorem F6_eq (N : Nat) (x0 : (List Int)) (x1 : Int) : (fnEv (mkE Try.prog ownT (tab6 N) [(506, (C6_506 N N))]) Try.f6 (J6 (x0, x1))).run D6 = F6 N (x0, x1) := by kernel_rfl

noncomputable def T6 (N : Nat) : Pk → Tr Pk := tell I6 (F6 N) O6

theorem T6_ok (N : Nat) : FOK Try.prog 6 (T6 N) :=
  (tell_ok (E := (mkE Try.prog ownT (tab6 N) [(506, (C6_506 N N))])) (mkE_ok mix (tab6_ok N)) Try.func6 (show Try.f6.body = some (bod Try.f6) by kernel_rfl) (by decide +kernel) (F := F6 N) I6_ok D6_ok (args := A6) (fun _ => by kernel_rfl) (fun _ => by show 2 ≤ Try.f6.ntmps; exact of_decide_eq_true (by kernel_rfl)) (cutsIn_ok ⟨fun c' h => (C6_506_ok N N c' h), trivial⟩) (fun x => match x with | (x0, x1) => F6_eq N x0 x1))

/-! ## f7: mirador/miradorlaw05.HuffmanScale -/

noncomputable def I7 : Pk → Option ((List Int) × Int × Int)
  | ⟨[.ro (.int .i64) x0, .v (.int .i64 x1), .v (.int .i64 x2)], []⟩ => some (x0, x1, x2)
  | _ => none

noncomputable def J7 (x : (List Int) × Int × Int) : Pk := ⟨[.ro (.int .i64) (x.1), .v (.int .i64 (x.2.1)), .v (.int .i64 (x.2.2))], []⟩

theorem I7_ok : ∀ pk x, I7 pk = some x → pk = J7 x := by
  intro pk x h
  unfold I7 at h
  split at h <;> first | (cases h; rfl) | cases h

noncomputable def A7 : List TV := []

noncomputable def tab7 (N : Nat) : List (Nat × (Pk → Tr Pk)) := [(11, T11 N), (17, T17 N), (18, T18 N)]

theorem tab7_ok (N : Nat) : TabOK Try.prog (tab7 N) := ⟨T11_ok N, ⟨T17_ok N, ⟨T18_ok N, trivial⟩⟩⟩

def X7_506 : Ex → List Nat
  | .ret => [6]
  | .exit 0 => [1, 7, 2, 8, 0]
  | _ => []

noncomputable def I7_506 : Pk → Option (Int × Int × (List Int) × Int × Bool × (List Int))
  | ⟨[.v (.int .i64 x0), .v (.int .i64 x1), .ro (Ty.int IntKind.i64) x2, .v (.int .i64 x3), .sl 0 (none), .v (.bool x4)], [some (.row (Ty.int IntKind.i64) 3 x5)]⟩ => some (x0, x1, x2, x3, x4, x5)
  | _ => none

noncomputable def J7_506 (x : Int × Int × (List Int) × Int × Bool × (List Int)) : Pk := ⟨[.v (.int .i64 (x.1)), .v (.int .i64 (x.2.1)), .ro (Ty.int IntKind.i64) (x.2.2.1), .v (.int .i64 (x.2.2.2.1)), .sl 0 (none), .v (.bool (x.2.2.2.2.1))], [some (.row (Ty.int IntKind.i64) 3 (x.2.2.2.2.2))]⟩

theorem I7_506_ok : ∀ pk x, I7_506 pk = some x → pk = J7_506 x := by
  intro pk x h
  unfold I7_506 at h
  split at h <;> first | (cases h; rfl) | cases h

noncomputable def O7_506 (r : ((Bool) ⊕ (Int × Bool × Int × (List Int) × (List Int)))) : Tr (Ex × Pk) := .sum _ _ r (fun u => .ret (.ret, ⟨[.v (.bool (u))], []⟩)) (fun v => .ret (.exit 0, ⟨[.v (.int .i64 (v.1)), .v (.bool (v.2.1)), .v (.int .i64 (v.2.2.1)), .sl 0 (none), .ro (Ty.int IntKind.i64) (v.2.2.2.1)], [some (.row (Ty.int IntKind.i64) 3 (v.2.2.2.2))]⟩))

noncomputable def D7_506 : Ex × Pk → Option (((Bool) ⊕ (Int × Bool × Int × (List Int) × (List Int))))
  | (.ret, ⟨[.v (.bool x0)], []⟩) => some (.inl (x0))
  | (.exit 0, ⟨[.v (.int .i64 x0), .v (.bool x1), .v (.int .i64 x2), .sl 0 (none), .ro (Ty.int IntKind.i64) x3], [some (.row (Ty.int IntKind.i64) 3 x4)]⟩) => some (.inr ((x0, x1, x2, x3, x4)))
  | _ => none

theorem D7_506_ok : ∀ y r, D7_506 y = some r → ∀ z, (O7_506 r).to z → y = z := by
  intro y r h
  unfold D7_506 at h
  split at h <;> first | (cases h; intro z hz; exact Option.some.inj hz) | cases h

noncomputable def B7_506 (N : Nat) (f : (Int × Int × (List Int) × Int × Bool × (List Int)) → Option (((Bool) ⊕ (Int × Bool × Int × (List Int) × (List Int))))) : (Int × Int × (List Int) × Int × Bool × (List Int)) → Option (((Bool) ⊕ (Int × Bool × Int × (List Int) × (List Int))))
  | (x0, x1, x2, x3, x4, x5) =>
  iteP (decide (x3 < (↑(List.length x2) : Int))) (
    iteP (within x3 (List.length x2)) (
      Option.bind (x2[Int.toNat x3]?) fun y0 =>
      iteP (decide (y0 < (0 : Int))) (
        some (.inl (x4))) (
        iteP (within x3 (List.length x2)) (
          Option.bind (x2[Int.toNat x3]?) fun y1 =>
          iteP (decide (y1 > (1000000 : Int))) (
            some (.inl (x4))) (
            iteP (within x3 (List.length x2)) (
              Option.bind (x2[Int.toNat x3]?) fun y2 =>
              iteP (decide ((List.length x5 + List.length [IntKind.wrap IntKind.i64 (y2 * x1)]) * (8 : Nat) ≤ (140737488355328 : Nat) ∧ List.length x5 + List.length [IntKind.wrap IntKind.i64 (y2 * x1)] ≤ (140737488355328 : Nat))) (
                Option.bind (f (x0, x1, x2, IntKind.wrap IntKind.i64 (x3 + (1 : Int)), x4, x5 ++ [IntKind.wrap IntKind.i64 (y2 * x1)])) fun r => match r with | .inl (y) => some (.inl (y)) | .inr (y) => some (.inr (y))) (
                none)) (
              none))) (
          none))) (
      none)) (
    some (.inr ((x0, x4, x1, x2, x5))))

noncomputable def F7_506 (N : Nat) : Nat → (Int × Int × (List Int) × Int × Bool × (List Int)) → Option (((Bool) ⊕ (Int × Bool × Int × (List Int) × (List Int))))
  | 0, _ => none
  | k + 1, x => B7_506 N (F7_506 N k) x

noncomputable def C7_506 (N : Nat) (k : Nat) : Cut := ⟨[1, 2, 0, 9, 8, 7], X7_506, tellX I7_506 (F7_506 N k) O7_506⟩

theorem B7_506_eq (N : Nat) (f : (Int × Int × (List Int) × Int × Bool × (List Int)) → Option (((Bool) ⊕ (Int × Bool × Int × (List Int) × (List Int))))) (x0 : Int) (x1 : Int) (x2 : (List Int)) (x3 : Int) (x4 : Bool) (x5 : (List Int)) : (roundEv (mkE Try.prog ownT (tab7 N) []) Try.f7.ntmps A7 (loopAt (bod Try.f7) 506) 506 ⟨[1, 2, 0, 9, 8, 7], X7_506, tellX I7_506 f O7_506⟩ (J7_506 (x0, x1, x2, x3, x4, x5))).run D7_506 = B7_506 N f (x0, x1, x2, x3, x4, x5) := by kernel_rfl

theorem C7_506_ok (N : Nat) (k : Nat) : ∀ c', At (bod Try.f7) 506 c' → CutOK Try.prog Try.f7.ntmps (idsL A7) c' (C7_506 N k) :=
  loop_ok (E := (mkE Try.prog ownT (tab7 N) [])) (mkE_ok mix (tab7_ok N)) (cutsIn_ok trivial) (fuel := 200) (by decide +kernel) (by kernel_rfl) I7_506_ok D7_506_ok (B7_506 N) (F7_506 N) (fun _ => rfl) (fun _ _ => rfl) (fun f x => match x with | (x0, x1, x2, x3, x4, x5) => B7_506_eq N f x0 x1 x2 x3 x4 x5) k

noncomputable def O7 (r : Bool) : Tr (Pk) := .ret ⟨[.v (.bool (r))], []⟩

noncomputable def D7 : Pk → Option (Bool)
  | ⟨[.v (.bool x0)], []⟩ => some (x0)
  | _ => none

theorem D7_ok : ∀ y r, D7 y = some r → ∀ z, (O7 r).to z → y = z := by
  intro y r h
  unfold D7 at h
  split at h <;> first | (cases h; intro z hz; exact Option.some.inj hz) | cases h

noncomputable def F7 (N : Nat) : ((List Int) × Int × Int) → Option (Bool)
  | (x0, x1, x2) =>
  Option.bind (F11 N ()) fun y0 =>
  iteP (!y0) (
    some (false)) (
    iteP (decide ((↑(List.length x0) : Int) > (340 : Int))) (
      some (y0)) (
      iteP (decide (x2 < (1 : Int))) (
        some (y0)) (
        iteP (decide (x2 > (100 : Int))) (
          some (y0)) (
          Option.bind (F7_506 N N (x1, x2, x0, (0 : Int), y0, [])) fun y1 =>
          match y1 with
          | .inl y2 =>
            some (y2)
          | .inr y2 =>
            Option.bind (F17 N (Prod.fst (Prod.snd (Prod.snd (Prod.snd y2))), Prod.fst y2)) fun y3 =>
            Option.bind (F17 N (Prod.snd (Prod.snd (Prod.snd (Prod.snd y2))), Prod.fst y2)) fun y4 =>
            iteP (Prod.fst y3 != Prod.fst y4) (
              some (false)) (
              iteP ((↑(List.length (Prod.snd y3)) : Int) != (↑(List.length (Prod.snd y4)) : Int)) (
                some (false)) (
                iteP (Prod.fst y3 != (0 : Int)) (
                  some (Prod.fst (Prod.snd y2))) (
                  iteP (Prod.fst (Prod.snd y2)) (
                    Option.bind (F18 N (Prod.fst (Prod.snd (Prod.snd (Prod.snd y2))), Prod.snd y3)) fun y5 =>
                    Option.bind (F18 N (Prod.snd (Prod.snd (Prod.snd (Prod.snd y2))), Prod.snd y4)) fun y6 =>
                    iteP (IntKind.wrap IntKind.i64 (y5 * Prod.fst (Prod.snd (Prod.snd y2))) == y6) (
                      Option.bind (F18 N (Prod.fst (Prod.snd (Prod.snd (Prod.snd y2))), Prod.snd y3)) fun y7 =>
                      Option.bind (F18 N (Prod.fst (Prod.snd (Prod.snd (Prod.snd y2))), Prod.snd y4)) fun y8 =>
                      some (y7 == y8)) (
                      some (false))) (
                    some (false)))))))))

theorem F7_eq (N : Nat) (x0 : (List Int)) (x1 : Int) (x2 : Int) : (fnEv (mkE Try.prog ownT (tab7 N) [(506, (C7_506 N N))]) Try.f7 (J7 (x0, x1, x2))).run D7 = F7 N (x0, x1, x2) := by kernel_rfl

noncomputable def T7 (N : Nat) : Pk → Tr Pk := tell I7 (F7 N) O7

theorem T7_ok (N : Nat) : FOK Try.prog 7 (T7 N) :=
  (tell_ok (E := (mkE Try.prog ownT (tab7 N) [(506, (C7_506 N N))])) (mkE_ok mix (tab7_ok N)) Try.func7 (show Try.f7.body = some (bod Try.f7) by kernel_rfl) (by decide +kernel) (F := F7 N) I7_ok D7_ok (args := A7) (fun _ => by kernel_rfl) (fun _ => by show 3 ≤ Try.f7.ntmps; exact of_decide_eq_true (by kernel_rfl)) (cutsIn_ok ⟨fun c' h => (C7_506_ok N N c' h), trivial⟩) (fun x => match x with | (x0, x1, x2) => F7_eq N x0 x1 x2))

/-! ## f78: mirador/symbols.extra -/

noncomputable def I78 : Pk → Option (Int × Int × Int)
  | ⟨[.v (.int .i64 x0), .v (.int .i64 x1), .v (.int .i64 x2)], []⟩ => some (x0, x1, x2)
  | _ => none

noncomputable def J78 (x : Int × Int × Int) : Pk := ⟨[.v (.int .i64 (x.1)), .v (.int .i64 (x.2.1)), .v (.int .i64 (x.2.2))], []⟩

theorem I78_ok : ∀ pk x, I78 pk = some x → pk = J78 x := by
  intro pk x h
  unfold I78 at h
  split at h <;> first | (cases h; rfl) | cases h

noncomputable def A78 : List TV := []

noncomputable def tab78 (N : Nat) : List (Nat × (Pk → Tr Pk)) := []

theorem tab78_ok (N : Nat) : TabOK Try.prog (tab78 N) := trivial

noncomputable def O78 (r : Int) : Tr (Pk) := .ret ⟨[.v (.int .i64 (r))], []⟩

noncomputable def D78 : Pk → Option (Int)
  | ⟨[.v (.int .i64 x0)], []⟩ => some (x0)
  | _ => none

theorem D78_ok : ∀ y r, D78 y = some r → ∀ z, (O78 r).to z → y = z := by
  intro y r h
  unfold D78 at h
  split at h <;> first | (cases h; intro z hz; exact Option.some.inj hz) | cases h

noncomputable def F78 (N : Nat) : (Int × Int × Int) → Option (Int)
  | (x0, x1, x2) =>
  iteP (decide (x2 = (0 : Int))) (
    none) (
    iteP (decide (x1 = (0 : Int))) (
      none) (
      some (IntKind.wrap IntKind.i64 ((if (0 : Int) > IntKind.wrap IntKind.i64 (IntKind.wrap IntKind.i64 (Int.tdiv (IntKind.wrap IntKind.i64 (x0 - x1)) x2) + (1 : Int)) then (0 : Int) else IntKind.wrap IntKind.i64 (IntKind.wrap IntKind.i64 (Int.tdiv (IntKind.wrap IntKind.i64 (x0 - x1)) x2) + (1 : Int))) * if (1 : Int) < IntKind.wrap IntKind.i64 (Int.tdiv x0 x1) then (1 : Int) else IntKind.wrap IntKind.i64 (Int.tdiv x0 x1)))))

theorem F78_eq (N : Nat) (x0 : Int) (x1 : Int) (x2 : Int) : (fnEv (mkE Try.prog ownT (tab78 N) []) Try.f78 (J78 (x0, x1, x2))).run D78 = F78 N (x0, x1, x2) := by kernel_rfl

noncomputable def T78 (N : Nat) : Pk → Tr Pk := tell I78 (F78 N) O78

theorem T78_ok (N : Nat) : FOK Try.prog 78 (T78 N) :=
  (tell_ok (E := (mkE Try.prog ownT (tab78 N) [])) (mkE_ok mix (tab78_ok N)) Try.func78 (show Try.f78.body = some (bod Try.f78) by kernel_rfl) (by decide +kernel) (F := F78 N) I78_ok D78_ok (args := A78) (fun _ => by kernel_rfl) (fun _ => by show 3 ≤ Try.f78.ntmps; exact of_decide_eq_true (by kernel_rfl)) (cutsIn_ok trivial) (fun x => match x with | (x0, x1, x2) => F78_eq N x0 x1 x2))

/-! ## f75: mirador/symbols.base -/

noncomputable def I75 : Pk → Option (Int × Int × Int × Int)
  | ⟨[.v (.int .i64 x0), .v (.int .i64 x1), .v (.int .i64 x2), .v (.int .i64 x3)], []⟩ => some (x0, x1, x2, x3)
  | _ => none

noncomputable def J75 (x : Int × Int × Int × Int) : Pk := ⟨[.v (.int .i64 (x.1)), .v (.int .i64 (x.2.1)), .v (.int .i64 (x.2.2.1)), .v (.int .i64 (x.2.2.2))], []⟩

theorem I75_ok : ∀ pk x, I75 pk = some x → pk = J75 x := by
  intro pk x h
  unfold I75 at h
  split at h <;> first | (cases h; rfl) | cases h

noncomputable def A75 : List TV := []

noncomputable def tab75 (N : Nat) : List (Nat × (Pk → Tr Pk)) := [(78, T78 N)]

theorem tab75_ok (N : Nat) : TabOK Try.prog (tab75 N) := ⟨T78_ok N, trivial⟩

def X75_58 : Ex → List Nat
  | .ret => [8, 9]
  | .exit 0 => [10, 0, 1, 2]
  | _ => []

noncomputable def I75_58 : Pk → Option (Int × Int × Int × Int × Int × Int)
  | ⟨[.v (.int .i64 x0), .v (.int .i64 x1), .v (.int .i64 x2), .v (.int .i64 x3), .v (.int .i64 x4), .v (.int .i64 x5)], []⟩ => some (x0, x1, x2, x3, x4, x5)
  | _ => none

noncomputable def J75_58 (x : Int × Int × Int × Int × Int × Int) : Pk := ⟨[.v (.int .i64 (x.1)), .v (.int .i64 (x.2.1)), .v (.int .i64 (x.2.2.1)), .v (.int .i64 (x.2.2.2.1)), .v (.int .i64 (x.2.2.2.2.1)), .v (.int .i64 (x.2.2.2.2.2))], []⟩

theorem I75_58_ok : ∀ pk x, I75_58 pk = some x → pk = J75_58 x := by
  intro pk x h
  unfold I75_58 at h
  split at h <;> first | (cases h; rfl) | cases h

noncomputable def O75_58 (r : Int × Int × Int × Int) : Tr (Ex × Pk) := .ret (.exit 0, ⟨[.v (.int .i64 (r.1)), .v (.int .i64 (r.2.1)), .v (.int .i64 (r.2.2.1)), .v (.int .i64 (r.2.2.2))], []⟩)

noncomputable def D75_58 : Ex × Pk → Option (Int × Int × Int × Int)
  | (.exit 0, ⟨[.v (.int .i64 x0), .v (.int .i64 x1), .v (.int .i64 x2), .v (.int .i64 x3)], []⟩) => some ((x0, x1, x2, x3))
  | _ => none

theorem D75_58_ok : ∀ y r, D75_58 y = some r → ∀ z, (O75_58 r).to z → y = z := by
  intro y r h
  unfold D75_58 at h
  split at h <;> first | (cases h; intro z hz; exact Option.some.inj hz) | cases h

noncomputable def B75_58 (N : Nat) (f : (Int × Int × Int × Int × Int × Int) → Option (Int × Int × Int × Int)) : (Int × Int × Int × Int × Int × Int) → Option (Int × Int × Int × Int)
  | (x0, x1, x2, x3, x4, x5) =>
  iteP (decide (x1 < x2)) (
    Option.bind (F78 N (x1, x4, x5)) fun y0 =>
    iteP (decide (y0 < (0 : Int))) (
      none) (
      Option.bind (f (IntKind.wrap IntKind.i64 (x0 + IntKind.wrap IntKind.i64 ((1 : Int) * (2 : Int) ^ min (Int.toNat y0) (64 : Nat))), IntKind.wrap IntKind.i64 (x1 + (1 : Int)), x2, x3, x4, x5)) fun r => some r)) (
    some ((x0, x3, x4, x5)))

noncomputable def F75_58 (N : Nat) : Nat → (Int × Int × Int × Int × Int × Int) → Option (Int × Int × Int × Int)
  | 0, _ => none
  | k + 1, x => B75_58 N (F75_58 N k) x

noncomputable def C75_58 (N : Nat) (k : Nat) : Cut := ⟨[10, 14, 13, 0, 1, 2], X75_58, tellX I75_58 (F75_58 N k) O75_58⟩

theorem B75_58_eq (N : Nat) (f : (Int × Int × Int × Int × Int × Int) → Option (Int × Int × Int × Int)) (x0 : Int) (x1 : Int) (x2 : Int) (x3 : Int) (x4 : Int) (x5 : Int) : (roundEv (mkE Try.prog ownT (tab75 N) []) Try.f75.ntmps A75 (loopAt (bod Try.f75) 58) 58 ⟨[10, 14, 13, 0, 1, 2], X75_58, tellX I75_58 f O75_58⟩ (J75_58 (x0, x1, x2, x3, x4, x5))).run D75_58 = B75_58 N f (x0, x1, x2, x3, x4, x5) := by kernel_rfl

theorem C75_58_ok (N : Nat) (k : Nat) : ∀ c', At (bod Try.f75) 58 c' → CutOK Try.prog Try.f75.ntmps (idsL A75) c' (C75_58 N k) :=
  loop_ok (E := (mkE Try.prog ownT (tab75 N) [])) (mkE_ok mix (tab75_ok N)) (cutsIn_ok trivial) (fuel := 200) (by decide +kernel) (by kernel_rfl) I75_58_ok D75_58_ok (B75_58 N) (F75_58 N) (fun _ => rfl) (fun _ _ => rfl) (fun f x => match x with | (x0, x1, x2, x3, x4, x5) => B75_58_eq N f x0 x1 x2 x3 x4 x5) k

noncomputable def O75 (r : Int × Int) : Tr (Pk) := .ret ⟨[.tup [.v (.int .i64 (r.1)), .v (.int .i64 (r.2))]], []⟩

noncomputable def D75 : Pk → Option (Int × Int)
  | ⟨[.tup [.v (.int .i64 x0), .v (.int .i64 x1)]], []⟩ => some ((x0, x1))
  | _ => none

theorem D75_ok : ∀ y r, D75 y = some r → ∀ z, (O75 r).to z → y = z := by
  intro y r h
  unfold D75 at h
  split at h <;> first | (cases h; intro z hz; exact Option.some.inj hz) | cases h

noncomputable def F75 (N : Nat) : (Int × Int × Int × Int) → Option (Int × Int)
  | (x0, x1, x2, x3) =>
  Option.bind (F75_58 N N (x3, (0 : Int), x0, x0, x1, x2)) fun y0 =>
  Option.bind (F78 N (Prod.fst (Prod.snd y0), Prod.fst (Prod.snd (Prod.snd y0)), Prod.snd (Prod.snd (Prod.snd y0)))) fun y1 =>
  some ((Prod.fst y0, y1))

theorem F75_eq (N : Nat) (x0 : Int) (x1 : Int) (x2 : Int) (x3 : Int) : (fnEv (mkE Try.prog ownT (tab75 N) [(58, (C75_58 N N))]) Try.f75 (J75 (x0, x1, x2, x3))).run D75 = F75 N (x0, x1, x2, x3) := by kernel_rfl

noncomputable def T75 (N : Nat) : Pk → Tr Pk := tell I75 (F75 N) O75

theorem T75_ok (N : Nat) : FOK Try.prog 75 (T75 N) :=
  (tell_ok (E := (mkE Try.prog ownT (tab75 N) [(58, (C75_58 N N))])) (mkE_ok mix (tab75_ok N)) Try.func75 (show Try.f75.body = some (bod Try.f75) by kernel_rfl) (by decide +kernel) (F := F75 N) I75_ok D75_ok (args := A75) (fun _ => by kernel_rfl) (fun _ => by show 4 ≤ Try.f75.ntmps; exact of_decide_eq_true (by kernel_rfl)) (cutsIn_ok ⟨fun c' h => (C75_58_ok N N c' h), trivial⟩) (fun x => match x with | (x0, x1, x2, x3) => F75_eq N x0 x1 x2 x3))

/-! ## f66: mirador/symbols.LengthOf -/

noncomputable def I66 : Pk → Option (Int)
  | ⟨[.v (.int .i64 x0)], []⟩ => some x0
  | _ => none

noncomputable def J66 (x : Int) : Pk := ⟨[.v (.int .i64 (x))], []⟩

theorem I66_ok : ∀ pk x, I66 pk = some x → pk = J66 x := by
  intro pk x h
  unfold I66 at h
  split at h <;> first | (cases h; rfl) | cases h

noncomputable def A66 : List TV := []

noncomputable def tab66 (N : Nat) : List (Nat × (Pk → Tr Pk)) := [(75, T75 N)]

theorem tab66_ok (N : Nat) : TabOK Try.prog (tab66 N) := ⟨T75_ok N, trivial⟩

noncomputable def O66 (r : Int × Int) : Tr (Pk) := .ret ⟨[.tup [.v (.int .i64 (r.1)), .v (.int .i64 (r.2))]], []⟩

noncomputable def D66 : Pk → Option (Int × Int)
  | ⟨[.tup [.v (.int .i64 x0), .v (.int .i64 x1)]], []⟩ => some ((x0, x1))
  | _ => none

theorem D66_ok : ∀ y r, D66 y = some r → ∀ z, (O66 r).to z → y = z := by
  intro y r h
  unfold D66 at h
  split at h <;> first | (cases h; intro z hz; exact Option.some.inj hz) | cases h

noncomputable def F66 (N : Nat) : (Int) → Option (Int × Int)
  | x0 =>
  iteP (x0 == (285 : Int)) (
    some (((258 : Int), (0 : Int)))) (
    iteP (decide (x0 < (257 : Int))) (
      some (((0 : Int), (0 : Int)))) (
      iteP (decide (x0 > (285 : Int))) (
        some (((0 : Int), (0 : Int)))) (
        Option.bind (F75 N (IntKind.wrap IntKind.i64 (x0 - (257 : Int)), (8 : Int), (4 : Int), (3 : Int))) fun y0 =>
        some ((Prod.fst y0, Prod.snd y0)))))

theorem F66_eq (N : Nat) (x0 : Int) : (fnEv (mkE Try.prog ownT (tab66 N) []) Try.f66 (J66 x0)).run D66 = F66 N x0 := by kernel_rfl

noncomputable def T66 (N : Nat) : Pk → Tr Pk := tell I66 (F66 N) O66

theorem T66_ok (N : Nat) : FOK Try.prog 66 (T66 N) :=
  (tell_ok (E := (mkE Try.prog ownT (tab66 N) [])) (mkE_ok mix (tab66_ok N)) Try.func66 (show Try.f66.body = some (bod Try.f66) by kernel_rfl) (by decide +kernel) (F := F66 N) I66_ok D66_ok (args := A66) (fun _ => by kernel_rfl) (fun _ => by show 1 ≤ Try.f66.ntmps; exact of_decide_eq_true (by kernel_rfl)) (cutsIn_ok trivial) (fun x => match x with | x0 => F66_eq N x0))

/-! ## f67: mirador/symbols.DistanceOf -/

noncomputable def I67 : Pk → Option (Int)
  | ⟨[.v (.int .i64 x0)], []⟩ => some x0
  | _ => none

noncomputable def J67 (x : Int) : Pk := ⟨[.v (.int .i64 (x))], []⟩

theorem I67_ok : ∀ pk x, I67 pk = some x → pk = J67 x := by
  intro pk x h
  unfold I67 at h
  split at h <;> first | (cases h; rfl) | cases h

noncomputable def A67 : List TV := []

noncomputable def tab67 (N : Nat) : List (Nat × (Pk → Tr Pk)) := [(75, T75 N)]

theorem tab67_ok (N : Nat) : TabOK Try.prog (tab67 N) := ⟨T75_ok N, trivial⟩

noncomputable def O67 (r : Int × Int) : Tr (Pk) := .ret ⟨[.tup [.v (.int .i64 (r.1)), .v (.int .i64 (r.2))]], []⟩

noncomputable def D67 : Pk → Option (Int × Int)
  | ⟨[.tup [.v (.int .i64 x0), .v (.int .i64 x1)]], []⟩ => some ((x0, x1))
  | _ => none

theorem D67_ok : ∀ y r, D67 y = some r → ∀ z, (O67 r).to z → y = z := by
  intro y r h
  unfold D67 at h
  split at h <;> first | (cases h; intro z hz; exact Option.some.inj hz) | cases h

noncomputable def F67 (N : Nat) : (Int) → Option (Int × Int)
  | x0 =>
  iteP (decide (x0 < (0 : Int))) (
    some (((0 : Int), (0 : Int)))) (
    iteP (decide (x0 ≥ (30 : Int))) (
      some (((0 : Int), (0 : Int)))) (
      Option.bind (F75 N (x0, (4 : Int), (2 : Int), (1 : Int))) fun y0 =>
      some ((Prod.fst y0, Prod.snd y0))))

theorem F67_eq (N : Nat) (x0 : Int) : (fnEv (mkE Try.prog ownT (tab67 N) []) Try.f67 (J67 x0)).run D67 = F67 N x0 := by kernel_rfl

noncomputable def T67 (N : Nat) : Pk → Tr Pk := tell I67 (F67 N) O67

theorem T67_ok (N : Nat) : FOK Try.prog 67 (T67 N) :=
  (tell_ok (E := (mkE Try.prog ownT (tab67 N) [])) (mkE_ok mix (tab67_ok N)) Try.func67 (show Try.f67.body = some (bod Try.f67) by kernel_rfl) (by decide +kernel) (F := F67 N) I67_ok D67_ok (args := A67) (fun _ => by kernel_rfl) (fun _ => by show 1 ≤ Try.f67.ntmps; exact of_decide_eq_true (by kernel_rfl)) (cutsIn_ok trivial) (fun x => match x with | x0 => F67_eq N x0))

/-! ## f65a: mirador/symbols.find -/

noncomputable def I65a : Pk → Option (Int × Int × Int)
  | ⟨[.v (.int .i64 x0), .v (.int .i64 x1), .v (.int .i64 x2), .v (.func (.func 66) ⟨[]⟩ ⟨[]⟩)], []⟩ => some (x0, x1, x2)
  | _ => none

noncomputable def J65a (x : Int × Int × Int) : Pk := ⟨[.v (.int .i64 (x.1)), .v (.int .i64 (x.2.1)), .v (.int .i64 (x.2.2)), .v (.func (.func 66) ⟨[]⟩ ⟨[]⟩)], []⟩

theorem I65a_ok : ∀ pk x, I65a pk = some x → pk = J65a x := by
  intro pk x h
  unfold I65a at h
  split at h <;> first | (cases h; rfl) | cases h

noncomputable def A65a : List TV := []

noncomputable def tab65a (N : Nat) : List (Nat × (Pk → Tr Pk)) := [(66, T66 N)]

theorem tab65a_ok (N : Nat) : TabOK Try.prog (tab65a N) := ⟨T66_ok N, trivial⟩

def X65a_26 : Ex → List Nat
  | .ret => [8, 9, 10]
  | .exit 0 => []
  | _ => []

noncomputable def I65a_26 : Pk → Option (Int × Int × Int)
  | ⟨[.v (.int .i64 x0), .v ((Value.func (Fn.func (66 : FuncId)) (Array.mk []) (Array.mk []))), .v (.int .i64 x1), .v (.int .i64 x2)], []⟩ => some (x0, x1, x2)
  | _ => none

noncomputable def J65a_26 (x : Int × Int × Int) : Pk := ⟨[.v (.int .i64 (x.1)), .v ((Value.func (Fn.func (66 : FuncId)) (Array.mk []) (Array.mk []))), .v (.int .i64 (x.2.1)), .v (.int .i64 (x.2.2))], []⟩

theorem I65a_26_ok : ∀ pk x, I65a_26 pk = some x → pk = J65a_26 x := by
  intro pk x h
  unfold I65a_26 at h
  split at h <;> first | (cases h; rfl) | cases h

noncomputable def O65a_26 (r : ((Int × Int × Int) ⊕ (Unit))) : Tr (Ex × Pk) := .sum _ _ r (fun u => .ret (.ret, ⟨[.v (.int .i64 (u.1)), .v (.int .i64 (u.2.1)), .v (.int .i64 (u.2.2))], []⟩)) (fun v => .ret (.exit 0, ⟨[], []⟩))

noncomputable def D65a_26 : Ex × Pk → Option (((Int × Int × Int) ⊕ (Unit)))
  | (.ret, ⟨[.v (.int .i64 x0), .v (.int .i64 x1), .v (.int .i64 x2)], []⟩) => some (.inl ((x0, x1, x2)))
  | (.exit 0, ⟨[], []⟩) => some (.inr (()))
  | _ => none

theorem D65a_26_ok : ∀ y r, D65a_26 y = some r → ∀ z, (O65a_26 r).to z → y = z := by
  intro y r h
  unfold D65a_26 at h
  split at h <;> first | (cases h; intro z hz; exact Option.some.inj hz) | cases h

noncomputable def B65a_26 (N : Nat) (f : (Int × Int × Int) → Option (((Int × Int × Int) ⊕ (Unit)))) : (Int × Int × Int) → Option (((Int × Int × Int) ⊕ (Unit)))
  | (x0, x1, x2) =>
  iteP (decide (x1 ≥ x0)) (
    Option.bind (F66 N x1) fun y0 =>
    iteP (decide (Prod.fst y0 ≤ x2)) (
      some (.inl ((x1, IntKind.wrap IntKind.i64 (x2 - Prod.fst y0), Prod.snd y0)))) (
      Option.bind (f (x0, IntKind.wrap IntKind.i64 (x1 - (1 : Int)), x2)) fun r => match r with | .inl (y) => some (.inl (y)) | .inr (y) => some (.inr (y)))) (
    some (.inr (())))

noncomputable def F65a_26 (N : Nat) : Nat → (Int × Int × Int) → Option (((Int × Int × Int) ⊕ (Unit)))
  | 0, _ => none
  | k + 1, x => B65a_26 N (F65a_26 N k) x

noncomputable def C65a_26 (N : Nat) (k : Nat) : Cut := ⟨[1, 3, 11, 0], X65a_26, tellX I65a_26 (F65a_26 N k) O65a_26⟩

theorem B65a_26_eq (N : Nat) (f : (Int × Int × Int) → Option (((Int × Int × Int) ⊕ (Unit)))) (x0 : Int) (x1 : Int) (x2 : Int) : (roundEv (mkE Try.prog ownT (tab65a N) []) Try.f65.ntmps A65a (loopAt (bod Try.f65) 26) 26 ⟨[1, 3, 11, 0], X65a_26, tellX I65a_26 f O65a_26⟩ (J65a_26 (x0, x1, x2))).run D65a_26 = B65a_26 N f (x0, x1, x2) := by kernel_rfl

theorem C65a_26_ok (N : Nat) (k : Nat) : ∀ c', At (bod Try.f65) 26 c' → CutOK Try.prog Try.f65.ntmps (idsL A65a) c' (C65a_26 N k) :=
  loop_ok (E := (mkE Try.prog ownT (tab65a N) [])) (mkE_ok mix (tab65a_ok N)) (cutsIn_ok trivial) (fuel := 200) (by decide +kernel) (by kernel_rfl) I65a_26_ok D65a_26_ok (B65a_26 N) (F65a_26 N) (fun _ => rfl) (fun _ _ => rfl) (fun f x => match x with | (x0, x1, x2) => B65a_26_eq N f x0 x1 x2) k

noncomputable def O65a (r : Int × Int × Int) : Tr (Pk) := .ret ⟨[.tup [.v (.int .i64 (r.1)), .v (.int .i64 (r.2.1)), .v (.int .i64 (r.2.2))]], []⟩

noncomputable def D65a : Pk → Option (Int × Int × Int)
  | ⟨[.tup [.v (.int .i64 x0), .v (.int .i64 x1), .v (.int .i64 x2)]], []⟩ => some ((x0, x1, x2))
  | _ => none

theorem D65a_ok : ∀ y r, D65a y = some r → ∀ z, (O65a r).to z → y = z := by
  intro y r h
  unfold D65a at h
  split at h <;> first | (cases h; intro z hz; exact Option.some.inj hz) | cases h

noncomputable def F65a (N : Nat) : (Int × Int × Int) → Option (Int × Int × Int)
  | (x0, x1, x2) =>
  Option.bind (F65a_26 N N (x1, x2, x0)) fun y0 =>
  match y0 with
  | .inl y1 =>
    some ((Prod.fst y1, Prod.fst (Prod.snd y1), Prod.snd (Prod.snd y1)))
  | .inr y1 =>
    some (((0 : Int), (0 : Int), (0 : Int)))

theorem F65a_eq (N : Nat) (x0 : Int) (x1 : Int) (x2 : Int) : (fnEv (mkE Try.prog ownT (tab65a N) [(26, (C65a_26 N N))]) Try.f65 (J65a (x0, x1, x2))).run D65a = F65a N (x0, x1, x2) := by kernel_rfl

noncomputable def V65a (N : Nat) : Pk → Tr Pk := tell I65a (F65a N) O65a

theorem V65a_ok (N : Nat) : FOK Try.prog 65 (V65a N) :=
  (tell_ok (E := (mkE Try.prog ownT (tab65a N) [(26, (C65a_26 N N))])) (mkE_ok mix (tab65a_ok N)) Try.func65 (show Try.f65.body = some (bod Try.f65) by kernel_rfl) (by decide +kernel) (F := F65a N) I65a_ok D65a_ok (args := A65a) (fun _ => by kernel_rfl) (fun _ => by show 4 ≤ Try.f65.ntmps; exact of_decide_eq_true (by kernel_rfl)) (cutsIn_ok ⟨fun c' h => (C65a_26_ok N N c' h), trivial⟩) (fun x => match x with | (x0, x1, x2) => F65a_eq N x0 x1 x2))

/-! ## f65b: mirador/symbols.find -/

noncomputable def I65b : Pk → Option (Int × Int × Int)
  | ⟨[.v (.int .i64 x0), .v (.int .i64 x1), .v (.int .i64 x2), .v (.func (.func 67) ⟨[]⟩ ⟨[]⟩)], []⟩ => some (x0, x1, x2)
  | _ => none

noncomputable def J65b (x : Int × Int × Int) : Pk := ⟨[.v (.int .i64 (x.1)), .v (.int .i64 (x.2.1)), .v (.int .i64 (x.2.2)), .v (.func (.func 67) ⟨[]⟩ ⟨[]⟩)], []⟩

theorem I65b_ok : ∀ pk x, I65b pk = some x → pk = J65b x := by
  intro pk x h
  unfold I65b at h
  split at h <;> first | (cases h; rfl) | cases h

noncomputable def A65b : List TV := []

noncomputable def tab65b (N : Nat) : List (Nat × (Pk → Tr Pk)) := [(67, T67 N)]

theorem tab65b_ok (N : Nat) : TabOK Try.prog (tab65b N) := ⟨T67_ok N, trivial⟩

def X65b_26 : Ex → List Nat
  | .ret => [8, 9, 10]
  | .exit 0 => []
  | _ => []

noncomputable def I65b_26 : Pk → Option (Int × Int × Int)
  | ⟨[.v (.int .i64 x0), .v ((Value.func (Fn.func (67 : FuncId)) (Array.mk []) (Array.mk []))), .v (.int .i64 x1), .v (.int .i64 x2)], []⟩ => some (x0, x1, x2)
  | _ => none

noncomputable def J65b_26 (x : Int × Int × Int) : Pk := ⟨[.v (.int .i64 (x.1)), .v ((Value.func (Fn.func (67 : FuncId)) (Array.mk []) (Array.mk []))), .v (.int .i64 (x.2.1)), .v (.int .i64 (x.2.2))], []⟩

theorem I65b_26_ok : ∀ pk x, I65b_26 pk = some x → pk = J65b_26 x := by
  intro pk x h
  unfold I65b_26 at h
  split at h <;> first | (cases h; rfl) | cases h

noncomputable def O65b_26 (r : ((Int × Int × Int) ⊕ (Unit))) : Tr (Ex × Pk) := .sum _ _ r (fun u => .ret (.ret, ⟨[.v (.int .i64 (u.1)), .v (.int .i64 (u.2.1)), .v (.int .i64 (u.2.2))], []⟩)) (fun v => .ret (.exit 0, ⟨[], []⟩))

noncomputable def D65b_26 : Ex × Pk → Option (((Int × Int × Int) ⊕ (Unit)))
  | (.ret, ⟨[.v (.int .i64 x0), .v (.int .i64 x1), .v (.int .i64 x2)], []⟩) => some (.inl ((x0, x1, x2)))
  | (.exit 0, ⟨[], []⟩) => some (.inr (()))
  | _ => none

theorem D65b_26_ok : ∀ y r, D65b_26 y = some r → ∀ z, (O65b_26 r).to z → y = z := by
  intro y r h
  unfold D65b_26 at h
  split at h <;> first | (cases h; intro z hz; exact Option.some.inj hz) | cases h

noncomputable def B65b_26 (N : Nat) (f : (Int × Int × Int) → Option (((Int × Int × Int) ⊕ (Unit)))) : (Int × Int × Int) → Option (((Int × Int × Int) ⊕ (Unit)))
  | (x0, x1, x2) =>
  iteP (decide (x1 ≥ x0)) (
    Option.bind (F67 N x1) fun y0 =>
    iteP (decide (Prod.fst y0 ≤ x2)) (
      some (.inl ((x1, IntKind.wrap IntKind.i64 (x2 - Prod.fst y0), Prod.snd y0)))) (
      Option.bind (f (x0, IntKind.wrap IntKind.i64 (x1 - (1 : Int)), x2)) fun r => match r with | .inl (y) => some (.inl (y)) | .inr (y) => some (.inr (y)))) (
    some (.inr (())))

noncomputable def F65b_26 (N : Nat) : Nat → (Int × Int × Int) → Option (((Int × Int × Int) ⊕ (Unit)))
  | 0, _ => none
  | k + 1, x => B65b_26 N (F65b_26 N k) x

noncomputable def C65b_26 (N : Nat) (k : Nat) : Cut := ⟨[1, 3, 11, 0], X65b_26, tellX I65b_26 (F65b_26 N k) O65b_26⟩

theorem B65b_26_eq (N : Nat) (f : (Int × Int × Int) → Option (((Int × Int × Int) ⊕ (Unit)))) (x0 : Int) (x1 : Int) (x2 : Int) : (roundEv (mkE Try.prog ownT (tab65b N) []) Try.f65.ntmps A65b (loopAt (bod Try.f65) 26) 26 ⟨[1, 3, 11, 0], X65b_26, tellX I65b_26 f O65b_26⟩ (J65b_26 (x0, x1, x2))).run D65b_26 = B65b_26 N f (x0, x1, x2) := by kernel_rfl

theorem C65b_26_ok (N : Nat) (k : Nat) : ∀ c', At (bod Try.f65) 26 c' → CutOK Try.prog Try.f65.ntmps (idsL A65b) c' (C65b_26 N k) :=
  loop_ok (E := (mkE Try.prog ownT (tab65b N) [])) (mkE_ok mix (tab65b_ok N)) (cutsIn_ok trivial) (fuel := 200) (by decide +kernel) (by kernel_rfl) I65b_26_ok D65b_26_ok (B65b_26 N) (F65b_26 N) (fun _ => rfl) (fun _ _ => rfl) (fun f x => match x with | (x0, x1, x2) => B65b_26_eq N f x0 x1 x2) k

noncomputable def O65b (r : Int × Int × Int) : Tr (Pk) := .ret ⟨[.tup [.v (.int .i64 (r.1)), .v (.int .i64 (r.2.1)), .v (.int .i64 (r.2.2))]], []⟩

noncomputable def D65b : Pk → Option (Int × Int × Int)
  | ⟨[.tup [.v (.int .i64 x0), .v (.int .i64 x1), .v (.int .i64 x2)]], []⟩ => some ((x0, x1, x2))
  | _ => none

theorem D65b_ok : ∀ y r, D65b y = some r → ∀ z, (O65b r).to z → y = z := by
  intro y r h
  unfold D65b at h
  split at h <;> first | (cases h; intro z hz; exact Option.some.inj hz) | cases h

noncomputable def F65b (N : Nat) : (Int × Int × Int) → Option (Int × Int × Int)
  | (x0, x1, x2) =>
  Option.bind (F65b_26 N N (x1, x2, x0)) fun y0 =>
  match y0 with
  | .inl y1 =>
    some ((Prod.fst y1, Prod.fst (Prod.snd y1), Prod.snd (Prod.snd y1)))
  | .inr y1 =>
    some (((0 : Int), (0 : Int), (0 : Int)))

theorem F65b_eq (N : Nat) (x0 : Int) (x1 : Int) (x2 : Int) : (fnEv (mkE Try.prog ownT (tab65b N) [(26, (C65b_26 N N))]) Try.f65 (J65b (x0, x1, x2))).run D65b = F65b N (x0, x1, x2) := by kernel_rfl

noncomputable def V65b (N : Nat) : Pk → Tr Pk := tell I65b (F65b N) O65b

theorem V65b_ok (N : Nat) : FOK Try.prog 65 (V65b N) :=
  (tell_ok (E := (mkE Try.prog ownT (tab65b N) [(26, (C65b_26 N N))])) (mkE_ok mix (tab65b_ok N)) Try.func65 (show Try.f65.body = some (bod Try.f65) by kernel_rfl) (by decide +kernel) (F := F65b N) I65b_ok D65b_ok (args := A65b) (fun _ => by kernel_rfl) (fun _ => by show 4 ≤ Try.f65.ntmps; exact of_decide_eq_true (by kernel_rfl)) (cutsIn_ok ⟨fun c' h => (C65b_26_ok N N c' h), trivial⟩) (fun x => match x with | (x0, x1, x2) => F65b_eq N x0 x1 x2))

noncomputable def T65 (N : Nat) : Pk → Tr Pk := (orT I65a (V65a N) (V65b N))

theorem T65_ok (N : Nat) : FOK Try.prog 65 (T65 N) := (orT_ok (V65a_ok N) (V65b_ok N))


end Go.Proofs.Ytpjkklailofkjaa.Am
