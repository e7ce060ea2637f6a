/- The seat's Go functions come to the Lean functions written here, wherever these give an answer (part E). -/
import Derived.Test.YteddgkplkjldcaaGreatSD
set_option linter.unusedVariables false
set_option maxRecDepth 100000
namespace Go.Proofs.YteddgkplkjldcaaGreat.Am
open Go.Am

/-! ## f24: mirador/miradorref08.Header -/

noncomputable def I24 : Pk → Option (Int × Int × (List Bool))
  | ⟨[.adr 0 []], [some (.var (.agg [.sl 1 none, .v (.int .i64 x0), .v (.int .i64 x1)])), some (.row .bool 4 x2)]⟩ => some (x0, x1, x2)
  | _ => none

noncomputable def J24 (x : Int × Int × (List Bool)) : Pk := ⟨[.adr 0 []], [some (.var (.agg [.sl 1 none, .v (.int .i64 (x.1)), .v (.int .i64 (x.2.1))])), some (.row .bool 4 (x.2.2))]⟩

theorem I24_ok : ∀ pk x, I24 pk = some x → pk = J24 x := by
  intro pk x h
  unfold I24 at h
  split at h <;> first | (cases h; rfl) | cases h

noncomputable def A24 : List TV := [.adr 0 []]

noncomputable def tab24 (N : Nat) : List (Nat × (Pk → Tr Pk)) := [(23, T23 N), (60, T60 N), (61, T61 N), (62, T62 N), (63, T63 N)]

theorem tab24_ok (N : Nat) : TabOK Tryz.prog (tab24 N) := ⟨T23_ok N, ⟨T60_ok N, ⟨T61_ok N, ⟨T62_ok N, ⟨T63_ok N, trivial⟩⟩⟩⟩⟩

def X24_4090 : Ex → List Nat
  | .ret => [2, 3, 4]
  | .exit 0 => [8, 5, 6, 0]
  | _ => []

def X24_536856062 : Ex → List Nat
  | .ret => [2, 3, 4]
  | .exit 5 => [13, 0, 5, 6, 14]
  | .exit 3 => [13, 0, 5, 6, 14]
  | .exit 2 => [14, 5]
  | _ => []

def X24_131068 : Ex → List Nat
  | .ret => [2, 3, 4]
  | .exit 2 => [14, 5]
  | _ => []

noncomputable def I24_4090 : Pk → Option (Int × Int × Int × Int × Int × Int × (List Int) × (List Int) × (List Bool))
  | ⟨[.v (.int .i64 x0), .v (.int .i64 x1), .v (.int .i64 x2), .v (.int .i64 x3), .sl 1 (none), .sl 2 (none), .adr 0 []], [some (.var (.agg [.sl 3 (none), .v (.int .i64 x4), .v (.int .i64 x5)])), some (.row (Ty.int IntKind.i64) 3 x6), some (.row (Ty.int IntKind.i64) 3 x7), some (.row (Ty.bool) 4 x8)]⟩ => some (x0, x1, x2, x3, x4, x5, x6, x7, x8)
  | _ => none

noncomputable def J24_4090 (x : Int × Int × Int × Int × Int × Int × (List Int) × (List Int) × (List Bool)) : Pk := ⟨[.v (.int .i64 (x.1)), .v (.int .i64 (x.2.1)), .v (.int .i64 (x.2.2.1)), .v (.int .i64 (x.2.2.2.1)), .sl 1 (none), .sl 2 (none), .adr 0 []], [some (.var (.agg [.sl 3 (none), .v (.int .i64 (x.2.2.2.2.1)), .v (.int .i64 (x.2.2.2.2.2.1))])), some (.row (Ty.int IntKind.i64) 3 (x.2.2.2.2.2.2.1)), some (.row (Ty.int IntKind.i64) 3 (x.2.2.2.2.2.2.2.1)), some (.row (Ty.bool) 4 (x.2.2.2.2.2.2.2.2))]⟩

theorem I24_4090_ok : ∀ pk x, I24_4090 pk = some x → pk = J24_4090 x := by
  intro pk x h
  unfold I24_4090 at h
  split at h <;> first | (cases h; rfl) | cases h

noncomputable def O24_4090 (r : Int × Int × Int × Int × (List Int) × (List Bool)) : Tr (Ex × Pk) := .ret (.exit 0, ⟨[.sl 1 (none), .v (.int .i64 (r.1)), .v (.int .i64 (r.2.1)), .adr 0 []], [some (.var (.agg [.sl 2 (none), .v (.int .i64 (r.2.2.1)), .v (.int .i64 (r.2.2.2.1))])), some (.row (Ty.int IntKind.i64) 3 (r.2.2.2.2.1)), some (.row (Ty.bool) 4 (r.2.2.2.2.2))]⟩)

noncomputable def D24_4090 : Ex × Pk → Option (Int × Int × Int × Int × (List Int) × (List Bool))
  | (.exit 0, ⟨[.sl 1 (none), .v (.int .i64 x0), .v (.int .i64 x1), .adr 0 []], [some (.var (.agg [.sl 2 (none), .v (.int .i64 x2), .v (.int .i64 x3)])), some (.row (Ty.int IntKind.i64) 3 x4), some (.row (Ty.bool) 4 x5)]⟩) => some ((x0, x1, x2, x3, x4, x5))
  | _ => none

theorem D24_4090_ok : ∀ y r, D24_4090 y = some r → ∀ z, (O24_4090 r).to z → y = z := by
  intro y r h
  unfold D24_4090 at h
  split at h <;> first | (cases h; intro z hz; exact Option.some.inj hz) | cases h

noncomputable def B24_4090 (N : Nat) (f : (Int × Int × Int × Int × Int × Int × (List Int) × (List Int) × (List Bool)) → Option (Int × Int × Int × Int × (List Int) × (List Bool))) : (Int × Int × Int × Int × Int × Int × (List Int) × (List Int) × (List Bool)) → Option (Int × Int × Int × Int × (List Int) × (List Bool))
  | (x0, x1, x2, x3, x4, x5, x6, x7, x8) =>
  iteP (decide (x0 < x1)) (
    iteP (within x0 (List.length x7)) (
      Option.bind (x7[Int.toNat x0]?) fun y0 =>
      Option.bind (F23 N ((3 : Int), x4, x5, x8)) fun y1 =>
      iteP (within y0 (List.length x6)) (
        Option.bind (x6[Int.toNat y0]?) fun y2 =>
        Option.bind (f (IntKind.wrap IntKind.i64 (x0 + (1 : Int)), x1, x2, x3, Prod.fst (Prod.snd y1), Prod.fst (Prod.snd (Prod.snd y1)), List.set x6 (Int.toNat y0) (Prod.fst y1), x7, Prod.snd (Prod.snd (Prod.snd y1)))) fun r => some r) (
        none)) (
      none)) (
    some ((x3, x2, x4, x5, x6, x8)))

noncomputable def F24_4090 (N : Nat) : Nat → (Int × Int × Int × Int × Int × Int × (List Int) × (List Int) × (List Bool)) → Option (Int × Int × Int × Int × (List Int) × (List Bool))
  | 0, _ => none
  | k + 1, x => B24_4090 N (F24_4090 N k) x

noncomputable def C24_4090 (N : Nat) (k : Nat) : Cut := ⟨[10, 7, 6, 5, 8, 9, 0], X24_4090, tellX I24_4090 (F24_4090 N k) O24_4090⟩

theorem B24_4090_eq (N : Nat) (f : (Int × Int × Int × Int × Int × Int × (List Int) × (List Int) × (List Bool)) → Option (Int × Int × Int × Int × (List Int) × (List Bool))) (x0 : Int) (x1 : Int) (x2 : Int) (x3 : Int) (x4 : Int) (x5 : Int) (x6 : (List Int)) (x7 : (List Int)) (x8 : (List Bool)) : (roundEv (mkE Tryz.prog ownT (tab24 N) []) Tryz.f24.ntmps A24 (loopAt (bod Tryz.f24) 4090) 4090 ⟨[10, 7, 6, 5, 8, 9, 0], X24_4090, tellX I24_4090 f O24_4090⟩ (J24_4090 (x0, x1, x2, x3, x4, x5, x6, x7, x8))).run D24_4090 = B24_4090 N f (x0, x1, x2, x3, x4, x5, x6, x7, x8) := by kernel_rfl

theorem C24_4090_ok (N : Nat) (k : Nat) : ∀ c', At (bod Tryz.f24) 4090 c' → CutOK Tryz.prog Tryz.f24.ntmps (idsL A24) c' (C24_4090 N k) :=
  loop_ok (E := (mkE Tryz.prog ownT (tab24 N) [])) (mkE_ok mix (tab24_ok N)) (cutsIn_ok trivial) (fuel := 200) (by decide +kernel) (by kernel_rfl) I24_4090_ok D24_4090_ok (B24_4090 N) (F24_4090 N) (fun _ => rfl) (fun _ _ => rfl) (fun f x => match x with | (x0, x1, x2, x3, x4, x5, x6, x7, x8) => B24_4090_eq N f x0 x1 x2 x3 x4 x5 x6 x7 x8) k

noncomputable def I24_131068 : Pk → Option (Int × Int × Int × Int × (List (Int × (Int × Unit))) × (List Int) × (List Bool))
  | ⟨[.sl 1 (none), .adr 0 [], .v (.int .i64 x0), .v (.int .i64 x1), .sl 2 (none)], [some (.var (.agg [.sl 3 (none), .v (.int .i64 x2), .v (.int .i64 x3)])), some (.row (Ty.cons (Ty.int IntKind.i64) (Ty.cons (Ty.int IntKind.i64) Ty.unit)) 105 x4), some (.row (Ty.int IntKind.i64) 3 x5), some (.row (Ty.bool) 4 x6)]⟩ => some (x0, x1, x2, x3, x4, x5, x6)
  | _ => none

noncomputable def J24_131068 (x : Int × Int × Int × Int × (List (Int × (Int × Unit))) × (List Int) × (List Bool)) : Pk := ⟨[.sl 1 (none), .adr 0 [], .v (.int .i64 (x.1)), .v (.int .i64 (x.2.1)), .sl 2 (none)], [some (.var (.agg [.sl 3 (none), .v (.int .i64 (x.2.2.1)), .v (.int .i64 (x.2.2.2.1))])), some (.row (Ty.cons (Ty.int IntKind.i64) (Ty.cons (Ty.int IntKind.i64) Ty.unit)) 105 (x.2.2.2.2.1)), some (.row (Ty.int IntKind.i64) 3 (x.2.2.2.2.2.1)), some (.row (Ty.bool) 4 (x.2.2.2.2.2.2))]⟩

theorem I24_131068_ok : ∀ pk x, I24_131068 pk = some x → pk = J24_131068 x := by
  intro pk x h
  unfold I24_131068 at h
  split at h <;> first | (cases h; rfl) | cases h

noncomputable def I24_536856062 : Pk → Option (Int × Int × Int × Int × Int × Int × Int × (List Int) × (List (Int × (Int × Unit))) × (List Bool))
  | ⟨[.sl 1 (none), .v (.int .i64 x0), .v (.int .i64 x1), .v (.int .i64 x2), .v (.int .i64 x3), .adr 0 [], .sl 2 (none), .v (.int .i64 x4)], [some (.var (.agg [.sl 3 (none), .v (.int .i64 x5), .v (.int .i64 x6)])), some (.row (Ty.int IntKind.i64) 3 x7), some (.row (Ty.cons (Ty.int IntKind.i64) (Ty.cons (Ty.int IntKind.i64) Ty.unit)) 105 x8), some (.row (Ty.bool) 4 x9)]⟩ => some (x0, x1, x2, x3, x4, x5, x6, x7, x8, x9)
  | _ => none

noncomputable def J24_536856062 (x : Int × Int × Int × Int × Int × Int × Int × (List Int) × (List (Int × (Int × Unit))) × (List Bool)) : Pk := ⟨[.sl 1 (none), .v (.int .i64 (x.1)), .v (.int .i64 (x.2.1)), .v (.int .i64 (x.2.2.1)), .v (.int .i64 (x.2.2.2.1)), .adr 0 [], .sl 2 (none), .v (.int .i64 (x.2.2.2.2.1))], [some (.var (.agg [.sl 3 (none), .v (.int .i64 (x.2.2.2.2.2.1)), .v (.int .i64 (x.2.2.2.2.2.2.1))])), some (.row (Ty.int IntKind.i64) 3 (x.2.2.2.2.2.2.2.1)), some (.row (Ty.cons (Ty.int IntKind.i64) (Ty.cons (Ty.int IntKind.i64) Ty.unit)) 105 (x.2.2.2.2.2.2.2.2.1)), some (.row (Ty.bool) 4 (x.2.2.2.2.2.2.2.2.2))]⟩

theorem I24_536856062_ok : ∀ pk x, I24_536856062 pk = some x → pk = J24_536856062 x := by
  intro pk x h
  unfold I24_536856062 at h
  split at h <;> first | (cases h; rfl) | cases h

noncomputable def O24_536856062 (r : Int × Int × Int × Int × (List (Int × (Int × Unit))) × (List Int) × (List Bool)) : Tr (Ex × Pk) := .ret (.exit 5, ⟨[.sl 1 (none), .adr 0 [], .v (.int .i64 (r.1)), .v (.int .i64 (r.2.1)), .sl 2 (none)], [some (.var (.agg [.sl 3 (none), .v (.int .i64 (r.2.2.1)), .v (.int .i64 (r.2.2.2.1))])), some (.row (Ty.cons (Ty.int IntKind.i64) (Ty.cons (Ty.int IntKind.i64) Ty.unit)) 105 (r.2.2.2.2.1)), some (.row (Ty.int IntKind.i64) 3 (r.2.2.2.2.2.1)), some (.row (Ty.bool) 4 (r.2.2.2.2.2.2))]⟩)

noncomputable def D24_536856062 : Ex × Pk → Option (Int × Int × Int × Int × (List (Int × (Int × Unit))) × (List Int) × (List Bool))
  | (.exit 5, ⟨[.sl 1 (none), .adr 0 [], .v (.int .i64 x0), .v (.int .i64 x1), .sl 2 (none)], [some (.var (.agg [.sl 3 (none), .v (.int .i64 x2), .v (.int .i64 x3)])), some (.row (Ty.cons (Ty.int IntKind.i64) (Ty.cons (Ty.int IntKind.i64) Ty.unit)) 105 x4), some (.row (Ty.int IntKind.i64) 3 x5), some (.row (Ty.bool) 4 x6)]⟩) => some ((x0, x1, x2, x3, x4, x5, x6))
  | _ => none

theorem D24_536856062_ok : ∀ y r, D24_536856062 y = some r → ∀ z, (O24_536856062 r).to z → y = z := by
  intro y r h
  unfold D24_536856062 at h
  split at h <;> first | (cases h; intro z hz; exact Option.some.inj hz) | cases h

noncomputable def B24_536856062 (N : Nat) (f : (Int × Int × Int × Int × Int × Int × Int × (List Int) × (List (Int × (Int × Unit))) × (List Bool)) → Option (Int × Int × Int × Int × (List (Int × (Int × Unit))) × (List Int) × (List Bool))) : (Int × Int × Int × Int × Int × Int × Int × (List Int) × (List (Int × (Int × Unit))) × (List Bool)) → Option (Int × Int × Int × Int × (List (Int × (Int × Unit))) × (List Int) × (List Bool))
  | (x0, x1, x2, x3, x4, x5, x6, x7, x8, x9) =>
  iteP (decide (x0 < x1)) (
    iteP (decide ((List.length x7 + List.length [x4]) * (8 : Nat) ≤ (140737488355328 : Nat) ∧ List.length x7 + List.length [x4] ≤ (140737488355328 : Nat))) (
      Option.bind (f (IntKind.wrap IntKind.i64 (x0 + (1 : Int)), x1, x2, x3, x4, x5, x6, x7 ++ [x4], x8, x9)) fun r => some r) (
      none)) (
    some ((x3, x2, x5, x6, x8, x7, x9)))

noncomputable def F24_536856062 (N : Nat) : Nat → (Int × Int × Int × Int × Int × Int × Int × (List Int) × (List (Int × (Int × Unit))) × (List Bool)) → Option (Int × Int × Int × Int × (List (Int × (Int × Unit))) × (List Int) × (List Bool))
  | 0, _ => none
  | k + 1, x => B24_536856062 N (F24_536856062 N k) x

noncomputable def C24_536856062 (N : Nat) (k : Nat) : Cut := ⟨[14, 19, 18, 6, 5, 0, 13, 17], X24_536856062, tellX I24_536856062 (F24_536856062 N k) O24_536856062⟩

theorem B24_536856062_eq (N : Nat) (f : (Int × Int × Int × Int × Int × Int × Int × (List Int) × (List (Int × (Int × Unit))) × (List Bool)) → Option (Int × Int × Int × Int × (List (Int × (Int × Unit))) × (List Int) × (List Bool))) (x0 : Int) (x1 : Int) (x2 : Int) (x3 : Int) (x4 : Int) (x5 : Int) (x6 : Int) (x7 : (List Int)) (x8 : (List (Int × (Int × Unit)))) (x9 : (List Bool)) : (roundEv (mkE Tryz.prog ownT (tab24 N) [(4090, (C24_4090 N N))]) Tryz.f24.ntmps A24 (loopAt (bod Tryz.f24) 536856062) 536856062 ⟨[14, 19, 18, 6, 5, 0, 13, 17], X24_536856062, tellX I24_536856062 f O24_536856062⟩ (J24_536856062 (x0, x1, x2, x3, x4, x5, x6, x7, x8, x9))).run D24_536856062 = B24_536856062 N f (x0, x1, x2, x3, x4, x5, x6, x7, x8, x9) := by kernel_rfl

theorem C24_536856062_ok (N : Nat) (k : Nat) : ∀ c', At (bod Tryz.f24) 536856062 c' → CutOK Tryz.prog Tryz.f24.ntmps (idsL A24) c' (C24_536856062 N k) :=
  loop_ok (E := (mkE Tryz.prog ownT (tab24 N) [(4090, (C24_4090 N N))])) (mkE_ok mix (tab24_ok N)) (cutsIn_ok ⟨fun c' h => (C24_4090_ok N N c' h), trivial⟩) (fuel := 200) (by decide +kernel) (by kernel_rfl) I24_536856062_ok D24_536856062_ok (B24_536856062 N) (F24_536856062 N) (fun _ => rfl) (fun _ _ => rfl) (fun f x => match x with | (x0, x1, x2, x3, x4, x5, x6, x7, x8, x9) => B24_536856062_eq N f x0 x1 x2 x3 x4 x5 x6 x7 x8 x9) k

noncomputable def O24_131068 (r : ((Int × Int × Int × (List Int) × (List Int) × (List Bool)) ⊕ (Int × Int × Int × (List Int) × (List Bool)))) : Tr (Ex × Pk) := .sum _ _ r (fun u => .ret (.ret, ⟨[.sl 1 (none), .sl 2 (none), .v (.int .i64 (u.1))], [some (.var (.agg [.sl 3 (none), .v (.int .i64 (u.2.1)), .v (.int .i64 (u.2.2.1))])), some (.row (Ty.int IntKind.i64) 3 (u.2.2.2.1)), some (.row (Ty.int IntKind.i64) 3 (u.2.2.2.2.1)), some (.row (Ty.bool) 4 (u.2.2.2.2.2))]⟩)) (fun v => .ret (.exit 2, ⟨[.sl 1 (none), .v (.int .i64 (v.1))], [some (.var (.agg [.sl 2 (none), .v (.int .i64 (v.2.1)), .v (.int .i64 (v.2.2.1))])), some (.row (Ty.int IntKind.i64) 3 (v.2.2.2.1)), some (.row (Ty.bool) 4 (v.2.2.2.2))]⟩))

noncomputable def D24_131068 : Ex × Pk → Option (((Int × Int × Int × (List Int) × (List Int) × (List Bool)) ⊕ (Int × Int × Int × (List Int) × (List Bool))))
  | (.ret, ⟨[.sl 1 (none), .sl 2 (none), .v (.int .i64 x0)], [some (.var (.agg [.sl 3 (none), .v (.int .i64 x1), .v (.int .i64 x2)])), some (.row (Ty.int IntKind.i64) 3 x3), some (.row (Ty.int IntKind.i64) 3 x4), some (.row (Ty.bool) 4 x5)]⟩) => some (.inl ((x0, x1, x2, x3, x4, x5)))
  | (.exit 2, ⟨[.sl 1 (none), .v (.int .i64 x0)], [some (.var (.agg [.sl 2 (none), .v (.int .i64 x1), .v (.int .i64 x2)])), some (.row (Ty.int IntKind.i64) 3 x3), some (.row (Ty.bool) 4 x4)]⟩) => some (.inr ((x0, x1, x2, x3, x4)))
  | _ => none

theorem D24_131068_ok : ∀ y r, D24_131068 y = some r → ∀ z, (O24_131068 r).to z → y = z := by
  intro y r h
  unfold D24_131068 at h
  split at h <;> first | (cases h; intro z hz; exact Option.some.inj hz) | cases h

noncomputable def B24_131068 (N : Nat) (f : (Int × Int × Int × Int × (List (Int × (Int × Unit))) × (List Int) × (List Bool)) → Option (((Int × Int × Int × (List Int) × (List Int) × (List Bool)) ⊕ (Int × Int × Int × (List Int) × (List Bool))))) : (Int × Int × Int × Int × (List (Int × (Int × Unit))) × (List Int) × (List Bool)) → Option (((Int × Int × Int × (List Int) × (List Int) × (List Bool)) ⊕ (Int × Int × Int × (List Int) × (List Bool))))
  | (x0, x1, x2, x3, x4, x5, x6) =>
  iteP (decide ((↑(List.length x5) : Int) < IntKind.wrap IntKind.i64 (x0 + x1))) (
    Option.bind (F63 N (x4, x2, x3, x6)) fun y0 =>
    iteP (Prod.fst (Prod.snd y0) != (0 : Int)) (
      some (.inl ((Prod.fst (Prod.snd y0), Prod.fst (Prod.snd (Prod.snd y0)), Prod.fst (Prod.snd (Prod.snd (Prod.snd y0))), [], [], Prod.snd (Prod.snd (Prod.snd (Prod.snd y0))))))) (
      iteP (decide (Prod.fst y0 < (16 : Int))) (
        iteP (decide ((List.length x5 + List.length [Prod.fst y0]) * (8 : Nat) ≤ (140737488355328 : Nat) ∧ List.length x5 + List.length [Prod.fst y0] ≤ (140737488355328 : Nat))) (
          Option.bind (f (x0, x1, Prod.fst (Prod.snd (Prod.snd y0)), Prod.fst (Prod.snd (Prod.snd (Prod.snd y0))), x4, x5 ++ [Prod.fst y0], Prod.snd (Prod.snd (Prod.snd (Prod.snd y0))))) fun r => match r with | .inl (y) => some (.inl (y)) | .inr (y) => some (.inr (y))) (
          none)) (
        iteP (Prod.fst y0 == (16 : Int)) (
          iteP ((↑(List.length x5) : Int) == (0 : Int)) (
            some (.inl (((80 : Int), Prod.fst (Prod.snd (Prod.snd y0)), Prod.fst (Prod.snd (Prod.snd (Prod.snd y0))), [], [], Prod.snd (Prod.snd (Prod.snd (Prod.snd y0))))))) (
            iteP (within (IntKind.wrap IntKind.i64 ((↑(List.length x5) : Int) - (1 : Int))) (List.length x5)) (
              Option.bind (x5[Int.toNat (IntKind.wrap IntKind.i64 ((↑(List.length x5) : Int) - (1 : Int)))]?) fun y1 =>
              Option.bind (F23 N ((2 : Int), Prod.fst (Prod.snd (Prod.snd y0)), Prod.fst (Prod.snd (Prod.snd (Prod.snd y0))), Prod.snd (Prod.snd (Prod.snd (Prod.snd y0))))) fun y2 =>
              iteP (Prod.fst (Prod.snd (Prod.snd y2)) != (0 : Int)) (
                some (.inl ((Prod.fst (Prod.snd (Prod.snd y2)), Prod.fst (Prod.snd y2), Prod.fst (Prod.snd (Prod.snd y2)), [], [], Prod.snd (Prod.snd (Prod.snd y2)))))) (
                iteP (decide (IntKind.wrap IntKind.i64 ((↑(List.length x5) : Int) + IntKind.wrap IntKind.i64 ((3 : Int) + Prod.fst y2)) > IntKind.wrap IntKind.i64 (x0 + x1))) (
                  some (.inl (((80 : Int), Prod.fst (Prod.snd y2), Prod.fst (Prod.snd (Prod.snd y2)), [], [], Prod.snd (Prod.snd (Prod.snd y2)))))) (
                  Option.bind (F24_536856062 N N ((0 : Int), IntKind.wrap IntKind.i64 ((3 : Int) + Prod.fst y2), x1, x0, y1, Prod.fst (Prod.snd y2), Prod.fst (Prod.snd (Prod.snd y2)), x5, x4, Prod.snd (Prod.snd (Prod.snd y2)))) fun y3 =>
                  Option.bind (f (Prod.fst y3, Prod.fst (Prod.snd y3), Prod.fst (Prod.snd (Prod.snd y3)), Prod.fst (Prod.snd (Prod.snd (Prod.snd y3))), Prod.fst (Prod.snd (Prod.snd (Prod.snd (Prod.snd y3)))), Prod.fst (Prod.snd (Prod.snd (Prod.snd (Prod.snd (Prod.snd y3))))), Prod.snd (Prod.snd (Prod.snd (Prod.snd (Prod.snd (Prod.snd y3))))))) fun r => match r with | .inl (y) => some (.inl (y)) | .inr (y) => some (.inr (y))))) (
              none))) (
          iteP (Prod.fst y0 == (17 : Int)) (
            Option.bind (F23 N ((3 : Int), Prod.fst (Prod.snd (Prod.snd y0)), Prod.fst (Prod.snd (Prod.snd (Prod.snd y0))), Prod.snd (Prod.snd (Prod.snd (Prod.snd y0))))) fun y4 =>
            iteP (Prod.fst (Prod.snd (Prod.snd y4)) != (0 : Int)) (
              some (.inl ((Prod.fst (Prod.snd (Prod.snd y4)), Prod.fst (Prod.snd y4), Prod.fst (Prod.snd (Prod.snd y4)), [], [], Prod.snd (Prod.snd (Prod.snd y4)))))) (
              iteP (decide (IntKind.wrap IntKind.i64 ((↑(List.length x5) : Int) + IntKind.wrap IntKind.i64 ((3 : Int) + Prod.fst y4)) > IntKind.wrap IntKind.i64 (x0 + x1))) (
                some (.inl (((80 : Int), Prod.fst (Prod.snd y4), Prod.fst (Prod.snd (Prod.snd y4)), [], [], Prod.snd (Prod.snd (Prod.snd y4)))))) (
                Option.bind (F24_536856062 N N ((0 : Int), IntKind.wrap IntKind.i64 ((3 : Int) + Prod.fst y4), x1, x0, (0 : Int), Prod.fst (Prod.snd y4), Prod.fst (Prod.snd (Prod.snd y4)), x5, x4, Prod.snd (Prod.snd (Prod.snd y4)))) fun y5 =>
                Option.bind (f (Prod.fst y5, Prod.fst (Prod.snd y5), Prod.fst (Prod.snd (Prod.snd y5)), Prod.fst (Prod.snd (Prod.snd (Prod.snd y5))), Prod.fst (Prod.snd (Prod.snd (Prod.snd (Prod.snd y5)))), Prod.fst (Prod.snd (Prod.snd (Prod.snd (Prod.snd (Prod.snd y5))))), Prod.snd (Prod.snd (Prod.snd (Prod.snd (Prod.snd (Prod.snd y5))))))) fun r => match r with | .inl (y) => some (.inl (y)) | .inr (y) => some (.inr (y))))) (
            iteP (Prod.fst y0 == (18 : Int)) (
              Option.bind (F23 N ((7 : Int), Prod.fst (Prod.snd (Prod.snd y0)), Prod.fst (Prod.snd (Prod.snd (Prod.snd y0))), Prod.snd (Prod.snd (Prod.snd (Prod.snd y0))))) fun y6 =>
              iteP (Prod.fst (Prod.snd (Prod.snd y6)) != (0 : Int)) (
                some (.inl ((Prod.fst (Prod.snd (Prod.snd y6)), Prod.fst (Prod.snd y6), Prod.fst (Prod.snd (Prod.snd y6)), [], [], Prod.snd (Prod.snd (Prod.snd y6)))))) (
                iteP (decide (IntKind.wrap IntKind.i64 ((↑(List.length x5) : Int) + IntKind.wrap IntKind.i64 ((11 : Int) + Prod.fst y6)) > IntKind.wrap IntKind.i64 (x0 + x1))) (
                  some (.inl (((80 : Int), Prod.fst (Prod.snd y6), Prod.fst (Prod.snd (Prod.snd y6)), [], [], Prod.snd (Prod.snd (Prod.snd y6)))))) (
                  Option.bind (F24_536856062 N N ((0 : Int), IntKind.wrap IntKind.i64 ((11 : Int) + Prod.fst y6), x1, x0, (0 : Int), Prod.fst (Prod.snd y6), Prod.fst (Prod.snd (Prod.snd y6)), x5, x4, Prod.snd (Prod.snd (Prod.snd y6)))) fun y7 =>
                  Option.bind (f (Prod.fst y7, Prod.fst (Prod.snd y7), Prod.fst (Prod.snd (Prod.snd y7)), Prod.fst (Prod.snd (Prod.snd (Prod.snd y7))), Prod.fst (Prod.snd (Prod.snd (Prod.snd (Prod.snd y7)))), Prod.fst (Prod.snd (Prod.snd (Prod.snd (Prod.snd (Prod.snd y7))))), Prod.snd (Prod.snd (Prod.snd (Prod.snd (Prod.snd (Prod.snd y7))))))) fun r => match r with | .inl (y) => some (.inl (y)) | .inr (y) => some (.inr (y))))) (
              iteP (Prod.fst (Prod.snd (Prod.snd (Prod.snd y0))) != (0 : Int)) (
                some (.inl ((Prod.fst (Prod.snd (Prod.snd (Prod.snd y0))), Prod.fst (Prod.snd (Prod.snd y0)), Prod.fst (Prod.snd (Prod.snd (Prod.snd y0))), [], [], Prod.snd (Prod.snd (Prod.snd (Prod.snd y0))))))) (
                iteP (decide (IntKind.wrap IntKind.i64 ((↑(List.length x5) : Int) + (0 : Int)) > IntKind.wrap IntKind.i64 (x0 + x1))) (
                  some (.inl (((80 : Int), Prod.fst (Prod.snd (Prod.snd y0)), Prod.fst (Prod.snd (Prod.snd (Prod.snd y0))), [], [], Prod.snd (Prod.snd (Prod.snd (Prod.snd y0))))))) (
                  Option.bind (F24_536856062 N N ((0 : Int), (0 : Int), x1, x0, (0 : Int), Prod.fst (Prod.snd (Prod.snd y0)), Prod.fst (Prod.snd (Prod.snd (Prod.snd y0))), x5, x4, Prod.snd (Prod.snd (Prod.snd (Prod.snd y0))))) fun y8 =>
                  Option.bind (f (Prod.fst y8, Prod.fst (Prod.snd y8), Prod.fst (Prod.snd (Prod.snd y8)), Prod.fst (Prod.snd (Prod.snd (Prod.snd y8))), Prod.fst (Prod.snd (Prod.snd (Prod.snd (Prod.snd y8)))), Prod.fst (Prod.snd (Prod.snd (Prod.snd (Prod.snd (Prod.snd y8))))), Prod.snd (Prod.snd (Prod.snd (Prod.snd (Prod.snd (Prod.snd y8))))))) fun r => match r with | .inl (y) => some (.inl (y)) | .inr (y) => some (.inr (y)))))))))) (
    some (.inr ((x0, x2, x3, x5, x6))))

noncomputable def F24_131068 (N : Nat) : Nat → (Int × Int × Int × Int × (List (Int × (Int × Unit))) × (List Int) × (List Bool)) → Option (((Int × Int × Int × (List Int) × (List Int) × (List Bool)) ⊕ (Int × Int × Int × (List Int) × (List Bool))))
  | 0, _ => none
  | k + 1, x => B24_131068 N (F24_131068 N k) x

noncomputable def C24_131068 (N : Nat) (k : Nat) : Cut := ⟨[13, 0, 5, 6, 14], X24_131068, tellX I24_131068 (F24_131068 N k) O24_131068⟩

theorem B24_131068_eq (N : Nat) (f : (Int × Int × Int × Int × (List (Int × (Int × Unit))) × (List Int) × (List Bool)) → Option (((Int × Int × Int × (List Int) × (List Int) × (List Bool)) ⊕ (Int × Int × Int × (List Int) × (List Bool))))) (x0 : Int) (x1 : Int) (x2 : Int) (x3 : Int) (x4 : (List (Int × (Int × Unit)))) (x5 : (List Int)) (x6 : (List Bool)) : (roundEv (mkE Tryz.prog ownT (tab24 N) [(4090, (C24_4090 N N)), (536856062, (C24_536856062 N N))]) Tryz.f24.ntmps A24 (loopAt (bod Tryz.f24) 131068) 131068 ⟨[13, 0, 5, 6, 14], X24_131068, tellX I24_131068 f O24_131068⟩ (J24_131068 (x0, x1, x2, x3, x4, x5, x6))).run D24_131068 = B24_131068 N f (x0, x1, x2, x3, x4, x5, x6) := by kernel_rfl

theorem C24_131068_ok (N : Nat) (k : Nat) : ∀ c', At (bod Tryz.f24) 131068 c' → CutOK Tryz.prog Tryz.f24.ntmps (idsL A24) c' (C24_131068 N k) :=
  loop_ok (E := (mkE Tryz.prog ownT (tab24 N) [(4090, (C24_4090 N N)), (536856062, (C24_536856062 N N))])) (mkE_ok mix (tab24_ok N)) (cutsIn_ok ⟨fun c' h => (C24_4090_ok N N c' h), ⟨fun c' h => (C24_536856062_ok N N c' h), trivial⟩⟩) (fuel := 200) (by decide +kernel) (by kernel_rfl) I24_131068_ok D24_131068_ok (B24_131068 N) (F24_131068 N) (fun _ => rfl) (fun _ _ => rfl) (fun f x => match x with | (x0, x1, x2, x3, x4, x5, x6) => B24_131068_eq N f x0 x1 x2 x3 x4 x5 x6) k

noncomputable def O24 (r : ((Int × Int × Int × (List Int) × (List Int) × (List Bool)) ⊕ (Nat × Nat × Nat × Int × Int × Int × (List Int) × (List Bool)))) : Tr (Pk) := .sum _ _ r (fun u => .ret ⟨[.tup [.sl 1 (none), .sl 2 (none), .v (.int .i64 (u.1))]], [some (.var (.agg [.sl 3 (none), .v (.int .i64 (u.2.1)), .v (.int .i64 (u.2.2.1))])), some (.row (Ty.int IntKind.i64) 3 (u.2.2.2.1)), some (.row (Ty.int IntKind.i64) 3 (u.2.2.2.2.1)), some (.row (Ty.bool) 4 (u.2.2.2.2.2))]⟩) (fun v => .ret ⟨[.tup [.sl 1 (some ((0, (v.1)))), .sl 1 (some (((v.2.1), (v.2.2.1)))), .v (.int .i64 (v.2.2.2.1))]], [some (.var (.agg [.sl 2 (none), .v (.int .i64 (v.2.2.2.2.1)), .v (.int .i64 (v.2.2.2.2.2.1))])), some (.row (Ty.int IntKind.i64) 3 (v.2.2.2.2.2.2.1)), some (.row (Ty.bool) 4 (v.2.2.2.2.2.2.2))]⟩)

noncomputable def D24 : Pk → Option (((Int × Int × Int × (List Int) × (List Int) × (List Bool)) ⊕ (Nat × Nat × Nat × Int × Int × Int × (List Int) × (List Bool))))
  | ⟨[.tup [.sl 1 (none), .sl 2 (none), .v (.int .i64 x0)]], [some (.var (.agg [.sl 3 (none), .v (.int .i64 x1), .v (.int .i64 x2)])), some (.row (Ty.int IntKind.i64) 3 x3), some (.row (Ty.int IntKind.i64) 3 x4), some (.row (Ty.bool) 4 x5)]⟩ => some (.inl ((x0, x1, x2, x3, x4, x5)))
  | ⟨[.tup [.sl 1 (some ((0, x0))), .sl 1 (some ((x1, x2))), .v (.int .i64 x3)]], [some (.var (.agg [.sl 2 (none), .v (.int .i64 x4), .v (.int .i64 x5)])), some (.row (Ty.int IntKind.i64) 3 x6), some (.row (Ty.bool) 4 x7)]⟩ => some (.inr ((x0, x1, x2, x3, x4, x5, x6, x7)))
  | _ => none

theorem D24_ok : ∀ y r, D24 y = some r → ∀ z, (O24 r).to z → y = z := by
  intro y r h
  unfold D24 at h
  split at h <;> first | (cases h; intro z hz; exact Option.some.inj hz) | cases h

noncomputable def F24 (N : Nat) : (Int × Int × (List Bool)) → Option (((Int × Int × Int × (List Int) × (List Int) × (List Bool)) ⊕ (Nat × Nat × Nat × Int × Int × Int × (List Int) × (List Bool))))
  | (x0, x1, x2) =>
  Option.bind (F23 N ((5 : Int), x0, x1, x2)) fun y0 =>
  Option.bind (F23 N ((5 : Int), Prod.fst (Prod.snd y0), Prod.fst (Prod.snd (Prod.snd y0)), Prod.snd (Prod.snd (Prod.snd y0)))) fun y1 =>
  Option.bind (F23 N ((4 : Int), Prod.fst (Prod.snd y1), Prod.fst (Prod.snd (Prod.snd y1)), Prod.snd (Prod.snd (Prod.snd y1)))) fun y2 =>
  iteP (Prod.fst (Prod.snd (Prod.snd y2)) != (0 : Int)) (
    some (.inl ((Prod.fst (Prod.snd (Prod.snd y2)), Prod.fst (Prod.snd y2), Prod.fst (Prod.snd (Prod.snd y2)), [], [], Prod.snd (Prod.snd (Prod.snd y2)))))) (
    iteP (decide (IntKind.wrap IntKind.i64 (Prod.fst y0 + (257 : Int)) > (286 : Int))) (
      some (.inl (((80 : Int), Prod.fst (Prod.snd y2), Prod.fst (Prod.snd (Prod.snd y2)), [], [], Prod.snd (Prod.snd (Prod.snd y2)))))) (
      iteP (decide (IntKind.wrap IntKind.i64 (Prod.fst y1 + (1 : Int)) > (30 : Int))) (
        some (.inl (((80 : Int), Prod.fst (Prod.snd y2), Prod.fst (Prod.snd (Prod.snd y2)), [], [], Prod.snd (Prod.snd (Prod.snd y2)))))) (
        Option.bind (F60 N ()) fun y3 =>
        Option.bind (F24_4090 N N ((0 : Int), IntKind.wrap IntKind.i64 (Prod.fst y2 + (4 : Int)), IntKind.wrap IntKind.i64 (Prod.fst y1 + (1 : Int)), IntKind.wrap IntKind.i64 (Prod.fst y0 + (257 : Int)), Prod.fst (Prod.snd y2), Prod.fst (Prod.snd (Prod.snd y2)), List.replicate (19 : Nat) (0 : Int), y3, Prod.snd (Prod.snd (Prod.snd y2)))) fun y4 =>
        iteP (Prod.fst (Prod.snd (Prod.snd (Prod.snd y4))) != (0 : Int)) (
          some (.inl ((Prod.fst (Prod.snd (Prod.snd (Prod.snd y4))), Prod.fst (Prod.snd (Prod.snd y4)), Prod.fst (Prod.snd (Prod.snd (Prod.snd y4))), [], [], Prod.snd (Prod.snd (Prod.snd (Prod.snd (Prod.snd y4)))))))) (
          Option.bind (F61 N (Prod.fst (Prod.snd (Prod.snd (Prod.snd (Prod.snd y4)))))) fun y5 =>
          iteP (Prod.snd y5 != (0 : Int)) (
            some (.inl (((80 : Int), Prod.fst (Prod.snd (Prod.snd y4)), Prod.fst (Prod.snd (Prod.snd (Prod.snd y4))), [], [], Prod.snd (Prod.snd (Prod.snd (Prod.snd (Prod.snd y4)))))))) (
            Option.bind (F62 N (Prod.fst (Prod.snd (Prod.snd (Prod.snd (Prod.snd y4)))))) fun y6 =>
            Option.bind (F24_131068 N N (Prod.fst y4, Prod.fst (Prod.snd y4), Prod.fst (Prod.snd (Prod.snd y4)), Prod.fst (Prod.snd (Prod.snd (Prod.snd y4))), y6, [], Prod.snd (Prod.snd (Prod.snd (Prod.snd (Prod.snd y4)))))) fun y7 =>
            match y7 with
            | .inl y8 =>
              some (.inl ((Prod.fst y8, Prod.fst (Prod.snd y8), Prod.fst (Prod.snd (Prod.snd y8)), Prod.fst (Prod.snd (Prod.snd (Prod.snd y8))), Prod.fst (Prod.snd (Prod.snd (Prod.snd (Prod.snd y8)))), Prod.snd (Prod.snd (Prod.snd (Prod.snd (Prod.snd y8)))))))
            | .inr y8 =>
              iteP (decide ((0 : Int) ≤ Prod.fst y8 ∧ Prod.fst y8 ≤ (↑(List.length (Prod.fst (Prod.snd (Prod.snd (Prod.snd y8))))) : Int))) (
                iteP (decide ((0 : Int) ≤ Prod.fst y8 ∧ Prod.fst y8 ≤ (↑(List.length (Prod.fst (Prod.snd (Prod.snd (Prod.snd y8))))) : Int))) (
                  some (.inr ((Int.toNat (Prod.fst y8) - (0 : Nat), Int.toNat (Prod.fst y8), List.length (Prod.fst (Prod.snd (Prod.snd (Prod.snd y8)))) - Int.toNat (Prod.fst y8), (0 : Int), Prod.fst (Prod.snd y8), Prod.fst (Prod.snd (Prod.snd y8)), Prod.fst (Prod.snd (Prod.snd (Prod.snd y8))), Prod.snd (Prod.snd (Prod.snd (Prod.snd y8))))))) (
                  none)) (
                none))))))

theorem F24_eq (N : Nat) (x0 : Int) (x1 : Int) (x2 : (List Bool)) : (fnEv (mkE Tryz.prog ownT (tab24 N) [(4090, (C24_4090 N N)), (536856062, (C24_536856062 N N)), (131068, (C24_131068 N N))]) Tryz.f24 (J24 (x0, x1, x2))).run D24 = F24 N (x0, x1, x2) := by kernel_rfl

noncomputable def T24 (N : Nat) : Pk → Tr Pk := tell I24 (F24 N) O24

theorem T24_ok (N : Nat) : FOK Tryz.prog 24 (T24 N) :=
  (tell_ok (E := (mkE Tryz.prog ownT (tab24 N) [(4090, (C24_4090 N N)), (536856062, (C24_536856062 N N)), (131068, (C24_131068 N N))])) (mkE_ok mix (tab24_ok N)) Tryz.func24 (show Tryz.f24.body = some (bod Tryz.f24) by kernel_rfl) (by decide +kernel) (F := F24 N) I24_ok D24_ok (args := A24) (fun _ => by kernel_rfl) (fun _ => by show 1 ≤ Tryz.f24.ntmps; exact of_decide_eq_true (by kernel_rfl)) (cutsIn_ok ⟨fun c' h => (C24_4090_ok N N c' h), ⟨fun c' h => (C24_536856062_ok N N c' h), ⟨fun c' h => (C24_131068_ok N N c' h), trivial⟩⟩⟩) (fun x => match x with | (x0, x1, x2) => F24_eq N x0 x1 x2))

/-! ## f106: mirador/miradorref07.Lengths -/

noncomputable def I106 : Pk → Option (Unit)
  | ⟨[], []⟩ => some ()
  | _ => none

noncomputable def J106 (x : Unit) : Pk := ⟨[], []⟩

theorem I106_ok : ∀ pk x, I106 pk = some x → pk = J106 x := by
  intro pk x h
  unfold I106 at h
  split at h <;> first | (cases h; rfl) | cases h

noncomputable def A106 : List TV := []

noncomputable def tab106 (N : Nat) : List (Nat × (Pk → Tr Pk)) := []

theorem tab106_ok (N : Nat) : TabOK Tryz.prog (tab106 N) := trivial

noncomputable def O106 (r : (List Int) × (List Int)) : Tr (Pk) := .ret ⟨[.tup [.sl 0 (none), .sl 1 (none)]], [some (.row (Ty.int IntKind.i64) 3 (r.1)), some (.row (Ty.int IntKind.i64) 3 (r.2))]⟩

noncomputable def D106 : Pk → Option ((List Int) × (List Int))
  | ⟨[.tup [.sl 0 (none), .sl 1 (none)]], [some (.row (Ty.int IntKind.i64) 3 x0), some (.row (Ty.int IntKind.i64) 3 x1)]⟩ => some ((x0, x1))
  | _ => none

theorem D106_ok : ∀ y r, D106 y = some r → ∀ z, (O106 r).to z → y = z := by
  intro y r h
  unfold D106 at h
  split at h <;> first | (cases h; intro z hz; exact Option.some.inj hz) | cases h

noncomputable def F106 (N : Nat) : (Unit) → Option ((List Int) × (List Int))
  | () =>
  some (([(3 : Int), (4 : Int), (5 : Int), (6 : Int), (7 : Int), (8 : Int), (9 : Int), (10 : Int), (11 : Int), (13 : Int), (15 : Int), (17 : Int), (19 : Int), (23 : Int), (27 : Int), (31 : Int), (35 : Int), (43 : Int), (51 : Int), (59 : Int), (67 : Int), (83 : Int), (99 : Int), (115 : Int), (131 : Int), (163 : Int), (195 : Int), (227 : Int), (258 : Int)], [(0 : Int), (0 : Int), (0 : Int), (0 : Int), (0 : Int), (0 : Int), (0 : Int), (0 : Int), (1 : Int), (1 : Int), (1 : Int), (1 : Int), (2 : Int), (2 : Int), (2 : Int), (2 : Int), (3 : Int), (3 : Int), (3 : Int), (3 : Int), (4 : Int), (4 : Int), (4 : Int), (4 : Int), (5 : Int), (5 : Int), (5 : Int), (5 : Int), (0 : Int)]))

theorem F106_eq (N : Nat)  : (fnEv (mkE Tryz.prog ownT (tab106 N) []) Tryz.f106 (J106 ())).run D106 = F106 N () := by kernel_rfl

noncomputable def T106 (N : Nat) : Pk → Tr Pk := tell I106 (F106 N) O106

theorem T106_ok (N : Nat) : FOK Tryz.prog 106 (T106 N) :=
  (tell_ok (E := (mkE Tryz.prog ownT (tab106 N) [])) (mkE_ok mix (tab106_ok N)) Tryz.func106 (show Tryz.f106.body = some (bod Tryz.f106) by kernel_rfl) (by decide +kernel) (F := F106 N) I106_ok D106_ok (args := A106) (fun _ => by kernel_rfl) (fun _ => by show 0 ≤ Tryz.f106.ntmps; exact of_decide_eq_true (by kernel_rfl)) (cutsIn_ok trivial) (fun x => match x with | () => F106_eq N ))

/-! ## f107: mirador/miradorref07.Distances -/

noncomputable def I107 : Pk → Option (Unit)
  | ⟨[], []⟩ => some ()
  | _ => none

noncomputable def J107 (x : Unit) : Pk := ⟨[], []⟩

theorem I107_ok : ∀ pk x, I107 pk = some x → pk = J107 x := by
  intro pk x h
  unfold I107 at h
  split at h <;> first | (cases h; rfl) | cases h

noncomputable def A107 : List TV := []

noncomputable def tab107 (N : Nat) : List (Nat × (Pk → Tr Pk)) := []

theorem tab107_ok (N : Nat) : TabOK Tryz.prog (tab107 N) := trivial

noncomputable def O107 (r : (List Int) × (List Int)) : Tr (Pk) := .ret ⟨[.tup [.sl 0 (none), .sl 1 (none)]], [some (.row (Ty.int IntKind.i64) 3 (r.1)), some (.row (Ty.int IntKind.i64) 3 (r.2))]⟩

noncomputable def D107 : Pk → Option ((List Int) × (List Int))
  | ⟨[.tup [.sl 0 (none), .sl 1 (none)]], [some (.row (Ty.int IntKind.i64) 3 x0), some (.row (Ty.int IntKind.i64) 3 x1)]⟩ => some ((x0, x1))
  | _ => none

theorem D107_ok : ∀ y r, D107 y = some r → ∀ z, (O107 r).to z → y = z := by
  intro y r h
  unfold D107 at h
  split at h <;> first | (cases h; intro z hz; exact Option.some.inj hz) | cases h

noncomputable def F107 (N : Nat) : (Unit) → Option ((List Int) × (List Int))
  | () =>
  some (([(1 : Int), (2 : Int), (3 : Int), (4 : Int), (5 : Int), (7 : Int), (9 : Int), (13 : Int), (17 : Int), (25 : Int), (33 : Int), (49 : Int), (65 : Int), (97 : Int), (129 : Int), (193 : Int), (257 : Int), (385 : Int), (513 : Int), (769 : Int), (1025 : Int), (1537 : Int), (2049 : Int), (3073 : Int), (4097 : Int), (6145 : Int), (8193 : Int), (12289 : Int), (16385 : Int), (24577 : Int)], [(0 : Int), (0 : Int), (0 : Int), (0 : Int), (1 : Int), (1 : Int), (2 : Int), (2 : Int), (3 : Int), (3 : Int), (4 : Int), (4 : Int), (5 : Int), (5 : Int), (6 : Int), (6 : Int), (7 : Int), (7 : Int), (8 : Int), (8 : Int), (9 : Int), (9 : Int), (10 : Int), (10 : Int), (11 : Int), (11 : Int), (12 : Int), (12 : Int), (13 : Int), (13 : Int)]))

theorem F107_eq (N : Nat)  : (fnEv (mkE Tryz.prog ownT (tab107 N) []) Tryz.f107 (J107 ())).run D107 = F107 N () := by kernel_rfl

noncomputable def T107 (N : Nat) : Pk → Tr Pk := tell I107 (F107 N) O107

theorem T107_ok (N : Nat) : FOK Tryz.prog 107 (T107 N) :=
  (tell_ok (E := (mkE Tryz.prog ownT (tab107 N) [])) (mkE_ok mix (tab107_ok N)) Tryz.func107 (show Tryz.f107.body = some (bod Tryz.f107) by kernel_rfl) (by decide +kernel) (F := F107 N) I107_ok D107_ok (args := A107) (fun _ => by kernel_rfl) (fun _ => by show 0 ≤ Tryz.f107.ntmps; exact of_decide_eq_true (by kernel_rfl)) (cutsIn_ok trivial) (fun x => match x with | () => F107_eq N ))

/-! ## f108: mirador/miradorref07.symbol -/

noncomputable def I108 : Pk → Option ((List (Int × (Int × Unit))) × Int × Int × (List Bool))
  | ⟨[.ro (.cons (.int .i64) (.cons (.int .i64) .unit)) x0, .adr 0 []], [some (.var (.agg [.sl 1 none, .v (.int .i64 x1), .v (.int .i64 x2)])), some (.row .bool 4 x3)]⟩ => some (x0, x1, x2, x3)
  | _ => none

noncomputable def J108 (x : (List (Int × (Int × Unit))) × Int × Int × (List Bool)) : Pk := ⟨[.ro (.cons (.int .i64) (.cons (.int .i64) .unit)) (x.1), .adr 0 []], [some (.var (.agg [.sl 1 none, .v (.int .i64 (x.2.1)), .v (.int .i64 (x.2.2.1))])), some (.row .bool 4 (x.2.2.2))]⟩

theorem I108_ok : ∀ pk x, I108 pk = some x → pk = J108 x := by
  intro pk x h
  unfold I108 at h
  split at h <;> first | (cases h; rfl) | cases h

noncomputable def A108 : List TV := [.adr 0 []]

noncomputable def tab108 (N : Nat) : List (Nat × (Pk → Tr Pk)) := [(100, T100 N), (23, T23 N)]

theorem tab108_ok (N : Nat) : TabOK Tryz.prog (tab108 N) := ⟨T100_ok N, ⟨T23_ok N, trivial⟩⟩

def X108_14 : Ex → List Nat
  | .ret => [4, 5]
  | .exit 0 => [4, 5]
  | _ => []

noncomputable def I108_14 : Pk → Option ((List (Int × (Int × Unit))) × Int × Int × (List Bool) × (List Bool))
  | ⟨[.ro (Ty.cons (Ty.int IntKind.i64) (Ty.cons (Ty.int IntKind.i64) Ty.unit)) x0, .sl 1 (none), .adr 0 []], [some (.var (.agg [.sl 2 (none), .v (.int .i64 x1), .v (.int .i64 x2)])), some (.row (Ty.bool) 4 x3), some (.row (Ty.bool) 4 x4)]⟩ => some (x0, x1, x2, x3, x4)
  | _ => none

noncomputable def J108_14 (x : (List (Int × (Int × Unit))) × Int × Int × (List Bool) × (List Bool)) : Pk := ⟨[.ro (Ty.cons (Ty.int IntKind.i64) (Ty.cons (Ty.int IntKind.i64) Ty.unit)) (x.1), .sl 1 (none), .adr 0 []], [some (.var (.agg [.sl 2 (none), .v (.int .i64 (x.2.1)), .v (.int .i64 (x.2.2.1))])), some (.row (Ty.bool) 4 (x.2.2.2.1)), some (.row (Ty.bool) 4 (x.2.2.2.2))]⟩

theorem I108_14_ok : ∀ pk x, I108_14 pk = some x → pk = J108_14 x := by
  intro pk x h
  unfold I108_14 at h
  split at h <;> first | (cases h; rfl) | cases h

noncomputable def O108_14 (r : Int × Int × Int × Int × (List Bool)) : Tr (Ex × Pk) := .ret (.ret, ⟨[.v (.int .i64 (r.1)), .v (.int .i64 (r.2.1))], [some (.var (.agg [.sl 1 (none), .v (.int .i64 (r.2.2.1)), .v (.int .i64 (r.2.2.2.1))])), some (.row (Ty.bool) 4 (r.2.2.2.2))]⟩)

noncomputable def D108_14 : Ex × Pk → Option (Int × Int × Int × Int × (List Bool))
  | (.ret, ⟨[.v (.int .i64 x0), .v (.int .i64 x1)], [some (.var (.agg [.sl 1 (none), .v (.int .i64 x2), .v (.int .i64 x3)])), some (.row (Ty.bool) 4 x4)]⟩) => some ((x0, x1, x2, x3, x4))
  | _ => none

theorem D108_14_ok : ∀ y r, D108_14 y = some r → ∀ z, (O108_14 r).to z → y = z := by
  intro y r h
  unfold D108_14 at h
  split at h <;> first | (cases h; intro z hz; exact Option.some.inj hz) | cases h

noncomputable def B108_14 (N : Nat) (f : ((List (Int × (Int × Unit))) × Int × Int × (List Bool) × (List Bool)) → Option (Int × Int × Int × Int × (List Bool))) : ((List (Int × (Int × Unit))) × Int × Int × (List Bool) × (List Bool)) → Option (Int × Int × Int × Int × (List Bool))
  | (x0, x1, x2, x3, x4) =>
  Option.bind (F100 N (x0, x3)) fun y0 =>
  iteP (decide (y0 ≥ (0 : Int))) (
    some ((y0, (0 : Int), x1, x2, x4))) (
    iteP (y0 == (-2 : Int)) (
      some (((0 : Int), (3 : Int), x1, x2, x4))) (
      Option.bind (F23 N ((1 : Int), x1, x2, x4)) fun y1 =>
      iteP (Prod.fst (Prod.snd (Prod.snd y1)) != (0 : Int)) (
        some (((0 : Int), Prod.fst (Prod.snd (Prod.snd y1)), Prod.fst (Prod.snd y1), Prod.fst (Prod.snd (Prod.snd y1)), Prod.snd (Prod.snd (Prod.snd y1))))) (
        iteP (decide ((List.length x3 + List.length [Prod.fst y1 == (1 : Int)]) * (1 : Nat) ≤ (140737488355328 : Nat) ∧ List.length x3 + List.length [Prod.fst y1 == (1 : Int)] ≤ (140737488355328 : Nat))) (
          Option.bind (f (x0, Prod.fst (Prod.snd y1), Prod.fst (Prod.snd (Prod.snd y1)), x3 ++ [Prod.fst y1 == (1 : Int)], Prod.snd (Prod.snd (Prod.snd y1)))) fun r => some r) (
          none))))

noncomputable def F108_14 (N : Nat) : Nat → ((List (Int × (Int × Unit))) × Int × Int × (List Bool) × (List Bool)) → Option (Int × Int × Int × Int × (List Bool))
  | 0, _ => none
  | k + 1, x => B108_14 N (F108_14 N k) x

noncomputable def C108_14 (N : Nat) (k : Nat) : Cut := ⟨[0, 6, 1], X108_14, tellX I108_14 (F108_14 N k) O108_14⟩

theorem B108_14_eq (N : Nat) (f : ((List (Int × (Int × Unit))) × Int × Int × (List Bool) × (List Bool)) → Option (Int × Int × Int × Int × (List Bool))) (x0 : (List (Int × (Int × Unit)))) (x1 : Int) (x2 : Int) (x3 : (List Bool)) (x4 : (List Bool)) : (roundEv (mkE Tryz.prog ownT (tab108 N) []) Tryz.f108.ntmps A108 (loopAt (bod Tryz.f108) 14) 14 ⟨[0, 6, 1], X108_14, tellX I108_14 f O108_14⟩ (J108_14 (x0, x1, x2, x3, x4))).run D108_14 = B108_14 N f (x0, x1, x2, x3, x4) := by kernel_rfl

theorem C108_14_ok (N : Nat) (k : Nat) : ∀ c', At (bod Tryz.f108) 14 c' → CutOK Tryz.prog Tryz.f108.ntmps (idsL A108) c' (C108_14 N k) :=
  loop_ok (E := (mkE Tryz.prog ownT (tab108 N) [])) (mkE_ok mix (tab108_ok N)) (cutsIn_ok trivial) (fuel := 200) (by decide +kernel) (by kernel_rfl) I108_14_ok D108_14_ok (B108_14 N) (F108_14 N) (fun _ => rfl) (fun _ _ => rfl) (fun f x => match x with | (x0, x1, x2, x3, x4) => B108_14_eq N f x0 x1 x2 x3 x4) k

noncomputable def O108 (r : Int × Int × Int × Int × (List Bool)) : Tr (Pk) := .ret ⟨[.tup [.v (.int .i64 (r.1)), .v (.int .i64 (r.2.1))]], [some (.var (.agg [.sl 1 (none), .v (.int .i64 (r.2.2.1)), .v (.int .i64 (r.2.2.2.1))])), some (.row (Ty.bool) 4 (r.2.2.2.2))]⟩

noncomputable def D108 : Pk → Option (Int × Int × Int × Int × (List Bool))
  | ⟨[.tup [.v (.int .i64 x0), .v (.int .i64 x1)]], [some (.var (.agg [.sl 1 (none), .v (.int .i64 x2), .v (.int .i64 x3)])), some (.row (Ty.bool) 4 x4)]⟩ => some ((x0, x1, x2, x3, x4))
  | _ => none

theorem D108_ok : ∀ y r, D108 y = some r → ∀ z, (O108 r).to z → y = z := by
  intro y r h
  unfold D108 at h
  split at h <;> first | (cases h; intro z hz; exact Option.some.inj hz) | cases h

noncomputable def F108 (N : Nat) : ((List (Int × (Int × Unit))) × Int × Int × (List Bool)) → Option (Int × Int × Int × Int × (List Bool))
  | (x0, x1, x2, x3) =>
  Option.bind (F108_14 N N (x0, x1, x2, [], x3)) fun y0 =>
  some ((Prod.fst y0, Prod.fst (Prod.snd y0), Prod.fst (Prod.snd (Prod.snd y0)), Prod.fst (Prod.snd (Prod.snd (Prod.snd y0))), Prod.snd (Prod.snd (Prod.snd (Prod.snd y0)))))

theorem F108_eq (N : Nat) (x0 : (List (Int × (Int × Unit)))) (x1 : Int) (x2 : Int) (x3 : (List Bool)) : (fnEv (mkE Tryz.prog ownT (tab108 N) [(14, (C108_14 N N))]) Tryz.f108 (J108 (x0, x1, x2, x3))).run D108 = F108 N (x0, x1, x2, x3) := by kernel_rfl

noncomputable def T108 (N : Nat) : Pk → Tr Pk := tell I108 (F108 N) O108

theorem T108_ok (N : Nat) : FOK Tryz.prog 108 (T108 N) :=
  (tell_ok (E := (mkE Tryz.prog ownT (tab108 N) [(14, (C108_14 N N))])) (mkE_ok mix (tab108_ok N)) Tryz.func108 (show Tryz.f108.body = some (bod Tryz.f108) by kernel_rfl) (by decide +kernel) (F := F108 N) I108_ok D108_ok (args := A108) (fun _ => by kernel_rfl) (fun _ => by show 2 ≤ Tryz.f108.ntmps; exact of_decide_eq_true (by kernel_rfl)) (cutsIn_ok ⟨fun c' h => (C108_14_ok N N c' h), trivial⟩) (fun x => match x with | (x0, x1, x2, x3) => F108_eq N x0 x1 x2 x3))

/-! ## f109: mirador/miradorref07.Of -/

noncomputable def I109 : Pk → Option ((List Int) × (List Int) × Int × Int)
  | ⟨[.ro (.int .i64) x0, .ro (.int .i64) x1, .v (.int .i64 x2), .v (.int .i64 x3)], []⟩ => some (x0, x1, x2, x3)
  | _ => none

noncomputable def J109 (x : (List Int) × (List Int) × Int × Int) : Pk := ⟨[.ro (.int .i64) (x.1), .ro (.int .i64) (x.2.1), .v (.int .i64 (x.2.2.1)), .v (.int .i64 (x.2.2.2))], []⟩

theorem I109_ok : ∀ pk x, I109 pk = some x → pk = J109 x := by
  intro pk x h
  unfold I109 at h
  split at h <;> first | (cases h; rfl) | cases h

noncomputable def A109 : List TV := []

noncomputable def tab109 (N : Nat) : List (Nat × (Pk → Tr Pk)) := []

theorem tab109_ok (N : Nat) : TabOK Tryz.prog (tab109 N) := trivial

noncomputable def O109 (r : Int × Int) : Tr (Pk) := .ret ⟨[.tup [.v (.int .i64 (r.1)), .v (.int .i64 (r.2))]], []⟩

noncomputable def D109 : Pk → Option (Int × Int)
  | ⟨[.tup [.v (.int .i64 x0), .v (.int .i64 x1)]], []⟩ => some ((x0, x1))
  | _ => none

theorem D109_ok : ∀ y r, D109 y = some r → ∀ z, (O109 r).to z → y = z := by
  intro y r h
  unfold D109 at h
  split at h <;> first | (cases h; intro z hz; exact Option.some.inj hz) | cases h

noncomputable def F109 (N : Nat) : ((List Int) × (List Int) × Int × Int) → Option (Int × Int)
  | (x0, x1, x2, x3) =>
  iteP (decide (x2 < x3)) (
    some (((0 : Int), (0 : Int)))) (
    iteP (decide (IntKind.wrap IntKind.i64 (x2 - x3) ≥ (↑(List.length x0) : Int))) (
      some (((0 : Int), (0 : Int)))) (
      iteP (within (IntKind.wrap IntKind.i64 (x2 - x3)) (List.length x0)) (
        Option.bind (x0[Int.toNat (IntKind.wrap IntKind.i64 (x2 - x3))]?) fun y0 =>
        iteP (within (IntKind.wrap IntKind.i64 (x2 - x3)) (List.length x1)) (
          Option.bind (x1[Int.toNat (IntKind.wrap IntKind.i64 (x2 - x3))]?) fun y1 =>
          some ((y0, y1))) (
          none)) (
        none)))

theorem F109_eq (N : Nat) (x0 : (List Int)) (x1 : (List Int)) (x2 : Int) (x3 : Int) : (fnEv (mkE Tryz.prog ownT (tab109 N) []) Tryz.f109 (J109 (x0, x1, x2, x3))).run D109 = F109 N (x0, x1, x2, x3) := by kernel_rfl

noncomputable def T109 (N : Nat) : Pk → Tr Pk := tell I109 (F109 N) O109

theorem T109_ok (N : Nat) : FOK Tryz.prog 109 (T109 N) :=
  (tell_ok (E := (mkE Tryz.prog ownT (tab109 N) [])) (mkE_ok mix (tab109_ok N)) Tryz.func109 (show Tryz.f109.body = some (bod Tryz.f109) by kernel_rfl) (by decide +kernel) (F := F109 N) I109_ok D109_ok (args := A109) (fun _ => by kernel_rfl) (fun _ => by show 4 ≤ Tryz.f109.ntmps; exact of_decide_eq_true (by kernel_rfl)) (cutsIn_ok trivial) (fun x => match x with | (x0, x1, x2, x3) => F109_eq N x0 x1 x2 x3))

/-! ## f74: mirador/miradorref07.Read -/

noncomputable def I74 : Pk → Option ((List Int) × (List Int) × Int × Int × Int × (List Bool))
  | ⟨[.adr 0 [], .ro (.int .i64) x0, .ro (.int .i64) x1, .v (.int .i64 x2)], [some (.var (.agg [.sl 1 none, .v (.int .i64 x3), .v (.int .i64 x4)])), some (.row .bool 4 x5)]⟩ => some (x0, x1, x2, x3, x4, x5)
  | _ => none

noncomputable def J74 (x : (List Int) × (List Int) × Int × Int × Int × (List Bool)) : Pk := ⟨[.adr 0 [], .ro (.int .i64) (x.1), .ro (.int .i64) (x.2.1), .v (.int .i64 (x.2.2.1))], [some (.var (.agg [.sl 1 none, .v (.int .i64 (x.2.2.2.1)), .v (.int .i64 (x.2.2.2.2.1))])), some (.row .bool 4 (x.2.2.2.2.2))]⟩

theorem I74_ok : ∀ pk x, I74 pk = some x → pk = J74 x := by
  intro pk x h
  unfold I74 at h
  split at h <;> first | (cases h; rfl) | cases h

noncomputable def A74 : List TV := [.adr 0 []]

noncomputable def tab74 (N : Nat) : List (Nat × (Pk → Tr Pk)) := [(61, T61 N), (62, T62 N), (106, T106 N), (107, T107 N), (108, T108 N), (109, T109 N), (23, T23 N)]

theorem tab74_ok (N : Nat) : TabOK Tryz.prog (tab74 N) := ⟨T61_ok N, ⟨T62_ok N, ⟨T106_ok N, ⟨T107_ok N, ⟨T108_ok N, ⟨T109_ok N, ⟨T23_ok N, trivial⟩⟩⟩⟩⟩⟩⟩

def X74_4094 : Ex → List Nat
  | .ret => [8, 9]
  | .exit 0 => [8, 9]
  | _ => []

noncomputable def I74_4094 : Pk → Option (Int × Int × Int × Int × (List (Int × (Int × (Int × Unit)))) × (List (Int × (Int × Unit))) × (List (Int × (Int × Unit))) × (List Int) × (List Int) × (List Int) × (List Int) × (List Bool))
  | ⟨[.sl 1 (none), .adr 0 [], .sl 2 (none), .sl 3 (none), .sl 4 (none), .sl 5 (none), .v (.int .i64 x0), .sl 6 (none), .sl 7 (none), .v (.int .i64 x1)], [some (.var (.agg [.sl 8 (none), .v (.int .i64 x2), .v (.int .i64 x3)])), some (.row (Ty.cons (Ty.int IntKind.i64) (Ty.cons (Ty.int IntKind.i64) (Ty.cons (Ty.int IntKind.i64) Ty.unit))) 52 x4), some (.row (Ty.cons (Ty.int IntKind.i64) (Ty.cons (Ty.int IntKind.i64) Ty.unit)) 105 x5), some (.row (Ty.cons (Ty.int IntKind.i64) (Ty.cons (Ty.int IntKind.i64) Ty.unit)) 105 x6), some (.row (Ty.int IntKind.i64) 3 x7), some (.row (Ty.int IntKind.i64) 3 x8), some (.row (Ty.int IntKind.i64) 3 x9), some (.row (Ty.int IntKind.i64) 3 x10), some (.row (Ty.bool) 4 x11)]⟩ => some (x0, x1, x2, x3, x4, x5, x6, x7, x8, x9, x10, x11)
  | _ => none

noncomputable def J74_4094 (x : Int × Int × Int × Int × (List (Int × (Int × (Int × Unit)))) × (List (Int × (Int × Unit))) × (List (Int × (Int × Unit))) × (List Int) × (List Int) × (List Int) × (List Int) × (List Bool)) : Pk := ⟨[.sl 1 (none), .adr 0 [], .sl 2 (none), .sl 3 (none), .sl 4 (none), .sl 5 (none), .v (.int .i64 (x.1)), .sl 6 (none), .sl 7 (none), .v (.int .i64 (x.2.1))], [some (.var (.agg [.sl 8 (none), .v (.int .i64 (x.2.2.1)), .v (.int .i64 (x.2.2.2.1))])), some (.row (Ty.cons (Ty.int IntKind.i64) (Ty.cons (Ty.int IntKind.i64) (Ty.cons (Ty.int IntKind.i64) Ty.unit))) 52 (x.2.2.2.2.1)), some (.row (Ty.cons (Ty.int IntKind.i64) (Ty.cons (Ty.int IntKind.i64) Ty.unit)) 105 (x.2.2.2.2.2.1)), some (.row (Ty.cons (Ty.int IntKind.i64) (Ty.cons (Ty.int IntKind.i64) Ty.unit)) 105 (x.2.2.2.2.2.2.1)), some (.row (Ty.int IntKind.i64) 3 (x.2.2.2.2.2.2.2.1)), some (.row (Ty.int IntKind.i64) 3 (x.2.2.2.2.2.2.2.2.1)), some (.row (Ty.int IntKind.i64) 3 (x.2.2.2.2.2.2.2.2.2.1)), some (.row (Ty.int IntKind.i64) 3 (x.2.2.2.2.2.2.2.2.2.2.1)), some (.row (Ty.bool) 4 (x.2.2.2.2.2.2.2.2.2.2.2))]⟩

theorem I74_4094_ok : ∀ pk x, I74_4094 pk = some x → pk = J74_4094 x := by
  intro pk x h
  unfold I74_4094 at h
  split at h <;> first | (cases h; rfl) | cases h

noncomputable def O74_4094 (r : Int × Int × Int × (List (Int × (Int × (Int × Unit)))) × (List Bool)) : Tr (Ex × Pk) := .ret (.ret, ⟨[.sl 1 (none), .v (.int .i64 (r.1))], [some (.var (.agg [.sl 2 (none), .v (.int .i64 (r.2.1)), .v (.int .i64 (r.2.2.1))])), some (.row (Ty.cons (Ty.int IntKind.i64) (Ty.cons (Ty.int IntKind.i64) (Ty.cons (Ty.int IntKind.i64) Ty.unit))) 52 (r.2.2.2.1)), some (.row (Ty.bool) 4 (r.2.2.2.2))]⟩)

noncomputable def D74_4094 : Ex × Pk → Option (Int × Int × Int × (List (Int × (Int × (Int × Unit)))) × (List Bool))
  | (.ret, ⟨[.sl 1 (none), .v (.int .i64 x0)], [some (.var (.agg [.sl 2 (none), .v (.int .i64 x1), .v (.int .i64 x2)])), some (.row (Ty.cons (Ty.int IntKind.i64) (Ty.cons (Ty.int IntKind.i64) (Ty.cons (Ty.int IntKind.i64) Ty.unit))) 52 x3), some (.row (Ty.bool) 4 x4)]⟩) => some ((x0, x1, x2, x3, x4))
  | _ => none

theorem D74_4094_ok : ∀ y r, D74_4094 y = some r → ∀ z, (O74_4094 r).to z → y = z := by
  intro y r h
  unfold D74_4094 at h
  split at h <;> first | (cases h; intro z hz; exact Option.some.inj hz) | cases h

noncomputable def B74_4094 (N : Nat) (f : (Int × Int × Int × Int × (List (Int × (Int × (Int × Unit)))) × (List (Int × (Int × Unit))) × (List (Int × (Int × Unit))) × (List Int) × (List Int) × (List Int) × (List Int) × (List Bool)) → Option (Int × Int × Int × (List (Int × (Int × (Int × Unit)))) × (List Bool))) : (Int × Int × Int × Int × (List (Int × (Int × (Int × Unit)))) × (List (Int × (Int × Unit))) × (List (Int × (Int × Unit))) × (List Int) × (List Int) × (List Int) × (List Int) × (List Bool)) → Option (Int × Int × Int × (List (Int × (Int × (Int × Unit)))) × (List Bool))
  | (x0, x1, x2, x3, x4, x5, x6, x7, x8, x9, x10, x11) =>
  Option.bind (F108 N (x5, x2, x3, x11)) fun y0 =>
  iteP (Prod.fst (Prod.snd y0) != (0 : Int)) (
    some ((Prod.fst (Prod.snd y0), Prod.fst (Prod.snd (Prod.snd y0)), Prod.fst (Prod.snd (Prod.snd (Prod.snd y0))), [], Prod.snd (Prod.snd (Prod.snd (Prod.snd y0)))))) (
    iteP (Prod.fst y0 == (256 : Int)) (
      some (((0 : Int), Prod.fst (Prod.snd (Prod.snd y0)), Prod.fst (Prod.snd (Prod.snd (Prod.snd y0))), x4, Prod.snd (Prod.snd (Prod.snd (Prod.snd y0)))))) (
      iteP (decide (Prod.fst y0 > (285 : Int))) (
        some (((3 : Int), Prod.fst (Prod.snd (Prod.snd y0)), Prod.fst (Prod.snd (Prod.snd (Prod.snd y0))), [], Prod.snd (Prod.snd (Prod.snd (Prod.snd y0)))))) (
        iteP (decide (Prod.fst y0 > (256 : Int))) (
          Option.bind (F109 N (x10, x9, Prod.fst y0, (257 : Int))) fun y1 =>
          Option.bind (F23 N (Prod.snd y1, Prod.fst (Prod.snd (Prod.snd y0)), Prod.fst (Prod.snd (Prod.snd (Prod.snd y0))), Prod.snd (Prod.snd (Prod.snd (Prod.snd y0))))) fun y2 =>
          iteP (Prod.fst (Prod.snd (Prod.snd y2)) != (0 : Int)) (
            some ((Prod.fst (Prod.snd (Prod.snd y2)), Prod.fst (Prod.snd y2), Prod.fst (Prod.snd (Prod.snd y2)), [], Prod.snd (Prod.snd (Prod.snd y2))))) (
            Option.bind (F108 N (x6, Prod.fst (Prod.snd y2), Prod.fst (Prod.snd (Prod.snd y2)), Prod.snd (Prod.snd (Prod.snd y2)))) fun y3 =>
            iteP (Prod.fst (Prod.snd y3) != (0 : Int)) (
              some ((Prod.fst (Prod.snd y3), Prod.fst (Prod.snd (Prod.snd y3)), Prod.fst (Prod.snd (Prod.snd (Prod.snd y3))), [], Prod.snd (Prod.snd (Prod.snd (Prod.snd y3)))))) (
              iteP (decide (Prod.fst y3 > (29 : Int))) (
                some (((3 : Int), Prod.fst (Prod.snd (Prod.snd y3)), Prod.fst (Prod.snd (Prod.snd (Prod.snd y3))), [], Prod.snd (Prod.snd (Prod.snd (Prod.snd y3)))))) (
                Option.bind (F109 N (x7, x8, Prod.fst y3, (0 : Int))) fun y4 =>
                Option.bind (F23 N (Prod.snd y4, Prod.fst (Prod.snd (Prod.snd y3)), Prod.fst (Prod.snd (Prod.snd (Prod.snd y3))), Prod.snd (Prod.snd (Prod.snd (Prod.snd y3))))) fun y5 =>
                iteP (Prod.fst (Prod.snd (Prod.snd y5)) != (0 : Int)) (
                  some ((Prod.fst (Prod.snd (Prod.snd y5)), Prod.fst (Prod.snd y5), Prod.fst (Prod.snd (Prod.snd y5)), [], Prod.snd (Prod.snd (Prod.snd y5))))) (
                  iteP (decide (IntKind.wrap IntKind.i64 (x1 + if (1 : Int) > IntKind.wrap IntKind.i64 (Prod.fst y1 + Prod.fst y2) then (1 : Int) else IntKind.wrap IntKind.i64 (Prod.fst y1 + Prod.fst y2)) > x0)) (
                    some (((4 : Int), Prod.fst (Prod.snd y5), Prod.fst (Prod.snd (Prod.snd y5)), [], Prod.snd (Prod.snd (Prod.snd y5))))) (
                    iteP (decide ((List.length x4 + List.length [((0 : Int), IntKind.wrap IntKind.i64 (Prod.fst y1 + Prod.fst y2), IntKind.wrap IntKind.i64 (Prod.fst y4 + Prod.fst y5), ())]) * (24 : Nat) ≤ (140737488355328 : Nat) ∧ List.length x4 + List.length [((0 : Int), IntKind.wrap IntKind.i64 (Prod.fst y1 + Prod.fst y2), IntKind.wrap IntKind.i64 (Prod.fst y4 + Prod.fst y5), ())] ≤ (140737488355328 : Nat))) (
                      Option.bind (f (x0, IntKind.wrap IntKind.i64 (x1 + if (1 : Int) > IntKind.wrap IntKind.i64 (Prod.fst y1 + Prod.fst y2) then (1 : Int) else IntKind.wrap IntKind.i64 (Prod.fst y1 + Prod.fst y2)), Prod.fst (Prod.snd y5), Prod.fst (Prod.snd (Prod.snd y5)), x4 ++ [((0 : Int), IntKind.wrap IntKind.i64 (Prod.fst y1 + Prod.fst y2), IntKind.wrap IntKind.i64 (Prod.fst y4 + Prod.fst y5), ())], x5, x6, x7, x8, x9, x10, Prod.snd (Prod.snd (Prod.snd y5)))) fun r => some r) (
                      none))))))) (
          iteP (decide (IntKind.wrap IntKind.i64 (x1 + (1 : Int)) > x0)) (
            some (((4 : Int), Prod.fst (Prod.snd (Prod.snd y0)), Prod.fst (Prod.snd (Prod.snd (Prod.snd y0))), [], Prod.snd (Prod.snd (Prod.snd (Prod.snd y0)))))) (
            iteP (decide ((List.length x4 + List.length [(Prod.fst y0, (0 : Int), (0 : Int), ())]) * (24 : Nat) ≤ (140737488355328 : Nat) ∧ List.length x4 + List.length [(Prod.fst y0, (0 : Int), (0 : Int), ())] ≤ (140737488355328 : Nat))) (
              Option.bind (f (x0, IntKind.wrap IntKind.i64 (x1 + (1 : Int)), Prod.fst (Prod.snd (Prod.snd y0)), Prod.fst (Prod.snd (Prod.snd (Prod.snd y0))), x4 ++ [(Prod.fst y0, (0 : Int), (0 : Int), ())], x5, x6, x7, x8, x9, x10, Prod.snd (Prod.snd (Prod.snd (Prod.snd y0))))) fun r => some r) (
              none))))))

noncomputable def F74_4094 (N : Nat) : Nat → (Int × Int × Int × Int × (List (Int × (Int × (Int × Unit)))) × (List (Int × (Int × Unit))) × (List (Int × (Int × Unit))) × (List Int) × (List Int) × (List Int) × (List Int) × (List Bool)) → Option (Int × Int × Int × (List (Int × (Int × (Int × Unit)))) × (List Bool))
  | 0, _ => none
  | k + 1, x => B74_4094 N (F74_4094 N k) x

noncomputable def C74_4094 (N : Nat) (k : Nat) : Cut := ⟨[20, 0, 14, 15, 18, 19, 3, 17, 16, 21], X74_4094, tellX I74_4094 (F74_4094 N k) O74_4094⟩

theorem B74_4094_eq (N : Nat) (f : (Int × Int × Int × Int × (List (Int × (Int × (Int × Unit)))) × (List (Int × (Int × Unit))) × (List (Int × (Int × Unit))) × (List Int) × (List Int) × (List Int) × (List Int) × (List Bool)) → Option (Int × Int × Int × (List (Int × (Int × (Int × Unit)))) × (List Bool))) (x0 : Int) (x1 : Int) (x2 : Int) (x3 : Int) (x4 : (List (Int × (Int × (Int × Unit))))) (x5 : (List (Int × (Int × Unit)))) (x6 : (List (Int × (Int × Unit)))) (x7 : (List Int)) (x8 : (List Int)) (x9 : (List Int)) (x10 : (List Int)) (x11 : (List Bool)) : (roundEv (mkE Tryz.prog ownT (tab74 N) []) Tryz.f74.ntmps A74 (loopAt (bod Tryz.f74) 4094) 4094 ⟨[20, 0, 14, 15, 18, 19, 3, 17, 16, 21], X74_4094, tellX I74_4094 f O74_4094⟩ (J74_4094 (x0, x1, x2, x3, x4, x5, x6, x7, x8, x9, x10, x11))).run D74_4094 = B74_4094 N f (x0, x1, x2, x3, x4, x5, x6, x7, x8, x9, x10, x11) := by kernel_rfl

theorem C74_4094_ok (N : Nat) (k : Nat) : ∀ c', At (bod Tryz.f74) 4094 c' → CutOK Tryz.prog Tryz.f74.ntmps (idsL A74) c' (C74_4094 N k) :=
  loop_ok (E := (mkE Tryz.prog ownT (tab74 N) [])) (mkE_ok mix (tab74_ok N)) (cutsIn_ok trivial) (fuel := 200) (by decide +kernel) (by kernel_rfl) I74_4094_ok D74_4094_ok (B74_4094 N) (F74_4094 N) (fun _ => rfl) (fun _ _ => rfl) (fun f x => match x with | (x0, x1, x2, x3, x4, x5, x6, x7, x8, x9, x10, x11) => B74_4094_eq N f x0 x1 x2 x3 x4 x5 x6 x7 x8 x9 x10 x11) k

noncomputable def O74 (r : Int × Int × Int × (List (Int × (Int × (Int × Unit)))) × (List Bool)) : Tr (Pk) := .ret ⟨[.tup [.sl 1 (none), .v (.int .i64 (r.1))]], [some (.var (.agg [.sl 2 (none), .v (.int .i64 (r.2.1)), .v (.int .i64 (r.2.2.1))])), some (.row (Ty.cons (Ty.int IntKind.i64) (Ty.cons (Ty.int IntKind.i64) (Ty.cons (Ty.int IntKind.i64) Ty.unit))) 52 (r.2.2.2.1)), some (.row (Ty.bool) 4 (r.2.2.2.2))]⟩

noncomputable def D74 : Pk → Option (Int × Int × Int × (List (Int × (Int × (Int × Unit)))) × (List Bool))
  | ⟨[.tup [.sl 1 (none), .v (.int .i64 x0)]], [some (.var (.agg [.sl 2 (none), .v (.int .i64 x1), .v (.int .i64 x2)])), some (.row (Ty.cons (Ty.int IntKind.i64) (Ty.cons (Ty.int IntKind.i64) (Ty.cons (Ty.int IntKind.i64) Ty.unit))) 52 x3), some (.row (Ty.bool) 4 x4)]⟩ => some ((x0, x1, x2, x3, x4))
  | _ => none

theorem D74_ok : ∀ y r, D74 y = some r → ∀ z, (O74 r).to z → y = z := by
  intro y r h
  unfold D74 at h
  split at h <;> first | (cases h; intro z hz; exact Option.some.inj hz) | cases h

noncomputable def F74 (N : Nat) : ((List Int) × (List Int) × Int × Int × Int × (List Bool)) → Option (Int × Int × Int × (List (Int × (Int × (Int × Unit)))) × (List Bool))
  | (x0, x1, x2, x3, x4, x5) =>
  Option.bind (F61 N x0) fun y0 =>
  Option.bind (F61 N x1) fun y1 =>
  iteP (Prod.snd y0 != (0 : Int)) (
    some (((50 : Int), x3, x4, [], x5))) (
    iteP (Prod.snd y1 != (0 : Int)) (
      some (((50 : Int), x3, x4, [], x5))) (
      Option.bind (F62 N x0) fun y2 =>
      Option.bind (F62 N x1) fun y3 =>
      Option.bind (F106 N ()) fun y4 =>
      Option.bind (F107 N ()) fun y5 =>
      Option.bind (F74_4094 N N (x2, (0 : Int), x3, x4, [], y2, y3, Prod.fst y5, Prod.snd y5, Prod.snd y4, Prod.fst y4, x5)) fun y6 =>
      some ((Prod.fst y6, Prod.fst (Prod.snd y6), Prod.fst (Prod.snd (Prod.snd y6)), Prod.fst (Prod.snd (Prod.snd (Prod.snd y6))), Prod.snd (Prod.snd (Prod.snd (Prod.snd y6)))))))

theorem F74_eq (N : Nat) (x0 : (List Int)) (x1 : (List Int)) (x2 : Int) (x3 : Int) (x4 : Int) (x5 : (List Bool)) : (fnEv (mkE Tryz.prog ownT (tab74 N) [(4094, (C74_4094 N N))]) Tryz.f74 (J74 (x0, x1, x2, x3, x4, x5))).run D74 = F74 N (x0, x1, x2, x3, x4, x5) := by kernel_rfl

noncomputable def T74 (N : Nat) : Pk → Tr Pk := tell I74 (F74 N) O74

theorem T74_ok (N : Nat) : FOK Tryz.prog 74 (T74 N) :=
  (tell_ok (E := (mkE Tryz.prog ownT (tab74 N) [(4094, (C74_4094 N N))])) (mkE_ok mix (tab74_ok N)) Tryz.func74 (show Tryz.f74.body = some (bod Tryz.f74) by kernel_rfl) (by decide +kernel) (F := F74 N) I74_ok D74_ok (args := A74) (fun _ => by kernel_rfl) (fun _ => by show 4 ≤ Tryz.f74.ntmps; exact of_decide_eq_true (by kernel_rfl)) (cutsIn_ok ⟨fun c' h => (C74_4094_ok N N c' h), trivial⟩) (fun x => match x with | (x0, x1, x2, x3, x4, x5) => F74_eq N x0 x1 x2 x3 x4 x5))


end Go.Proofs.YteddgkplkjldcaaGreat.Am

set_option linter.unusedVariables false
set_option maxRecDepth 100000
namespace Go.Proofs.YteddgkplkjldcaaGreat.Am
open Go.Am

/-! ## f70: mirador/miradorref06.Tail -/

noncomputable def I70 : Pk → Option (ByteArray)
  | ⟨[.v (.string x0)], []⟩ => some x0
  | _ => none

noncomputable def J70 (x : ByteArray) : Pk := ⟨[.v (.string (x))], []⟩

theorem I70_ok : ∀ pk x, I70 pk = some x → pk = J70 x := by
  intro pk x h
  unfold I70 at h
  split at h <;> first | (cases h; rfl) | cases h

noncomputable def A70 : List TV := []

noncomputable def tab70 (N : Nat) : List (Nat × (Pk → Tr Pk)) := []

theorem tab70_ok (N : Nat) : TabOK Tryz.prog (tab70 N) := trivial

noncomputable def O70 (r : ByteArray) : Tr (Pk) := .ret ⟨[.v (.string (r))], []⟩

noncomputable def D70 : Pk → Option (ByteArray)
  | ⟨[.v (.string x0)], []⟩ => some (x0)
  | _ => none

theorem D70_ok : ∀ y r, D70 y = some r → ∀ z, (O70 r).to z → y = z := by
  intro y r h
  unfold D70 at h
  split at h <;> first | (cases h; intro z hz; exact Option.some.inj hz) | cases h

noncomputable def F70 (N : Nat) : (ByteArray) → Option (ByteArray)
  | x0 =>
  iteP (decide ((↑(ByteArray.size x0) : Int) > (32768 : Int))) (
    iteP (decide ((0 : Int) ≤ IntKind.wrap IntKind.i64 ((↑(ByteArray.size x0) : Int) - (32768 : Int)) ∧ IntKind.wrap IntKind.i64 ((↑(ByteArray.size x0) : Int) - (32768 : Int)) ≤ (↑(ByteArray.size x0) : Int))) (
      some (ByteArray.extract x0 (Int.toNat (IntKind.wrap IntKind.i64 ((↑(ByteArray.size x0) : Int) - (32768 : Int)))) (ByteArray.size x0))) (
      none)) (
    some (x0))

theorem F70_eq (N : Nat) (x0 : ByteArray) : (fnEv (mkE Tryz.prog ownT (tab70 N) []) Tryz.f70 (J70 x0)).run D70 = F70 N x0 := by kernel_rfl

noncomputable def T70 (N : Nat) : Pk → Tr Pk := tell I70 (F70 N) O70

theorem T70_ok (N : Nat) : FOK Tryz.prog 70 (T70 N) :=
  (tell_ok (E := (mkE Tryz.prog ownT (tab70 N) [])) (mkE_ok mix (tab70_ok N)) Tryz.func70 (show Tryz.f70.body = some (bod Tryz.f70) by kernel_rfl) (by decide +kernel) (F := F70 N) I70_ok D70_ok (args := A70) (fun _ => by kernel_rfl) (fun _ => by show 1 ≤ Tryz.f70.ntmps; exact of_decide_eq_true (by kernel_rfl)) (cutsIn_ok trivial) (fun x => match x with | x0 => F70_eq N x0))

/-! ## f71: mirador/miradorref06.Valid -/

noncomputable def I71 : Pk → Option (Int × Int × Int)
  | ⟨[.agg [.v (.int .i64 x0), .v (.int .i64 x1), .v (.int .i64 x2)]], []⟩ => some (x0, x1, x2)
  | _ => none

noncomputable def J71 (x : Int × Int × Int) : Pk := ⟨[.agg [.v (.int .i64 (x.1)), .v (.int .i64 (x.2.1)), .v (.int .i64 (x.2.2))]], []⟩

theorem I71_ok : ∀ pk x, I71 pk = some x → pk = J71 x := by
  intro pk x h
  unfold I71 at h
  split at h <;> first | (cases h; rfl) | cases h

noncomputable def A71 : List TV := []

noncomputable def tab71 (N : Nat) : List (Nat × (Pk → Tr Pk)) := []

theorem tab71_ok (N : Nat) : TabOK Tryz.prog (tab71 N) := trivial

noncomputable def O71 (r : Bool) : Tr (Pk) := .ret ⟨[.v (.bool (r))], []⟩

noncomputable def D71 : Pk → Option (Bool)
  | ⟨[.v (.bool x0)], []⟩ => some (x0)
  | _ => none

theorem D71_ok : ∀ y r, D71 y = some r → ∀ z, (O71 r).to z → y = z := by
  intro y r h
  unfold D71 at h
  split at h <;> first | (cases h; intro z hz; exact Option.some.inj hz) | cases h

noncomputable def F71 (N : Nat) : (Int × Int × Int) → Option (Bool)
  | (x0, x1, x2) =>
  iteP (x1 == (0 : Int)) (
    iteP (x2 == (0 : Int)) (
      iteP (decide (x0 ≥ (0 : Int))) (
        some (decide (x0 ≤ (255 : Int)))) (
        some (false))) (
      some (false))) (
    iteP (x0 == (0 : Int)) (
      iteP (decide (x1 ≥ (3 : Int))) (
        iteP (decide (x1 ≤ (258 : Int))) (
          iteP (decide (x2 ≥ (1 : Int))) (
            some (decide (x2 ≤ (32768 : Int)))) (
            some (false))) (
          some (false))) (
        some (false))) (
      some (false)))

theorem F71_eq (N : Nat) (x0 : Int) (x1 : Int) (x2 : Int) : (fnEv (mkE Tryz.prog ownT (tab71 N) []) Tryz.f71 (J71 (x0, x1, x2))).run D71 = F71 N (x0, x1, x2) := by kernel_rfl

noncomputable def T71 (N : Nat) : Pk → Tr Pk := tell I71 (F71 N) O71

theorem T71_ok (N : Nat) : FOK Tryz.prog 71 (T71 N) :=
  (tell_ok (E := (mkE Tryz.prog ownT (tab71 N) [])) (mkE_ok mix (tab71_ok N)) Tryz.func71 (show Tryz.f71.body = some (bod Tryz.f71) by kernel_rfl) (by decide +kernel) (F := F71 N) I71_ok D71_ok (args := A71) (fun _ => by kernel_rfl) (fun _ => by show 1 ≤ Tryz.f71.ntmps; exact of_decide_eq_true (by kernel_rfl)) (cutsIn_ok trivial) (fun x => match x with | (x0, x1, x2) => F71_eq N x0 x1 x2))

/-! ## f28: mirador/miradorref06.Expand -/

noncomputable def I28 : Pk → Option (ByteArray × (List (Int × (Int × (Int × Unit)))))
  | ⟨[.v (.string x0), .ro (.cons (.int .i64) (.cons (.int .i64) (.cons (.int .i64) .unit))) x1], []⟩ => some (x0, x1)
  | _ => none

noncomputable def J28 (x : ByteArray × (List (Int × (Int × (Int × Unit))))) : Pk := ⟨[.v (.string (x.1)), .ro (.cons (.int .i64) (.cons (.int .i64) (.cons (.int .i64) .unit))) (x.2)], []⟩

theorem I28_ok : ∀ pk x, I28 pk = some x → pk = J28 x := by
  intro pk x h
  unfold I28 at h
  split at h <;> first | (cases h; rfl) | cases h

noncomputable def A28 : List TV := []

noncomputable def tab28 (N : Nat) : List (Nat × (Pk → Tr Pk)) := [(70, T70 N), (71, T71 N)]

theorem tab28_ok (N : Nat) : TabOK Tryz.prog (tab28 N) := ⟨T70_ok N, ⟨T71_ok N, trivial⟩⟩

def X28_256318 : Ex → List Nat
  | .ret => [4, 5]
  | .exit 2 => [8, 7, 1, 6]
  | .exit 1 => [8, 7, 1, 6]
  | .exit 0 => [6, 7]
  | _ => []

def X28_250 : Ex → List Nat
  | .ret => [4, 5]
  | .exit 0 => [6, 7]
  | _ => []

noncomputable def I28_250 : Pk → Option (Int × (List (Int × (Int × (Int × Unit)))) × Int × (List Int))
  | ⟨[.v (.int .i64 x0), .ro (Ty.cons (Ty.int IntKind.i64) (Ty.cons (Ty.int IntKind.i64) (Ty.cons (Ty.int IntKind.i64) Ty.unit))) x1, .v (.int .i64 x2), .sl 0 (none)], [some (.row (Ty.int IntKind.u8) 5 x3)]⟩ => some (x0, x1, x2, x3)
  | _ => none

noncomputable def J28_250 (x : Int × (List (Int × (Int × (Int × Unit)))) × Int × (List Int)) : Pk := ⟨[.v (.int .i64 (x.1)), .ro (Ty.cons (Ty.int IntKind.i64) (Ty.cons (Ty.int IntKind.i64) (Ty.cons (Ty.int IntKind.i64) Ty.unit))) (x.2.1), .v (.int .i64 (x.2.2.1)), .sl 0 (none)], [some (.row (Ty.int IntKind.u8) 5 (x.2.2.2))]⟩

theorem I28_250_ok : ∀ pk x, I28_250 pk = some x → pk = J28_250 x := by
  intro pk x h
  unfold I28_250 at h
  split at h <;> first | (cases h; rfl) | cases h

noncomputable def I28_256318 : Pk → Option (Int × Int × (List (Int × (Int × (Int × Unit)))) × Int × (List Int))
  | ⟨[.sl 0 (none), .v (.int .i64 x0), .v (.int .i64 x1), .ro (Ty.cons (Ty.int IntKind.i64) (Ty.cons (Ty.int IntKind.i64) (Ty.cons (Ty.int IntKind.i64) Ty.unit))) x2, .v (.int .i64 x3)], [some (.row (Ty.int IntKind.u8) 5 x4)]⟩ => some (x0, x1, x2, x3, x4)
  | _ => none

noncomputable def J28_256318 (x : Int × Int × (List (Int × (Int × (Int × Unit)))) × Int × (List Int)) : Pk := ⟨[.sl 0 (none), .v (.int .i64 (x.1)), .v (.int .i64 (x.2.1)), .ro (Ty.cons (Ty.int IntKind.i64) (Ty.cons (Ty.int IntKind.i64) (Ty.cons (Ty.int IntKind.i64) Ty.unit))) (x.2.2.1), .v (.int .i64 (x.2.2.2.1))], [some (.row (Ty.int IntKind.u8) 5 (x.2.2.2.2))]⟩

theorem I28_256318_ok : ∀ pk x, I28_256318 pk = some x → pk = J28_256318 x := by
  intro pk x h
  unfold I28_256318 at h
  split at h <;> first | (cases h; rfl) | cases h

noncomputable def O28_256318 (r : Int × Int × (List (Int × (Int × (Int × Unit)))) × (List Int)) : Tr (Ex × Pk) := .ret (.exit 2, ⟨[.v (.int .i64 (r.1)), .v (.int .i64 (r.2.1)), .ro (Ty.cons (Ty.int IntKind.i64) (Ty.cons (Ty.int IntKind.i64) (Ty.cons (Ty.int IntKind.i64) Ty.unit))) (r.2.2.1), .sl 0 (none)], [some (.row (Ty.int IntKind.u8) 5 (r.2.2.2))]⟩)

noncomputable def D28_256318 : Ex × Pk → Option (Int × Int × (List (Int × (Int × (Int × Unit)))) × (List Int))
  | (.exit 2, ⟨[.v (.int .i64 x0), .v (.int .i64 x1), .ro (Ty.cons (Ty.int IntKind.i64) (Ty.cons (Ty.int IntKind.i64) (Ty.cons (Ty.int IntKind.i64) Ty.unit))) x2, .sl 0 (none)], [some (.row (Ty.int IntKind.u8) 5 x3)]⟩) => some ((x0, x1, x2, x3))
  | _ => none

theorem D28_256318_ok : ∀ y r, D28_256318 y = some r → ∀ z, (O28_256318 r).to z → y = z := by
  intro y r h
  unfold D28_256318 at h
  split at h <;> first | (cases h; intro z hz; exact Option.some.inj hz) | cases h

noncomputable def B28_256318 (N : Nat) (f : (Int × Int × (List (Int × (Int × (Int × Unit)))) × Int × (List Int)) → Option (Int × Int × (List (Int × (Int × (Int × Unit)))) × (List Int))) : (Int × Int × (List (Int × (Int × (Int × Unit)))) × Int × (List Int)) → Option (Int × Int × (List (Int × (Int × (Int × Unit)))) × (List Int))
  | (x0, x1, x2, x3, x4) =>
  iteP (within x3 (List.length x2)) (
    Option.bind (x2[Int.toNat x3]?) fun y0 =>
    iteP (decide (x0 < Prod.fst (Prod.snd y0))) (
      iteP (within x3 (List.length x2)) (
        Option.bind (x2[Int.toNat x3]?) fun y1 =>
        iteP (within (IntKind.wrap IntKind.i64 ((↑(List.length x4) : Int) - Prod.fst (Prod.snd (Prod.snd y1)))) (List.length x4)) (
          Option.bind (x4[Int.toNat (IntKind.wrap IntKind.i64 ((↑(List.length x4) : Int) - Prod.fst (Prod.snd (Prod.snd y1))))]?) fun y2 =>
          iteP (decide ((List.length x4 + List.length [y2]) * (1 : Nat) ≤ (140737488355328 : Nat) ∧ List.length x4 + List.length [y2] ≤ (140737488355328 : Nat))) (
            Option.bind (f (IntKind.wrap IntKind.i64 (x0 + (1 : Int)), x1, x2, x3, x4 ++ [y2])) fun r => some r) (
            none)) (
          none)) (
        none)) (
      some ((x3, x1, x2, x4)))) (
    none)

noncomputable def F28_256318 (N : Nat) : Nat → (Int × Int × (List (Int × (Int × (Int × Unit)))) × Int × (List Int)) → Option (Int × Int × (List (Int × (Int × (Int × Unit)))) × (List Int))
  | 0, _ => none
  | k + 1, x => B28_256318 N (F28_256318 N k) x

noncomputable def C28_256318 (N : Nat) (k : Nat) : Cut := ⟨[6, 10, 7, 1, 8], X28_256318, tellX I28_256318 (F28_256318 N k) O28_256318⟩

theorem B28_256318_eq (N : Nat) (f : (Int × Int × (List (Int × (Int × (Int × Unit)))) × Int × (List Int)) → Option (Int × Int × (List (Int × (Int × (Int × Unit)))) × (List Int))) (x0 : Int) (x1 : Int) (x2 : (List (Int × (Int × (Int × Unit))))) (x3 : Int) (x4 : (List Int)) : (roundEv (mkE Tryz.prog ownT (tab28 N) []) Tryz.f28.ntmps A28 (loopAt (bod Tryz.f28) 256318) 256318 ⟨[6, 10, 7, 1, 8], X28_256318, tellX I28_256318 f O28_256318⟩ (J28_256318 (x0, x1, x2, x3, x4))).run D28_256318 = B28_256318 N f (x0, x1, x2, x3, x4) := by kernel_rfl

theorem C28_256318_ok (N : Nat) (k : Nat) : ∀ c', At (bod Tryz.f28) 256318 c' → CutOK Tryz.prog Tryz.f28.ntmps (idsL A28) c' (C28_256318 N k) :=
  loop_ok (E := (mkE Tryz.prog ownT (tab28 N) [])) (mkE_ok mix (tab28_ok N)) (cutsIn_ok trivial) (fuel := 200) (by decide +kernel) (by kernel_rfl) I28_256318_ok D28_256318_ok (B28_256318 N) (F28_256318 N) (fun _ => rfl) (fun _ _ => rfl) (fun f x => match x with | (x0, x1, x2, x3, x4) => B28_256318_eq N f x0 x1 x2 x3 x4) k

noncomputable def O28_250 (r : ((ByteArray × Int) ⊕ (Int × (List Int)))) : Tr (Ex × Pk) := .sum _ _ r (fun u => .ret (.ret, ⟨[.v (.string (u.1)), .v (.int .i64 (u.2))], []⟩)) (fun v => .ret (.exit 0, ⟨[.sl 0 (none), .v (.int .i64 (v.1))], [some (.row (Ty.int IntKind.u8) 5 (v.2))]⟩))

noncomputable def D28_250 : Ex × Pk → Option (((ByteArray × Int) ⊕ (Int × (List Int))))
  | (.ret, ⟨[.v (.string x0), .v (.int .i64 x1)], []⟩) => some (.inl ((x0, x1)))
  | (.exit 0, ⟨[.sl 0 (none), .v (.int .i64 x0)], [some (.row (Ty.int IntKind.u8) 5 x1)]⟩) => some (.inr ((x0, x1)))
  | _ => none

theorem D28_250_ok : ∀ y r, D28_250 y = some r → ∀ z, (O28_250 r).to z → y = z := by
  intro y r h
  unfold D28_250 at h
  split at h <;> first | (cases h; intro z hz; exact Option.some.inj hz) | cases h

noncomputable def B28_250 (N : Nat) (f : (Int × (List (Int × (Int × (Int × Unit)))) × Int × (List Int)) → Option (((ByteArray × Int) ⊕ (Int × (List Int))))) : (Int × (List (Int × (Int × (Int × Unit)))) × Int × (List Int)) → Option (((ByteArray × Int) ⊕ (Int × (List Int))))
  | (x0, x1, x2, x3) =>
  iteP (decide (x2 < (↑(List.length x1) : Int))) (
    iteP (within x2 (List.length x1)) (
      Option.bind (x1[Int.toNat x2]?) fun y0 =>
      Option.bind (F71 N (Prod.fst y0, Prod.fst (Prod.snd y0), Prod.fst (Prod.snd (Prod.snd y0)))) fun y1 =>
      iteP (!y1) (
        some (.inl ((ByteArray.mk #[], (1 : Int))))) (
        iteP (within x2 (List.length x1)) (
          Option.bind (x1[Int.toNat x2]?) fun y2 =>
          iteP (Prod.fst (Prod.snd y2) == (0 : Int)) (
            iteP (within x2 (List.length x1)) (
              Option.bind (x1[Int.toNat x2]?) fun y3 =>
              iteP (decide ((List.length x3 + List.length [IntKind.wrap IntKind.u8 (Prod.fst y3)]) * (1 : Nat) ≤ (140737488355328 : Nat) ∧ List.length x3 + List.length [IntKind.wrap IntKind.u8 (Prod.fst y3)] ≤ (140737488355328 : Nat))) (
                Option.bind (f (x0, x1, IntKind.wrap IntKind.i64 (x2 + (1 : Int)), x3 ++ [IntKind.wrap IntKind.u8 (Prod.fst y3)])) fun r => match r with | .inl (y) => some (.inl (y)) | .inr (y) => some (.inr (y))) (
                none)) (
              none)) (
            iteP (within x2 (List.length x1)) (
              Option.bind (x1[Int.toNat x2]?) fun y4 =>
              iteP (decide (Prod.fst (Prod.snd (Prod.snd y4)) > (↑(List.length x3) : Int))) (
                some (.inl ((ByteArray.mk #[], (60 : Int))))) (
                Option.bind (F28_256318 N N ((0 : Int), x0, x1, x2, x3)) fun y5 =>
                Option.bind (f (Prod.fst (Prod.snd y5), Prod.fst (Prod.snd (Prod.snd y5)), IntKind.wrap IntKind.i64 (Prod.fst y5 + (1 : Int)), Prod.snd (Prod.snd (Prod.snd y5)))) fun r => match r with | .inl (y) => some (.inl (y)) | .inr (y) => some (.inr (y)))) (
              none))) (
          none))) (
      none)) (
    some (.inr ((x0, x3))))

noncomputable def F28_250 (N : Nat) : Nat → (Int × (List (Int × (Int × (Int × Unit)))) × Int × (List Int)) → Option (((ByteArray × Int) ⊕ (Int × (List Int))))
  | 0, _ => none
  | k + 1, x => B28_250 N (F28_250 N k) x

noncomputable def C28_250 (N : Nat) (k : Nat) : Cut := ⟨[7, 1, 8, 6], X28_250, tellX I28_250 (F28_250 N k) O28_250⟩

theorem B28_250_eq (N : Nat) (f : (Int × (List (Int × (Int × (Int × Unit)))) × Int × (List Int)) → Option (((ByteArray × Int) ⊕ (Int × (List Int))))) (x0 : Int) (x1 : (List (Int × (Int × (Int × Unit))))) (x2 : Int) (x3 : (List Int)) : (roundEv (mkE Tryz.prog ownT (tab28 N) [(256318, (C28_256318 N N))]) Tryz.f28.ntmps A28 (loopAt (bod Tryz.f28) 250) 250 ⟨[7, 1, 8, 6], X28_250, tellX I28_250 f O28_250⟩ (J28_250 (x0, x1, x2, x3))).run D28_250 = B28_250 N f (x0, x1, x2, x3) := by kernel_rfl

theorem C28_250_ok (N : Nat) (k : Nat) : ∀ c', At (bod Tryz.f28) 250 c' → CutOK Tryz.prog Tryz.f28.ntmps (idsL A28) c' (C28_250 N k) :=
  loop_ok (E := (mkE Tryz.prog ownT (tab28 N) [(256318, (C28_256318 N N))])) (mkE_ok mix (tab28_ok N)) (cutsIn_ok ⟨fun c' h => (C28_256318_ok N N c' h), trivial⟩) (fuel := 200) (by decide +kernel) (by kernel_rfl) I28_250_ok D28_250_ok (B28_250 N) (F28_250 N) (fun _ => rfl) (fun _ _ => rfl) (fun f x => match x with | (x0, x1, x2, x3) => B28_250_eq N f x0 x1 x2 x3) k

noncomputable def O28 (r : ByteArray × Int) : Tr (Pk) := .ret ⟨[.tup [.v (.string (r.1)), .v (.int .i64 (r.2))]], []⟩

noncomputable def D28 : Pk → Option (ByteArray × Int)
  | ⟨[.tup [.v (.string x0), .v (.int .i64 x1)]], []⟩ => some ((x0, x1))
  | _ => none

theorem D28_ok : ∀ y r, D28 y = some r → ∀ z, (O28 r).to z → y = z := by
  intro y r h
  unfold D28 at h
  split at h <;> first | (cases h; intro z hz; exact Option.some.inj hz) | cases h

noncomputable def F28 (N : Nat) : (ByteArray × (List (Int × (Int × (Int × Unit))))) → Option (ByteArray × Int)
  | (x0, x1) =>
  Option.bind (F70 N x0) fun y0 =>
  iteP (decide (((0 : Nat) + List.length (bytesOf y0)) * (1 : Nat) ≤ (140737488355328 : Nat) ∧ (0 : Nat) + List.length (bytesOf y0) ≤ (140737488355328 : Nat))) (
    Option.bind (F28_250 N N ((↑(List.length ([] ++ bytesOf y0)) : Int), x1, (0 : Int), [] ++ bytesOf y0)) fun y1 =>
    match y1 with
    | .inl y2 =>
      some ((Prod.fst y2, Prod.snd y2))
    | .inr y2 =>
      iteP (decide ((0 : Int) ≤ Prod.fst y2 ∧ Prod.fst y2 ≤ (↑(List.length (Prod.snd y2)) : Int))) (
        some ((stringOf (List.take (List.length (Prod.snd y2) - Int.toNat (Prod.fst y2)) (List.drop (Int.toNat (Prod.fst y2)) (Prod.snd y2))), (0 : Int)))) (
        none)) (
    none)

theorem F28_eq (N : Nat) (x0 : ByteArray) (x1 : (List (Int × (Int × (Int × Unit))))) : (fnEv (mkE Tryz.prog ownT (tab28 N) [(256318, (C28_256318 N N)), (250, (C28_250 N N))]) Tryz.f28 (J28 (x0, x1))).run D28 = F28 N (x0, x1) := by kernel_rfl

noncomputable def T28 (N : Nat) : Pk → Tr Pk := tell I28 (F28 N) O28

theorem T28_ok (N : Nat) : FOK Tryz.prog 28 (T28 N) :=
  (tell_ok (E := (mkE Tryz.prog ownT (tab28 N) [(256318, (C28_256318 N N)), (250, (C28_250 N N))])) (mkE_ok mix (tab28_ok N)) Tryz.func28 (show Tryz.f28.body = some (bod Tryz.f28) by kernel_rfl) (by decide +kernel) (F := F28 N) I28_ok D28_ok (args := A28) (fun _ => by kernel_rfl) (fun _ => by show 2 ≤ Tryz.f28.ntmps; exact of_decide_eq_true (by kernel_rfl)) (cutsIn_ok ⟨fun c' h => (C28_256318_ok N N c' h), ⟨fun c' h => (C28_250_ok N N c' h), trivial⟩⟩) (fun x => match x with | (x0, x1) => F28_eq N x0 x1))

/-! ## f29: mirador/miradorref08.Block -/

noncomputable def I29 : Pk → Option (ByteArray × Int × Int × Int × (List Bool))
  | ⟨[.adr 0 [], .v (.string x0), .v (.int .i64 x1)], [some (.var (.agg [.sl 1 none, .v (.int .i64 x2), .v (.int .i64 x3)])), some (.row .bool 4 x4)]⟩ => some (x0, x1, x2, x3, x4)
  | _ => none

noncomputable def J29 (x : ByteArray × Int × Int × Int × (List Bool)) : Pk := ⟨[.adr 0 [], .v (.string (x.1)), .v (.int .i64 (x.2.1))], [some (.var (.agg [.sl 1 none, .v (.int .i64 (x.2.2.1)), .v (.int .i64 (x.2.2.2.1))])), some (.row .bool 4 (x.2.2.2.2))]⟩

theorem I29_ok : ∀ pk x, I29 pk = some x → pk = J29 x := by
  intro pk x h
  unfold I29 at h
  split at h <;> first | (cases h; rfl) | cases h

noncomputable def A29 : List TV := [.adr 0 []]

noncomputable def tab29 (N : Nat) : List (Nat × (Pk → Tr Pk)) := [(23, T23 N), (72, T72 N), (73, T73 N), (24, T24 N), (74, T74 N), (28, T28 N)]

theorem tab29_ok (N : Nat) : TabOK Tryz.prog (tab29 N) := ⟨T23_ok N, ⟨T72_ok N, ⟨T73_ok N, ⟨T24_ok N, ⟨T74_ok N, ⟨T28_ok N, trivial⟩⟩⟩⟩⟩⟩

noncomputable def O29 (r : ByteArray × Bool × Int × Int × Int × Int × (List Bool)) : Tr (Pk) := .ret ⟨[.tup [.v (.string (r.1)), .v (.bool (r.2.1)), .v (.int .i64 (r.2.2.1)), .v (.int .i64 (r.2.2.2.1))]], [some (.var (.agg [.sl 1 (none), .v (.int .i64 (r.2.2.2.2.1)), .v (.int .i64 (r.2.2.2.2.2.1))])), some (.row (Ty.bool) 4 (r.2.2.2.2.2.2))]⟩

noncomputable def D29 : Pk → Option (ByteArray × Bool × Int × Int × Int × Int × (List Bool))
  | ⟨[.tup [.v (.string x0), .v (.bool x1), .v (.int .i64 x2), .v (.int .i64 x3)]], [some (.var (.agg [.sl 1 (none), .v (.int .i64 x4), .v (.int .i64 x5)])), some (.row (Ty.bool) 4 x6)]⟩ => some ((x0, x1, x2, x3, x4, x5, x6))
  | _ => none

theorem D29_ok : ∀ y r, D29 y = some r → ∀ z, (O29 r).to z → y = z := by
  intro y r h
  unfold D29 at h
  split at h <;> first | (cases h; intro z hz; exact Option.some.inj hz) | cases h

noncomputable def F29 (N : Nat) : (ByteArray × Int × Int × Int × (List Bool)) → Option (ByteArray × Bool × Int × Int × Int × Int × (List Bool))
  | (x0, x1, x2, x3, x4) =>
  Option.bind (F23 N ((1 : Int), x2, x3, x4)) fun y0 =>
  Option.bind (F23 N ((2 : Int), Prod.fst (Prod.snd y0), Prod.fst (Prod.snd (Prod.snd y0)), Prod.snd (Prod.snd (Prod.snd y0)))) fun y1 =>
  iteP (Prod.fst (Prod.snd (Prod.snd y1)) != (0 : Int)) (
    some ((ByteArray.mk #[], false, (0 : Int), Prod.fst (Prod.snd (Prod.snd y1)), Prod.fst (Prod.snd y1), Prod.fst (Prod.snd (Prod.snd y1)), Prod.snd (Prod.snd (Prod.snd y1))))) (
    iteP (Prod.fst y1 == (0 : Int)) (
      Option.bind (F72 N (x1, Prod.fst (Prod.snd y1), Prod.fst (Prod.snd (Prod.snd y1)), Prod.snd (Prod.snd (Prod.snd y1)))) fun y2 =>
      iteP (Prod.fst (Prod.snd y2) != (0 : Int)) (
        some ((ByteArray.mk #[], false, (0 : Int), Prod.fst (Prod.snd y2), Prod.fst (Prod.snd (Prod.snd y2)), Prod.fst (Prod.snd (Prod.snd (Prod.snd y2))), Prod.snd (Prod.snd (Prod.snd (Prod.snd y2)))))) (
        some ((Prod.fst y2, Prod.fst y0 == (1 : Int), (0 : Int), (0 : Int), Prod.fst (Prod.snd (Prod.snd y2)), Prod.fst (Prod.snd (Prod.snd (Prod.snd y2))), Prod.snd (Prod.snd (Prod.snd (Prod.snd y2))))))) (
      iteP (Prod.fst y1 == (3 : Int)) (
        some ((ByteArray.mk #[], false, (0 : Int), (80 : Int), Prod.fst (Prod.snd y1), Prod.fst (Prod.snd (Prod.snd y1)), Prod.snd (Prod.snd (Prod.snd y1))))) (
        Option.bind (F73 N ()) fun y3 =>
        iteP (Prod.fst y1 == (2 : Int)) (
          Option.bind (F24 N (Prod.fst (Prod.snd y1), Prod.fst (Prod.snd (Prod.snd y1)), Prod.snd (Prod.snd (Prod.snd y1)))) fun y4 =>
          match y4 with
          | .inl y5 =>
            iteP (Prod.fst y5 != (0 : Int)) (
              some ((ByteArray.mk #[], false, (0 : Int), Prod.fst y5, Prod.fst (Prod.snd y5), Prod.fst (Prod.snd (Prod.snd y5)), Prod.snd (Prod.snd (Prod.snd (Prod.snd (Prod.snd y5))))))) (
              Option.bind (F74 N (Prod.fst (Prod.snd (Prod.snd (Prod.snd y5))), Prod.fst (Prod.snd (Prod.snd (Prod.snd (Prod.snd y5)))), x1, Prod.fst (Prod.snd y5), Prod.fst (Prod.snd (Prod.snd y5)), Prod.snd (Prod.snd (Prod.snd (Prod.snd (Prod.snd y5)))))) fun y6 =>
              iteP (Prod.fst y6 == (50 : Int)) (
                some ((ByteArray.mk #[], false, (0 : Int), (80 : Int), Prod.fst (Prod.snd y6), Prod.fst (Prod.snd (Prod.snd y6)), Prod.snd (Prod.snd (Prod.snd (Prod.snd y6)))))) (
                iteP (Prod.fst y6 == (3 : Int)) (
                  some ((ByteArray.mk #[], false, (0 : Int), (80 : Int), Prod.fst (Prod.snd y6), Prod.fst (Prod.snd (Prod.snd y6)), Prod.snd (Prod.snd (Prod.snd (Prod.snd y6)))))) (
                  iteP (Prod.fst y6 != (0 : Int)) (
                    some ((ByteArray.mk #[], false, (0 : Int), Prod.fst y6, Prod.fst (Prod.snd y6), Prod.fst (Prod.snd (Prod.snd y6)), Prod.snd (Prod.snd (Prod.snd (Prod.snd y6)))))) (
                    Option.bind (F28 N (x0, Prod.fst (Prod.snd (Prod.snd (Prod.snd y6))))) fun y7 =>
                    iteP (Prod.snd y7 != (0 : Int)) (
                      some ((ByteArray.mk #[], false, (0 : Int), Prod.snd y7, Prod.fst (Prod.snd y6), Prod.fst (Prod.snd (Prod.snd y6)), Prod.snd (Prod.snd (Prod.snd (Prod.snd y6)))))) (
                      some ((Prod.fst y7, Prod.fst y0 == (1 : Int), Prod.fst y1, (0 : Int), Prod.fst (Prod.snd y6), Prod.fst (Prod.snd (Prod.snd y6)), Prod.snd (Prod.snd (Prod.snd (Prod.snd y6))))))))))
          | .inr y5 =>
            iteP (Prod.fst (Prod.snd (Prod.snd (Prod.snd y5))) != (0 : Int)) (
              some ((ByteArray.mk #[], false, (0 : Int), Prod.fst (Prod.snd (Prod.snd (Prod.snd y5))), Prod.fst (Prod.snd (Prod.snd (Prod.snd (Prod.snd y5)))), Prod.fst (Prod.snd (Prod.snd (Prod.snd (Prod.snd (Prod.snd y5))))), Prod.snd (Prod.snd (Prod.snd (Prod.snd (Prod.snd (Prod.snd (Prod.snd y5))))))))) (
              Option.bind (F74 N (List.take (Prod.fst y5) (List.drop (0 : Nat) (Prod.fst (Prod.snd (Prod.snd (Prod.snd (Prod.snd (Prod.snd (Prod.snd y5)))))))), List.take (Prod.fst (Prod.snd (Prod.snd y5))) (List.drop (Prod.fst (Prod.snd y5)) (Prod.fst (Prod.snd (Prod.snd (Prod.snd (Prod.snd (Prod.snd (Prod.snd y5)))))))), x1, Prod.fst (Prod.snd (Prod.snd (Prod.snd (Prod.snd y5)))), Prod.fst (Prod.snd (Prod.snd (Prod.snd (Prod.snd (Prod.snd y5))))), Prod.snd (Prod.snd (Prod.snd (Prod.snd (Prod.snd (Prod.snd (Prod.snd y5)))))))) fun y8 =>
              iteP (Prod.fst y8 == (50 : Int)) (
                some ((ByteArray.mk #[], false, (0 : Int), (80 : Int), Prod.fst (Prod.snd y8), Prod.fst (Prod.snd (Prod.snd y8)), Prod.snd (Prod.snd (Prod.snd (Prod.snd y8)))))) (
                iteP (Prod.fst y8 == (3 : Int)) (
                  some ((ByteArray.mk #[], false, (0 : Int), (80 : Int), Prod.fst (Prod.snd y8), Prod.fst (Prod.snd (Prod.snd y8)), Prod.snd (Prod.snd (Prod.snd (Prod.snd y8)))))) (
                  iteP (Prod.fst y8 != (0 : Int)) (
                    some ((ByteArray.mk #[], false, (0 : Int), Prod.fst y8, Prod.fst (Prod.snd y8), Prod.fst (Prod.snd (Prod.snd y8)), Prod.snd (Prod.snd (Prod.snd (Prod.snd y8)))))) (
                    Option.bind (F28 N (x0, Prod.fst (Prod.snd (Prod.snd (Prod.snd y8))))) fun y9 =>
                    iteP (Prod.snd y9 != (0 : Int)) (
                      some ((ByteArray.mk #[], false, (0 : Int), Prod.snd y9, Prod.fst (Prod.snd y8), Prod.fst (Prod.snd (Prod.snd y8)), Prod.snd (Prod.snd (Prod.snd (Prod.snd y8)))))) (
                      some ((Prod.fst y9, Prod.fst y0 == (1 : Int), Prod.fst y1, (0 : Int), Prod.fst (Prod.snd y8), Prod.fst (Prod.snd (Prod.snd y8)), Prod.snd (Prod.snd (Prod.snd (Prod.snd y8))))))))))) (
          Option.bind (F74 N (Prod.fst y3, Prod.snd y3, x1, Prod.fst (Prod.snd y1), Prod.fst (Prod.snd (Prod.snd y1)), Prod.snd (Prod.snd (Prod.snd y1)))) fun y10 =>
          iteP (Prod.fst y10 == (50 : Int)) (
            some ((ByteArray.mk #[], false, (0 : Int), (80 : Int), Prod.fst (Prod.snd y10), Prod.fst (Prod.snd (Prod.snd y10)), Prod.snd (Prod.snd (Prod.snd (Prod.snd y10)))))) (
            iteP (Prod.fst y10 == (3 : Int)) (
              some ((ByteArray.mk #[], false, (0 : Int), (80 : Int), Prod.fst (Prod.snd y10), Prod.fst (Prod.snd (Prod.snd y10)), Prod.snd (Prod.snd (Prod.snd (Prod.snd y10)))))) (
              iteP (Prod.fst y10 != (0 : Int)) (
                some ((ByteArray.mk #[], false, (0 : Int), Prod.fst y10, Prod.fst (Prod.snd y10), Prod.fst (Prod.snd (Prod.snd y10)), Prod.snd (Prod.snd (Prod.snd (Prod.snd y10)))))) (
                Option.bind (F28 N (x0, Prod.fst (Prod.snd (Prod.snd (Prod.snd y10))))) fun y11 =>
                iteP (Prod.snd y11 != (0 : Int)) (
                  some ((ByteArray.mk #[], false, (0 : Int), Prod.snd y11, Prod.fst (Prod.snd y10), Prod.fst (Prod.snd (Prod.snd y10)), Prod.snd (Prod.snd (Prod.snd (Prod.snd y10)))))) (
                  some ((Prod.fst y11, Prod.fst y0 == (1 : Int), Prod.fst y1, (0 : Int), Prod.fst (Prod.snd y10), Prod.fst (Prod.snd (Prod.snd y10)), Prod.snd (Prod.snd (Prod.snd (Prod.snd y10)))))))))))))

theorem F29_eq (N : Nat) (x0 : ByteArray) (x1 : Int) (x2 : Int) (x3 : Int) (x4 : (List Bool)) : (fnEv (mkE Tryz.prog ownT (tab29 N) []) Tryz.f29 (J29 (x0, x1, x2, x3, x4))).run D29 = F29 N (x0, x1, x2, x3, x4) := by kernel_rfl

noncomputable def T29 (N : Nat) : Pk → Tr Pk := tell I29 (F29 N) O29

theorem T29_ok (N : Nat) : FOK Tryz.prog 29 (T29 N) :=
  (tell_ok (E := (mkE Tryz.prog ownT (tab29 N) [])) (mkE_ok mix (tab29_ok N)) Tryz.func29 (show Tryz.f29.body = some (bod Tryz.f29) by kernel_rfl) (by decide +kernel) (F := F29 N) I29_ok D29_ok (args := A29) (fun _ => by kernel_rfl) (fun _ => by show 3 ≤ Tryz.f29.ntmps; exact of_decide_eq_true (by kernel_rfl)) (cutsIn_ok trivial) (fun x => match x with | (x0, x1, x2, x3, x4) => F29_eq N x0 x1 x2 x3 x4))

/-! ## f32: mirador/miradorref08.Whole -/

noncomputable def I32 : Pk → Option (ByteArray × ByteArray × Int)
  | ⟨[.v (.string x0), .v (.string x1), .v (.int .i64 x2)], []⟩ => some (x0, x1, x2)
  | _ => none

noncomputable def J32 (x : ByteArray × ByteArray × Int) : Pk := ⟨[.v (.string (x.1)), .v (.string (x.2.1)), .v (.int .i64 (x.2.2))], []⟩

theorem I32_ok : ∀ pk x, I32 pk = some x → pk = J32 x := by
  intro pk x h
  unfold I32 at h
  split at h <;> first | (cases h; rfl) | cases h

noncomputable def A32 : List TV := []

noncomputable def tab32 (N : Nat) : List (Nat × (Pk → Tr Pk)) := [(22, T22 N), (29, T29 N)]

theorem tab32_ok (N : Nat) : TabOK Tryz.prog (tab32 N) := ⟨T22_ok N, ⟨T29_ok N, trivial⟩⟩

def X32_30 : Ex → List Nat
  | .ret => [6, 7, 8]
  | .exit 0 => [6, 7, 8]
  | _ => []

noncomputable def I32_30 : Pk → Option (ByteArray × Int × ByteArray × Int × Int × (List Bool))
  | ⟨[.adr 0 [], .v (.string x0), .v (.int .i64 x1), .v (.string x2)], [some (.var (.agg [.sl 1 (none), .v (.int .i64 x3), .v (.int .i64 x4)])), some (.row (Ty.bool) 4 x5)]⟩ => some (x0, x1, x2, x3, x4, x5)
  | _ => none

noncomputable def J32_30 (x : ByteArray × Int × ByteArray × Int × Int × (List Bool)) : Pk := ⟨[.adr 0 [], .v (.string (x.1)), .v (.int .i64 (x.2.1)), .v (.string (x.2.2.1))], [some (.var (.agg [.sl 1 (none), .v (.int .i64 (x.2.2.2.1)), .v (.int .i64 (x.2.2.2.2.1))])), some (.row (Ty.bool) 4 (x.2.2.2.2.2))]⟩

theorem I32_30_ok : ∀ pk x, I32_30 pk = some x → pk = J32_30 x := by
  intro pk x h
  unfold I32_30 at h
  split at h <;> first | (cases h; rfl) | cases h

noncomputable def O32_30 (r : ByteArray × Int × Int) : Tr (Ex × Pk) := .ret (.ret, ⟨[.v (.string (r.1)), .v (.int .i64 (r.2.1)), .v (.int .i64 (r.2.2))], []⟩)

noncomputable def D32_30 : Ex × Pk → Option (ByteArray × Int × Int)
  | (.ret, ⟨[.v (.string x0), .v (.int .i64 x1), .v (.int .i64 x2)], []⟩) => some ((x0, x1, x2))
  | _ => none

theorem D32_30_ok : ∀ y r, D32_30 y = some r → ∀ z, (O32_30 r).to z → y = z := by
  intro y r h
  unfold D32_30 at h
  split at h <;> first | (cases h; intro z hz; exact Option.some.inj hz) | cases h

noncomputable def B32_30 (N : Nat) (f : (ByteArray × Int × ByteArray × Int × Int × (List Bool)) → Option (ByteArray × Int × Int)) : (ByteArray × Int × ByteArray × Int × Int × (List Bool)) → Option (ByteArray × Int × Int)
  | (x0, x1, x2, x3, x4, x5) =>
  iteP (decide ((↑(ByteArray.size x0 + ByteArray.size x2) : Int) > (9223372036854775807 : Int))) (
    none) (
    Option.bind (F29 N (x0 ++ x2, IntKind.wrap IntKind.i64 (x1 - (↑(ByteArray.size x2) : Int)), x3, x4, x5)) fun y0 =>
    iteP (Prod.fst (Prod.snd (Prod.snd (Prod.snd y0))) != (0 : Int)) (
      some ((ByteArray.mk #[], (0 : Int), Prod.fst (Prod.snd (Prod.snd (Prod.snd y0)))))) (
      iteP (decide ((↑(ByteArray.size x2 + ByteArray.size (Prod.fst y0)) : Int) > (9223372036854775807 : Int))) (
        none) (
        iteP (Prod.fst (Prod.snd y0)) (
          some ((x2 ++ Prod.fst y0, IntKind.wrap IntKind.i64 (Int.tdiv (IntKind.wrap IntKind.i64 (Prod.fst (Prod.snd (Prod.snd (Prod.snd (Prod.snd y0)))) + (7 : Int))) (8 : Int)), (0 : Int)))) (
          Option.bind (f (x0, x1, x2 ++ Prod.fst y0, Prod.fst (Prod.snd (Prod.snd (Prod.snd (Prod.snd y0)))), Prod.fst (Prod.snd (Prod.snd (Prod.snd (Prod.snd (Prod.snd y0))))), Prod.snd (Prod.snd (Prod.snd (Prod.snd (Prod.snd (Prod.snd y0))))))) fun r => some r))))

noncomputable def F32_30 (N : Nat) : Nat → (ByteArray × Int × ByteArray × Int × Int × (List Bool)) → Option (ByteArray × Int × Int)
  | 0, _ => none
  | k + 1, x => B32_30 N (F32_30 N k) x

noncomputable def C32_30 (N : Nat) (k : Nat) : Cut := ⟨[9, 0, 2, 10], X32_30, tellX I32_30 (F32_30 N k) O32_30⟩

theorem B32_30_eq (N : Nat) (f : (ByteArray × Int × ByteArray × Int × Int × (List Bool)) → Option (ByteArray × Int × Int)) (x0 : ByteArray) (x1 : Int) (x2 : ByteArray) (x3 : Int) (x4 : Int) (x5 : (List Bool)) : (roundEv (mkE Tryz.prog ownT (tab32 N) []) Tryz.f32.ntmps A32 (loopAt (bod Tryz.f32) 30) 30 ⟨[9, 0, 2, 10], X32_30, tellX I32_30 f O32_30⟩ (J32_30 (x0, x1, x2, x3, x4, x5))).run D32_30 = B32_30 N f (x0, x1, x2, x3, x4, x5) := by kernel_rfl

theorem C32_30_ok (N : Nat) (k : Nat) : ∀ c', At (bod Tryz.f32) 30 c' → CutOK Tryz.prog Tryz.f32.ntmps (idsL A32) c' (C32_30 N k) :=
  loop_ok (E := (mkE Tryz.prog ownT (tab32 N) [])) (mkE_ok mix (tab32_ok N)) (cutsIn_ok trivial) (fuel := 200) (by decide +kernel) (by kernel_rfl) I32_30_ok D32_30_ok (B32_30 N) (F32_30 N) (fun _ => rfl) (fun _ _ => rfl) (fun f x => match x with | (x0, x1, x2, x3, x4, x5) => B32_30_eq N f x0 x1 x2 x3 x4 x5) k

noncomputable def O32 (r : ByteArray × Int × Int) : Tr (Pk) := .ret ⟨[.tup [.v (.string (r.1)), .v (.int .i64 (r.2.1)), .v (.int .i64 (r.2.2))]], []⟩

noncomputable def D32 : Pk → Option (ByteArray × Int × Int)
  | ⟨[.tup [.v (.string x0), .v (.int .i64 x1), .v (.int .i64 x2)]], []⟩ => some ((x0, x1, x2))
  | _ => none

theorem D32_ok : ∀ y r, D32 y = some r → ∀ z, (O32 r).to z → y = z := by
  intro y r h
  unfold D32 at h
  split at h <;> first | (cases h; intro z hz; exact Option.some.inj hz) | cases h

noncomputable def F32 (N : Nat) : (ByteArray × ByteArray × Int) → Option (ByteArray × Int × Int)
  | (x0, x1, x2) =>
  Option.bind (F22 N x1) fun y0 =>
  Option.bind (F32_30 N N (x0, x2, ByteArray.mk #[], (0 : Int), (0 : Int), y0)) fun y1 =>
  some ((Prod.fst y1, Prod.fst (Prod.snd y1), Prod.snd (Prod.snd y1)))

theorem F32_eq (N : Nat) (x0 : ByteArray) (x1 : ByteArray) (x2 : Int) : (fnEv (mkE Tryz.prog ownT (tab32 N) [(30, (C32_30 N N))]) Tryz.f32 (J32 (x0, x1, x2))).run D32 = F32 N (x0, x1, x2) := by kernel_rfl

noncomputable def T32 (N : Nat) : Pk → Tr Pk := tell I32 (F32 N) O32

theorem T32_ok (N : Nat) : FOK Tryz.prog 32 (T32 N) :=
  (tell_ok (E := (mkE Tryz.prog ownT (tab32 N) [(30, (C32_30 N N))])) (mkE_ok mix (tab32_ok N)) Tryz.func32 (show Tryz.f32.body = some (bod Tryz.f32) by kernel_rfl) (by decide +kernel) (F := F32 N) I32_ok D32_ok (args := A32) (fun _ => by kernel_rfl) (fun _ => by show 3 ≤ Tryz.f32.ntmps; exact of_decide_eq_true (by kernel_rfl)) (cutsIn_ok ⟨fun c' h => (C32_30_ok N N c' h), trivial⟩) (fun x => match x with | (x0, x1, x2) => F32_eq N x0 x1 x2))

/-! ## f31: mirador/deflate.Segment -/

noncomputable def I31 : Pk → Option (ByteArray × ByteArray)
  | ⟨[.v (.string x0), .v (.string x1)], []⟩ => some (x0, x1)
  | _ => none

noncomputable def J31 (x : ByteArray × ByteArray) : Pk := ⟨[.v (.string (x.1)), .v (.string (x.2))], []⟩

theorem I31_ok : ∀ pk x, I31 pk = some x → pk = J31 x := by
  intro pk x h
  unfold I31 at h
  split at h <;> first | (cases h; rfl) | cases h

noncomputable def A31 : List TV := []

noncomputable def tab31 (N : Nat) : List (Nat × (Pk → Tr Pk)) := [(75, T75 N), (15, T15 N), (19, T19 N)]

theorem tab31_ok (N : Nat) : TabOK Tryz.prog (tab31 N) := ⟨T75_ok N, ⟨T15_ok N, ⟨T19_ok N, trivial⟩⟩⟩

noncomputable def O31 (r : ByteArray) : Tr (Pk) := .ret ⟨[.v (.string (r))], []⟩

noncomputable def D31 : Pk → Option (ByteArray)
  | ⟨[.v (.string x0)], []⟩ => some (x0)
  | _ => none

theorem D31_ok : ∀ y r, D31 y = some r → ∀ z, (O31 r).to z → y = z := by
  intro y r h
  unfold D31 at h
  split at h <;> first | (cases h; intro z hz; exact Option.some.inj hz) | cases h

noncomputable def F31 (N : Nat) : (ByteArray × ByteArray) → Option (ByteArray)
  | (x0, x1) =>
  iteP (!ByteArray.toList x1 == []) (
    Option.bind (F75 N (x0, x1, false, (0 : Int), (0 : Int), [])) fun y0 =>
    Option.bind (F15 N (ByteArray.mk #[], false, Prod.fst y0, Prod.fst (Prod.snd y0), Prod.snd (Prod.snd y0))) fun y1 =>
    Option.bind (F19 N (Prod.snd (Prod.snd y1), Prod.fst y1, Prod.fst (Prod.snd y1), ())) fun y2 =>
    some (y2)) (
    Option.bind (F15 N (ByteArray.mk #[], false, (0 : Int), (0 : Int), [])) fun y3 =>
    Option.bind (F19 N (Prod.snd (Prod.snd y3), Prod.fst y3, Prod.fst (Prod.snd y3), ())) fun y4 =>
    some (y4))

theorem F31_eq (N : Nat) (x0 : ByteArray) (x1 : ByteArray) : (fnEv (mkE Tryz.prog ownT (tab31 N) []) Tryz.f31 (J31 (x0, x1))).run D31 = F31 N (x0, x1) := by kernel_rfl

noncomputable def T31 (N : Nat) : Pk → Tr Pk := tell I31 (F31 N) O31

theorem T31_ok (N : Nat) : FOK Tryz.prog 31 (T31 N) :=
  (tell_ok (E := (mkE Tryz.prog ownT (tab31 N) [])) (mkE_ok mix (tab31_ok N)) Tryz.func31 (show Tryz.f31.body = some (bod Tryz.f31) by kernel_rfl) (by decide +kernel) (F := F31 N) I31_ok D31_ok (args := A31) (fun _ => by kernel_rfl) (fun _ => by show 2 ≤ Tryz.f31.ntmps; exact of_decide_eq_true (by kernel_rfl)) (cutsIn_ok trivial) (fun x => match x with | (x0, x1) => F31_eq N x0 x1))

/-! ## f33: mirador/miradorref08.Segment -/

noncomputable def I33 : Pk → Option (ByteArray × ByteArray × Int)
  | ⟨[.v (.string x0), .v (.string x1), .v (.int .i64 x2)], []⟩ => some (x0, x1, x2)
  | _ => none

noncomputable def J33 (x : ByteArray × ByteArray × Int) : Pk := ⟨[.v (.string (x.1)), .v (.string (x.2.1)), .v (.int .i64 (x.2.2))], []⟩

theorem I33_ok : ∀ pk x, I33 pk = some x → pk = J33 x := by
  intro pk x h
  unfold I33 at h
  split at h <;> first | (cases h; rfl) | cases h

noncomputable def A33 : List TV := []

noncomputable def tab33 (N : Nat) : List (Nat × (Pk → Tr Pk)) := [(22, T22 N), (29, T29 N)]

theorem tab33_ok (N : Nat) : TabOK Tryz.prog (tab33 N) := ⟨T22_ok N, ⟨T29_ok N, trivial⟩⟩

def X33_124 : Ex → List Nat
  | .ret => [6, 7]
  | .exit 0 => [10, 9]
  | _ => []

noncomputable def I33_124 : Pk → Option (Bool × ByteArray × ByteArray × Int × Int × Int × (List Bool))
  | ⟨[.v (.bool x0), .v (.string x1), .adr 0 [], .v (.string x2), .v (.int .i64 x3)], [some (.var (.agg [.sl 1 (none), .v (.int .i64 x4), .v (.int .i64 x5)])), some (.row (Ty.bool) 4 x6)]⟩ => some (x0, x1, x2, x3, x4, x5, x6)
  | _ => none

noncomputable def J33_124 (x : Bool × ByteArray × ByteArray × Int × Int × Int × (List Bool)) : Pk := ⟨[.v (.bool (x.1)), .v (.string (x.2.1)), .adr 0 [], .v (.string (x.2.2.1)), .v (.int .i64 (x.2.2.2.1))], [some (.var (.agg [.sl 1 (none), .v (.int .i64 (x.2.2.2.2.1)), .v (.int .i64 (x.2.2.2.2.2.1))])), some (.row (Ty.bool) 4 (x.2.2.2.2.2.2))]⟩

theorem I33_124_ok : ∀ pk x, I33_124 pk = some x → pk = J33_124 x := by
  intro pk x h
  unfold I33_124 at h
  split at h <;> first | (cases h; rfl) | cases h

noncomputable def O33_124 (r : ((ByteArray × Int) ⊕ (Bool × ByteArray))) : Tr (Ex × Pk) := .sum _ _ r (fun u => .ret (.ret, ⟨[.v (.string (u.1)), .v (.int .i64 (u.2))], []⟩)) (fun v => .ret (.exit 0, ⟨[.v (.bool (v.1)), .v (.string (v.2))], []⟩))

noncomputable def D33_124 : Ex × Pk → Option (((ByteArray × Int) ⊕ (Bool × ByteArray)))
  | (.ret, ⟨[.v (.string x0), .v (.int .i64 x1)], []⟩) => some (.inl ((x0, x1)))
  | (.exit 0, ⟨[.v (.bool x0), .v (.string x1)], []⟩) => some (.inr ((x0, x1)))
  | _ => none

theorem D33_124_ok : ∀ y r, D33_124 y = some r → ∀ z, (O33_124 r).to z → y = z := by
  intro y r h
  unfold D33_124 at h
  split at h <;> first | (cases h; intro z hz; exact Option.some.inj hz) | cases h

noncomputable def B33_124 (N : Nat) (f : (Bool × ByteArray × ByteArray × Int × Int × Int × (List Bool)) → Option (((ByteArray × Int) ⊕ (Bool × ByteArray)))) : (Bool × ByteArray × ByteArray × Int × Int × Int × (List Bool)) → Option (((ByteArray × Int) ⊕ (Bool × ByteArray)))
  | (x0, x1, x2, x3, x4, x5, x6) =>
  iteP (decide (x4 < (↑(List.length x6) : Int))) (
    iteP (decide ((↑(ByteArray.size x2 + ByteArray.size x1) : Int) > (9223372036854775807 : Int))) (
      none) (
      Option.bind (F29 N (x2 ++ x1, IntKind.wrap IntKind.i64 (x3 - (↑(ByteArray.size x1) : Int)), x4, x5, x6)) fun y0 =>
      iteP (Prod.fst (Prod.snd (Prod.snd (Prod.snd y0))) != (0 : Int)) (
        some (.inl ((ByteArray.mk #[], Prod.fst (Prod.snd (Prod.snd (Prod.snd y0))))))) (
        iteP (Prod.fst (Prod.snd y0)) (
          some (.inl ((ByteArray.mk #[], (81 : Int))))) (
          iteP (decide ((↑(ByteArray.size x1 + ByteArray.size (Prod.fst y0)) : Int) > (9223372036854775807 : Int))) (
            none) (
            iteP (Prod.fst (Prod.snd (Prod.snd y0)) == (0 : Int)) (
              Option.bind (f (ByteArray.toList (Prod.fst y0) == [], x1 ++ Prod.fst y0, x2, x3, Prod.fst (Prod.snd (Prod.snd (Prod.snd (Prod.snd y0)))), Prod.fst (Prod.snd (Prod.snd (Prod.snd (Prod.snd (Prod.snd y0))))), Prod.snd (Prod.snd (Prod.snd (Prod.snd (Prod.snd (Prod.snd y0))))))) fun r => match r with | .inl (y) => some (.inl (y)) | .inr (y) => some (.inr (y))) (
              Option.bind (f (false, x1 ++ Prod.fst y0, x2, x3, Prod.fst (Prod.snd (Prod.snd (Prod.snd (Prod.snd y0)))), Prod.fst (Prod.snd (Prod.snd (Prod.snd (Prod.snd (Prod.snd y0))))), Prod.snd (Prod.snd (Prod.snd (Prod.snd (Prod.snd (Prod.snd y0))))))) fun r => match r with | .inl (y) => some (.inl (y)) | .inr (y) => some (.inr (y)))))))) (
    some (.inr ((x0, x1))))

noncomputable def F33_124 (N : Nat) : Nat → (Bool × ByteArray × ByteArray × Int × Int × Int × (List Bool)) → Option (((ByteArray × Int) ⊕ (Bool × ByteArray)))
  | 0, _ => none
  | k + 1, x => B33_124 N (F33_124 N k) x

noncomputable def C33_124 (N : Nat) (k : Nat) : Cut := ⟨[10, 9, 8, 0, 2], X33_124, tellX I33_124 (F33_124 N k) O33_124⟩

theorem B33_124_eq (N : Nat) (f : (Bool × ByteArray × ByteArray × Int × Int × Int × (List Bool)) → Option (((ByteArray × Int) ⊕ (Bool × ByteArray)))) (x0 : Bool) (x1 : ByteArray) (x2 : ByteArray) (x3 : Int) (x4 : Int) (x5 : Int) (x6 : (List Bool)) : (roundEv (mkE Tryz.prog ownT (tab33 N) []) Tryz.f33.ntmps A33 (loopAt (bod Tryz.f33) 124) 124 ⟨[10, 9, 8, 0, 2], X33_124, tellX I33_124 f O33_124⟩ (J33_124 (x0, x1, x2, x3, x4, x5, x6))).run D33_124 = B33_124 N f (x0, x1, x2, x3, x4, x5, x6) := by kernel_rfl

theorem C33_124_ok (N : Nat) (k : Nat) : ∀ c', At (bod Tryz.f33) 124 c' → CutOK Tryz.prog Tryz.f33.ntmps (idsL A33) c' (C33_124 N k) :=
  loop_ok (E := (mkE Tryz.prog ownT (tab33 N) [])) (mkE_ok mix (tab33_ok N)) (cutsIn_ok trivial) (fuel := 200) (by decide +kernel) (by kernel_rfl) I33_124_ok D33_124_ok (B33_124 N) (F33_124 N) (fun _ => rfl) (fun _ _ => rfl) (fun f x => match x with | (x0, x1, x2, x3, x4, x5, x6) => B33_124_eq N f x0 x1 x2 x3 x4 x5 x6) k

noncomputable def O33 (r : ByteArray × Int) : Tr (Pk) := .ret ⟨[.tup [.v (.string (r.1)), .v (.int .i64 (r.2))]], []⟩

noncomputable def D33 : Pk → Option (ByteArray × Int)
  | ⟨[.tup [.v (.string x0), .v (.int .i64 x1)]], []⟩ => some ((x0, x1))
  | _ => none

theorem D33_ok : ∀ y r, D33 y = some r → ∀ z, (O33 r).to z → y = z := by
  intro y r h
  unfold D33 at h
  split at h <;> first | (cases h; intro z hz; exact Option.some.inj hz) | cases h

noncomputable def F33 (N : Nat) : (ByteArray × ByteArray × Int) → Option (ByteArray × Int)
  | (x0, x1, x2) =>
  Option.bind (F22 N x1) fun y0 =>
  Option.bind (F33_124 N N (false, ByteArray.mk #[], x0, x2, (0 : Int), (0 : Int), y0)) fun y1 =>
  match y1 with
  | .inl y2 =>
    some ((Prod.fst y2, Prod.snd y2))
  | .inr y2 =>
    iteP (!Prod.fst y2) (
      some ((ByteArray.mk #[], (81 : Int)))) (
      some ((Prod.snd y2, (0 : Int))))

theorem F33_eq (N : Nat) (x0 : ByteArray) (x1 : ByteArray) (x2 : Int) : (fnEv (mkE Tryz.prog ownT (tab33 N) [(124, (C33_124 N N))]) Tryz.f33 (J33 (x0, x1, x2))).run D33 = F33 N (x0, x1, x2) := by kernel_rfl

noncomputable def T33 (N : Nat) : Pk → Tr Pk := tell I33 (F33 N) O33

theorem T33_ok (N : Nat) : FOK Tryz.prog 33 (T33 N) :=
  (tell_ok (E := (mkE Tryz.prog ownT (tab33 N) [(124, (C33_124 N N))])) (mkE_ok mix (tab33_ok N)) Tryz.func33 (show Tryz.f33.body = some (bod Tryz.f33) by kernel_rfl) (by decide +kernel) (F := F33 N) I33_ok D33_ok (args := A33) (fun _ => by kernel_rfl) (fun _ => by show 3 ≤ Tryz.f33.ntmps; exact of_decide_eq_true (by kernel_rfl)) (cutsIn_ok ⟨fun c' h => (C33_124_ok N N c' h), trivial⟩) (fun x => match x with | (x0, x1, x2) => F33_eq N x0 x1 x2))

/-! ## f13: mirador/miradorlaw09.works -/

noncomputable def I13 : Pk → Option (Unit)
  | ⟨[], []⟩ => some ()
  | _ => none

noncomputable def J13 (x : Unit) : Pk := ⟨[], []⟩

theorem I13_ok : ∀ pk x, I13 pk = some x → pk = J13 x := by
  intro pk x h
  unfold I13 at h
  split at h <;> first | (cases h; rfl) | cases h

noncomputable def A13 : List TV := []

noncomputable def tab13 (N : Nat) : List (Nat × (Pk → Tr Pk)) := [(15, T15 N), (30, T30 N), (32, T32 N), (31, T31 N), (33, T33 N), (19, T19 N)]

theorem tab13_ok (N : Nat) : TabOK Tryz.prog (tab13 N) := ⟨T15_ok N, ⟨T30_ok N, ⟨T32_ok N, ⟨T31_ok N, ⟨T33_ok N, ⟨T19_ok N, trivial⟩⟩⟩⟩⟩⟩

noncomputable def O13 (r : Bool) : Tr (Pk) := .ret ⟨[.v (.bool (r))], []⟩

noncomputable def D13 : Pk → Option (Bool)
  | ⟨[.v (.bool x0)], []⟩ => some (x0)
  | _ => none

theorem D13_ok : ∀ y r, D13 y = some r → ∀ z, (O13 r).to z → y = z := by
  intro y r h
  unfold D13 at h
  split at h <;> first | (cases h; intro z hz; exact Option.some.inj hz) | cases h

noncomputable def F13 (N : Nat) : (Unit) → Option (Bool)
  | () =>
  Option.bind (F15 N (ByteArray.mk #[(97 : UInt8), (98 : UInt8)], true, (0 : Int), (0 : Int), [])) fun y0 =>
  Option.bind (F30 N (ByteArray.mk #[], ByteArray.mk #[(97 : UInt8), (98 : UInt8), (99 : UInt8)])) fun y1 =>
  Option.bind (F32 N (ByteArray.mk #[], y1, (9 : Int))) fun y2 =>
  Option.bind (F31 N (ByteArray.mk #[(99 : UInt8)], ByteArray.mk #[(97 : UInt8), (98 : UInt8), (99 : UInt8)])) fun y3 =>
  Option.bind (F33 N (ByteArray.mk #[(99 : UInt8)], y3, (9 : Int))) fun y4 =>
  Option.bind (F19 N (Prod.snd (Prod.snd y0), Prod.fst y0, Prod.fst (Prod.snd y0), ())) fun y5 =>
  iteP (ByteArray.toList y5 == [Subtype.val (Subtype.mk (ByteArray.get! (ByteArray.mk #[(1 : UInt8), (2 : UInt8), (0 : UInt8), (253 : UInt8), (255 : UInt8), (97 : UInt8), (98 : UInt8)]) (0 : Nat)) (And.left (Iff.mp List.forall_mem_cons (And.right (Iff.mp List.forall_mem_cons (And.right (Iff.mp List.forall_mem_cons (And.right (Iff.mp List.forall_mem_cons (And.right (Iff.mp List.forall_mem_cons (And.right (Iff.mp List.forall_mem_cons (And.right (Iff.mp List.forall_mem_cons (List.attach._proof_1 [ByteArray.get! (ByteArray.mk #[(1 : UInt8), (2 : UInt8), (0 : UInt8), (253 : UInt8), (255 : UInt8), (97 : UInt8), (98 : UInt8)]) ((0 : Nat) + (1 : Nat) + (1 : Nat) + (1 : Nat) + (1 : Nat) + (1 : Nat) + (1 : Nat)), ByteArray.get! (ByteArray.mk #[(1 : UInt8), (2 : UInt8), (0 : UInt8), (253 : UInt8), (255 : UInt8), (97 : UInt8), (98 : UInt8)]) ((0 : Nat) + (1 : Nat) + (1 : Nat) + (1 : Nat) + (1 : Nat) + (1 : Nat)), ByteArray.get! (ByteArray.mk #[(1 : UInt8), (2 : UInt8), (0 : UInt8), (253 : UInt8), (255 : UInt8), (97 : UInt8), (98 : UInt8)]) ((0 : Nat) + (1 : Nat) + (1 : Nat) + (1 : Nat) + (1 : Nat)), ByteArray.get! (ByteArray.mk #[(1 : UInt8), (2 : UInt8), (0 : UInt8), (253 : UInt8), (255 : UInt8), (97 : UInt8), (98 : UInt8)]) ((0 : Nat) + (1 : Nat) + (1 : Nat) + (1 : Nat)), ByteArray.get! (ByteArray.mk #[(1 : UInt8), (2 : UInt8), (0 : UInt8), (253 : UInt8), (255 : UInt8), (97 : UInt8), (98 : UInt8)]) ((0 : Nat) + (1 : Nat) + (1 : Nat)), ByteArray.get! (ByteArray.mk #[(1 : UInt8), (2 : UInt8), (0 : UInt8), (253 : UInt8), (255 : UInt8), (97 : UInt8), (98 : UInt8)]) ((0 : Nat) + (1 : Nat)), ByteArray.get! (ByteArray.mk #[(1 : UInt8), (2 : UInt8), (0 : UInt8), (253 : UInt8), (255 : UInt8), (97 : UInt8), (98 : UInt8)]) (0 : Nat)])))))))))))))))), Subtype.val (Subtype.mk (ByteArray.get! (ByteArray.mk #[(1 : UInt8), (2 : UInt8), (0 : UInt8), (253 : UInt8), (255 : UInt8), (97 : UInt8), (98 : UInt8)]) (1 : Nat)) (And.left (Iff.mp List.forall_mem_cons (And.right (Iff.mp List.forall_mem_cons (And.right (Iff.mp List.forall_mem_cons (And.right (Iff.mp List.forall_mem_cons (And.right (Iff.mp List.forall_mem_cons (And.right (Iff.mp List.forall_mem_cons (List.attach._proof_1 [ByteArray.get! (ByteArray.mk #[(1 : UInt8), (2 : UInt8), (0 : UInt8), (253 : UInt8), (255 : UInt8), (97 : UInt8), (98 : UInt8)]) ((0 : Nat) + (1 : Nat) + (1 : Nat) + (1 : Nat) + (1 : Nat) + (1 : Nat) + (1 : Nat)), ByteArray.get! (ByteArray.mk #[(1 : UInt8), (2 : UInt8), (0 : UInt8), (253 : UInt8), (255 : UInt8), (97 : UInt8), (98 : UInt8)]) ((0 : Nat) + (1 : Nat) + (1 : Nat) + (1 : Nat) + (1 : Nat) + (1 : Nat)), ByteArray.get! (ByteArray.mk #[(1 : UInt8), (2 : UInt8), (0 : UInt8), (253 : UInt8), (255 : UInt8), (97 : UInt8), (98 : UInt8)]) ((0 : Nat) + (1 : Nat) + (1 : Nat) + (1 : Nat) + (1 : Nat)), ByteArray.get! (ByteArray.mk #[(1 : UInt8), (2 : UInt8), (0 : UInt8), (253 : UInt8), (255 : UInt8), (97 : UInt8), (98 : UInt8)]) ((0 : Nat) + (1 : Nat) + (1 : Nat) + (1 : Nat)), ByteArray.get! (ByteArray.mk #[(1 : UInt8), (2 : UInt8), (0 : UInt8), (253 : UInt8), (255 : UInt8), (97 : UInt8), (98 : UInt8)]) ((0 : Nat) + (1 : Nat) + (1 : Nat)), ByteArray.get! (ByteArray.mk #[(1 : UInt8), (2 : UInt8), (0 : UInt8), (253 : UInt8), (255 : UInt8), (97 : UInt8), (98 : UInt8)]) ((0 : Nat) + (1 : Nat)), ByteArray.get! (ByteArray.mk #[(1 : UInt8), (2 : UInt8), (0 : UInt8), (253 : UInt8), (255 : UInt8), (97 : UInt8), (98 : UInt8)]) (0 : Nat)])))))))))))))), Subtype.val (Subtype.mk (ByteArray.get! (ByteArray.mk #[(1 : UInt8), (2 : UInt8), (0 : UInt8), (253 : UInt8), (255 : UInt8), (97 : UInt8), (98 : UInt8)]) (2 : Nat)) (And.left (Iff.mp List.forall_mem_cons (And.right (Iff.mp List.forall_mem_cons (And.right (Iff.mp List.forall_mem_cons (And.right (Iff.mp List.forall_mem_cons (And.right (Iff.mp List.forall_mem_cons (List.attach._proof_1 [ByteArray.get! (ByteArray.mk #[(1 : UInt8), (2 : UInt8), (0 : UInt8), (253 : UInt8), (255 : UInt8), (97 : UInt8), (98 : UInt8)]) ((0 : Nat) + (1 : Nat) + (1 : Nat) + (1 : Nat) + (1 : Nat) + (1 : Nat) + (1 : Nat)), ByteArray.get! (ByteArray.mk #[(1 : UInt8), (2 : UInt8), (0 : UInt8), (253 : UInt8), (255 : UInt8), (97 : UInt8), (98 : UInt8)]) ((0 : Nat) + (1 : Nat) + (1 : Nat) + (1 : Nat) + (1 : Nat) + (1 : Nat)), ByteArray.get! (ByteArray.mk #[(1 : UInt8), (2 : UInt8), (0 : UInt8), (253 : UInt8), (255 : UInt8), (97 : UInt8), (98 : UInt8)]) ((0 : Nat) + (1 : Nat) + (1 : Nat) + (1 : Nat) + (1 : Nat)), ByteArray.get! (ByteArray.mk #[(1 : UInt8), (2 : UInt8), (0 : UInt8), (253 : UInt8), (255 : UInt8), (97 : UInt8), (98 : UInt8)]) ((0 : Nat) + (1 : Nat) + (1 : Nat) + (1 : Nat)), ByteArray.get! (ByteArray.mk #[(1 : UInt8), (2 : UInt8), (0 : UInt8), (253 : UInt8), (255 : UInt8), (97 : UInt8), (98 : UInt8)]) ((0 : Nat) + (1 : Nat) + (1 : Nat)), ByteArray.get! (ByteArray.mk #[(1 : UInt8), (2 : UInt8), (0 : UInt8), (253 : UInt8), (255 : UInt8), (97 : UInt8), (98 : UInt8)]) ((0 : Nat) + (1 : Nat)), ByteArray.get! (ByteArray.mk #[(1 : UInt8), (2 : UInt8), (0 : UInt8), (253 : UInt8), (255 : UInt8), (97 : UInt8), (98 : UInt8)]) (0 : Nat)])))))))))))), Subtype.val (Subtype.mk (ByteArray.get! (ByteArray.mk #[(1 : UInt8), (2 : UInt8), (0 : UInt8), (253 : UInt8), (255 : UInt8), (97 : UInt8), (98 : UInt8)]) (3 : Nat)) (And.left (Iff.mp List.forall_mem_cons (And.right (Iff.mp List.forall_mem_cons (And.right (Iff.mp List.forall_mem_cons (And.right (Iff.mp List.forall_mem_cons (List.attach._proof_1 [ByteArray.get! (ByteArray.mk #[(1 : UInt8), (2 : UInt8), (0 : UInt8), (253 : UInt8), (255 : UInt8), (97 : UInt8), (98 : UInt8)]) ((0 : Nat) + (1 : Nat) + (1 : Nat) + (1 : Nat) + (1 : Nat) + (1 : Nat) + (1 : Nat)), ByteArray.get! (ByteArray.mk #[(1 : UInt8), (2 : UInt8), (0 : UInt8), (253 : UInt8), (255 : UInt8), (97 : UInt8), (98 : UInt8)]) ((0 : Nat) + (1 : Nat) + (1 : Nat) + (1 : Nat) + (1 : Nat) + (1 : Nat)), ByteArray.get! (ByteArray.mk #[(1 : UInt8), (2 : UInt8), (0 : UInt8), (253 : UInt8), (255 : UInt8), (97 : UInt8), (98 : UInt8)]) ((0 : Nat) + (1 : Nat) + (1 : Nat) + (1 : Nat) + (1 : Nat)), ByteArray.get! (ByteArray.mk #[(1 : UInt8), (2 : UInt8), (0 : UInt8), (253 : UInt8), (255 : UInt8), (97 : UInt8), (98 : UInt8)]) ((0 : Nat) + (1 : Nat) + (1 : Nat) + (1 : Nat)), ByteArray.get! (ByteArray.mk #[(1 : UInt8), (2 : UInt8), (0 : UInt8), (253 : UInt8), (255 : UInt8), (97 : UInt8), (98 : UInt8)]) ((0 : Nat) + (1 : Nat) + (1 : Nat)), ByteArray.get! (ByteArray.mk #[(1 : UInt8), (2 : UInt8), (0 : UInt8), (253 : UInt8), (255 : UInt8), (97 : UInt8), (98 : UInt8)]) ((0 : Nat) + (1 : Nat)), ByteArray.get! (ByteArray.mk #[(1 : UInt8), (2 : UInt8), (0 : UInt8), (253 : UInt8), (255 : UInt8), (97 : UInt8), (98 : UInt8)]) (0 : Nat)])))))))))), Subtype.val (Subtype.mk (ByteArray.get! (ByteArray.mk #[(1 : UInt8), (2 : UInt8), (0 : UInt8), (253 : UInt8), (255 : UInt8), (97 : UInt8), (98 : UInt8)]) (4 : Nat)) (And.left (Iff.mp List.forall_mem_cons (And.right (Iff.mp List.forall_mem_cons (And.right (Iff.mp List.forall_mem_cons (List.attach._proof_1 [ByteArray.get! (ByteArray.mk #[(1 : UInt8), (2 : UInt8), (0 : UInt8), (253 : UInt8), (255 : UInt8), (97 : UInt8), (98 : UInt8)]) ((0 : Nat) + (1 : Nat) + (1 : Nat) + (1 : Nat) + (1 : Nat) + (1 : Nat) + (1 : Nat)), ByteArray.get! (ByteArray.mk #[(1 : UInt8), (2 : UInt8), (0 : UInt8), (253 : UInt8), (255 : UInt8), (97 : UInt8), (98 : UInt8)]) ((0 : Nat) + (1 : Nat) + (1 : Nat) + (1 : Nat) + (1 : Nat) + (1 : Nat)), ByteArray.get! (ByteArray.mk #[(1 : UInt8), (2 : UInt8), (0 : UInt8), (253 : UInt8), (255 : UInt8), (97 : UInt8), (98 : UInt8)]) ((0 : Nat) + (1 : Nat) + (1 : Nat) + (1 : Nat) + (1 : Nat)), ByteArray.get! (ByteArray.mk #[(1 : UInt8), (2 : UInt8), (0 : UInt8), (253 : UInt8), (255 : UInt8), (97 : UInt8), (98 : UInt8)]) ((0 : Nat) + (1 : Nat) + (1 : Nat) + (1 : Nat)), ByteArray.get! (ByteArray.mk #[(1 : UInt8), (2 : UInt8), (0 : UInt8), (253 : UInt8), (255 : UInt8), (97 : UInt8), (98 : UInt8)]) ((0 : Nat) + (1 : Nat) + (1 : Nat)), ByteArray.get! (ByteArray.mk #[(1 : UInt8), (2 : UInt8), (0 : UInt8), (253 : UInt8), (255 : UInt8), (97 : UInt8), (98 : UInt8)]) ((0 : Nat) + (1 : Nat)), ByteArray.get! (ByteArray.mk #[(1 : UInt8), (2 : UInt8), (0 : UInt8), (253 : UInt8), (255 : UInt8), (97 : UInt8), (98 : UInt8)]) (0 : Nat)])))))))), Subtype.val (Subtype.mk (ByteArray.get! (ByteArray.mk #[(1 : UInt8), (2 : UInt8), (0 : UInt8), (253 : UInt8), (255 : UInt8), (97 : UInt8), (98 : UInt8)]) (5 : Nat)) (And.left (Iff.mp List.forall_mem_cons (And.right (Iff.mp List.forall_mem_cons (List.attach._proof_1 [ByteArray.get! (ByteArray.mk #[(1 : UInt8), (2 : UInt8), (0 : UInt8), (253 : UInt8), (255 : UInt8), (97 : UInt8), (98 : UInt8)]) ((0 : Nat) + (1 : Nat) + (1 : Nat) + (1 : Nat) + (1 : Nat) + (1 : Nat) + (1 : Nat)), ByteArray.get! (ByteArray.mk #[(1 : UInt8), (2 : UInt8), (0 : UInt8), (253 : UInt8), (255 : UInt8), (97 : UInt8), (98 : UInt8)]) ((0 : Nat) + (1 : Nat) + (1 : Nat) + (1 : Nat) + (1 : Nat) + (1 : Nat)), ByteArray.get! (ByteArray.mk #[(1 : UInt8), (2 : UInt8), (0 : UInt8), (253 : UInt8), (255 : UInt8), (97 : UInt8), (98 : UInt8)]) ((0 : Nat) + (1 : Nat) + (1 : Nat) + (1 : Nat) + (1 : Nat)), ByteArray.get! (ByteArray.mk #[(1 : UInt8), (2 : UInt8), (0 : UInt8), (253 : UInt8), (255 : UInt8), (97 : UInt8), (98 : UInt8)]) ((0 : Nat) + (1 : Nat) + (1 : Nat) + (1 : Nat)), ByteArray.get! (ByteArray.mk #[(1 : UInt8), (2 : UInt8), (0 : UInt8), (253 : UInt8), (255 : UInt8), (97 : UInt8), (98 : UInt8)]) ((0 : Nat) + (1 : Nat) + (1 : Nat)), ByteArray.get! (ByteArray.mk #[(1 : UInt8), (2 : UInt8), (0 : UInt8), (253 : UInt8), (255 : UInt8), (97 : UInt8), (98 : UInt8)]) ((0 : Nat) + (1 : Nat)), ByteArray.get! (ByteArray.mk #[(1 : UInt8), (2 : UInt8), (0 : UInt8), (253 : UInt8), (255 : UInt8), (97 : UInt8), (98 : UInt8)]) (0 : Nat)])))))), Subtype.val (Subtype.mk (ByteArray.get! (ByteArray.mk #[(1 : UInt8), (2 : UInt8), (0 : UInt8), (253 : UInt8), (255 : UInt8), (97 : UInt8), (98 : UInt8)]) (6 : Nat)) (And.left (Iff.mp List.forall_mem_cons (List.attach._proof_1 [ByteArray.get! (ByteArray.mk #[(1 : UInt8), (2 : UInt8), (0 : UInt8), (253 : UInt8), (255 : UInt8), (97 : UInt8), (98 : UInt8)]) ((0 : Nat) + (1 : Nat) + (1 : Nat) + (1 : Nat) + (1 : Nat) + (1 : Nat) + (1 : Nat)), ByteArray.get! (ByteArray.mk #[(1 : UInt8), (2 : UInt8), (0 : UInt8), (253 : UInt8), (255 : UInt8), (97 : UInt8), (98 : UInt8)]) ((0 : Nat) + (1 : Nat) + (1 : Nat) + (1 : Nat) + (1 : Nat) + (1 : Nat)), ByteArray.get! (ByteArray.mk #[(1 : UInt8), (2 : UInt8), (0 : UInt8), (253 : UInt8), (255 : UInt8), (97 : UInt8), (98 : UInt8)]) ((0 : Nat) + (1 : Nat) + (1 : Nat) + (1 : Nat) + (1 : Nat)), ByteArray.get! (ByteArray.mk #[(1 : UInt8), (2 : UInt8), (0 : UInt8), (253 : UInt8), (255 : UInt8), (97 : UInt8), (98 : UInt8)]) ((0 : Nat) + (1 : Nat) + (1 : Nat) + (1 : Nat)), ByteArray.get! (ByteArray.mk #[(1 : UInt8), (2 : UInt8), (0 : UInt8), (253 : UInt8), (255 : UInt8), (97 : UInt8), (98 : UInt8)]) ((0 : Nat) + (1 : Nat) + (1 : Nat)), ByteArray.get! (ByteArray.mk #[(1 : UInt8), (2 : UInt8), (0 : UInt8), (253 : UInt8), (255 : UInt8), (97 : UInt8), (98 : UInt8)]) ((0 : Nat) + (1 : Nat)), ByteArray.get! (ByteArray.mk #[(1 : UInt8), (2 : UInt8), (0 : UInt8), (253 : UInt8), (255 : UInt8), (97 : UInt8), (98 : UInt8)]) (0 : Nat)]))))]) (
    iteP (ByteArray.toList (Prod.fst y2) == [Subtype.val (Subtype.mk (ByteArray.get! (ByteArray.mk #[(97 : UInt8), (98 : UInt8), (99 : UInt8)]) (0 : Nat)) (And.left (Iff.mp List.forall_mem_cons (And.right (Iff.mp List.forall_mem_cons (And.right (Iff.mp List.forall_mem_cons (List.attach._proof_1 [ByteArray.get! (ByteArray.mk #[(97 : UInt8), (98 : UInt8), (99 : UInt8)]) ((0 : Nat) + (1 : Nat) + (1 : Nat)), ByteArray.get! (ByteArray.mk #[(97 : UInt8), (98 : UInt8), (99 : UInt8)]) ((0 : Nat) + (1 : Nat)), ByteArray.get! (ByteArray.mk #[(97 : UInt8), (98 : UInt8), (99 : UInt8)]) (0 : Nat)])))))))), Subtype.val (Subtype.mk (ByteArray.get! (ByteArray.mk #[(97 : UInt8), (98 : UInt8), (99 : UInt8)]) (1 : Nat)) (And.left (Iff.mp List.forall_mem_cons (And.right (Iff.mp List.forall_mem_cons (List.attach._proof_1 [ByteArray.get! (ByteArray.mk #[(97 : UInt8), (98 : UInt8), (99 : UInt8)]) ((0 : Nat) + (1 : Nat) + (1 : Nat)), ByteArray.get! (ByteArray.mk #[(97 : UInt8), (98 : UInt8), (99 : UInt8)]) ((0 : Nat) + (1 : Nat)), ByteArray.get! (ByteArray.mk #[(97 : UInt8), (98 : UInt8), (99 : UInt8)]) (0 : Nat)])))))), Subtype.val (Subtype.mk (ByteArray.get! (ByteArray.mk #[(97 : UInt8), (98 : UInt8), (99 : UInt8)]) (2 : Nat)) (And.left (Iff.mp List.forall_mem_cons (List.attach._proof_1 [ByteArray.get! (ByteArray.mk #[(97 : UInt8), (98 : UInt8), (99 : UInt8)]) ((0 : Nat) + (1 : Nat) + (1 : Nat)), ByteArray.get! (ByteArray.mk #[(97 : UInt8), (98 : UInt8), (99 : UInt8)]) ((0 : Nat) + (1 : Nat)), ByteArray.get! (ByteArray.mk #[(97 : UInt8), (98 : UInt8), (99 : UInt8)]) (0 : Nat)]))))]) (
      iteP (decide (Prod.fst (Prod.snd y2) > (0 : Int))) (
        iteP (Prod.snd (Prod.snd y2) == (0 : Int)) (
          iteP (ByteArray.toList (Prod.fst y4) == [Subtype.val (Subtype.mk (ByteArray.get! (ByteArray.mk #[(97 : UInt8), (98 : UInt8), (99 : UInt8)]) (0 : Nat)) (And.left (Iff.mp List.forall_mem_cons (And.right (Iff.mp List.forall_mem_cons (And.right (Iff.mp List.forall_mem_cons (List.attach._proof_1 [ByteArray.get! (ByteArray.mk #[(97 : UInt8), (98 : UInt8), (99 : UInt8)]) ((0 : Nat) + (1 : Nat) + (1 : Nat)), ByteArray.get! (ByteArray.mk #[(97 : UInt8), (98 : UInt8), (99 : UInt8)]) ((0 : Nat) + (1 : Nat)), ByteArray.get! (ByteArray.mk #[(97 : UInt8), (98 : UInt8), (99 : UInt8)]) (0 : Nat)])))))))), Subtype.val (Subtype.mk (ByteArray.get! (ByteArray.mk #[(97 : UInt8), (98 : UInt8), (99 : UInt8)]) (1 : Nat)) (And.left (Iff.mp List.forall_mem_cons (And.right (Iff.mp List.forall_mem_cons (List.attach._proof_1 [ByteArray.get! (ByteArray.mk #[(97 : UInt8), (98 : UInt8), (99 : UInt8)]) ((0 : Nat) + (1 : Nat) + (1 : Nat)), ByteArray.get! (ByteArray.mk #[(97 : UInt8), (98 : UInt8), (99 : UInt8)]) ((0 : Nat) + (1 : Nat)), ByteArray.get! (ByteArray.mk #[(97 : UInt8), (98 : UInt8), (99 : UInt8)]) (0 : Nat)])))))), Subtype.val (Subtype.mk (ByteArray.get! (ByteArray.mk #[(97 : UInt8), (98 : UInt8), (99 : UInt8)]) (2 : Nat)) (And.left (Iff.mp List.forall_mem_cons (List.attach._proof_1 [ByteArray.get! (ByteArray.mk #[(97 : UInt8), (98 : UInt8), (99 : UInt8)]) ((0 : Nat) + (1 : Nat) + (1 : Nat)), ByteArray.get! (ByteArray.mk #[(97 : UInt8), (98 : UInt8), (99 : UInt8)]) ((0 : Nat) + (1 : Nat)), ByteArray.get! (ByteArray.mk #[(97 : UInt8), (98 : UInt8), (99 : UInt8)]) (0 : Nat)]))))]) (
            some (Prod.snd y4 == (0 : Int))) (
            some (false))) (
          some (false))) (
        some (false))) (
      some (false))) (
    some (false))

theorem F13_eq (N : Nat)  : (fnEv (mkE Tryz.prog ownT (tab13 N) []) Tryz.f13 (J13 ())).run D13 = F13 N () := by kernel_rfl

noncomputable def T13 (N : Nat) : Pk → Tr Pk := tell I13 (F13 N) O13

theorem T13_ok (N : Nat) : FOK Tryz.prog 13 (T13 N) :=
  (tell_ok (E := (mkE Tryz.prog ownT (tab13 N) [])) (mkE_ok mix (tab13_ok N)) Tryz.func13 (show Tryz.f13.body = some (bod Tryz.f13) by kernel_rfl) (by decide +kernel) (F := F13 N) I13_ok D13_ok (args := A13) (fun _ => by kernel_rfl) (fun _ => by show 0 ≤ Tryz.f13.ntmps; exact of_decide_eq_true (by kernel_rfl)) (cutsIn_ok trivial) (fun x => match x with | () => F13_eq N ))


end Go.Proofs.YteddgkplkjldcaaGreat.Am

set_option linter.unusedVariables false
set_option maxRecDepth 100000
namespace Go.Proofs.YteddgkplkjldcaaGreat.Am
open Go.Am

/-! ## f16: mirador/miradorref09.Stored -/

noncomputable def I16 : Pk → Option (ByteArray × Bool × (List Bool))
  | ⟨[.sl 0 none, .v (.string x0), .v (.bool x1)], [some (.row .bool 4 x2)]⟩ => some (x0, x1, x2)
  | _ => none

noncomputable def J16 (x : ByteArray × Bool × (List Bool)) : Pk := ⟨[.sl 0 none, .v (.string (x.1)), .v (.bool (x.2.1))], [some (.row .bool 4 (x.2.2))]⟩

theorem I16_ok : ∀ pk x, I16 pk = some x → pk = J16 x := by
  intro pk x h
  unfold I16 at h
  split at h <;> first | (cases h; rfl) | cases h

noncomputable def A16 : List TV := []

noncomputable def tab16 (N : Nat) : List (Nat × (Pk → Tr Pk)) := [(49, T49 N), (17, T17 N), (22, T22 N)]

theorem tab16_ok (N : Nat) : TabOK Tryz.prog (tab16 N) := ⟨T49_ok N, ⟨T17_ok N, ⟨T22_ok N, trivial⟩⟩⟩

def X16_6 : Ex → List Nat
  | .ret => [6]
  | .exit 0 => [6]
  | _ => []

noncomputable def I16_6 : Pk → Option (ByteArray × Bool × (List Bool))
  | ⟨[.sl 0 (none), .v (.string x0), .v (.bool x1)], [some (.row (Ty.bool) 4 x2)]⟩ => some (x0, x1, x2)
  | _ => none

noncomputable def J16_6 (x : ByteArray × Bool × (List Bool)) : Pk := ⟨[.sl 0 (none), .v (.string (x.1)), .v (.bool (x.2.1))], [some (.row (Ty.bool) 4 (x.2.2))]⟩

theorem I16_6_ok : ∀ pk x, I16_6 pk = some x → pk = J16_6 x := by
  intro pk x h
  unfold I16_6 at h
  split at h <;> first | (cases h; rfl) | cases h

noncomputable def O16_6 (r : (List Bool)) : Tr (Ex × Pk) := .ret (.ret, ⟨[.sl 0 (none)], [some (.row (Ty.bool) 4 (r))]⟩)

noncomputable def D16_6 : Ex × Pk → Option ((List Bool))
  | (.ret, ⟨[.sl 0 (none)], [some (.row (Ty.bool) 4 x0)]⟩) => some (x0)
  | _ => none

theorem D16_6_ok : ∀ y r, D16_6 y = some r → ∀ z, (O16_6 r).to z → y = z := by
  intro y r h
  unfold D16_6 at h
  split at h <;> first | (cases h; intro z hz; exact Option.some.inj hz) | cases h

noncomputable def B16_6 (N : Nat) (f : (ByteArray × Bool × (List Bool)) → Option ((List Bool))) : (ByteArray × Bool × (List Bool)) → Option ((List Bool))
  | (x0, x1, x2) =>
  iteP (decide (((0 : Int) ≤ if (65535 : Int) < (↑(ByteArray.size x0) : Int) then (65535 : Int) else (↑(ByteArray.size x0) : Int)) ∧ (if (65535 : Int) < (↑(ByteArray.size x0) : Int) then (65535 : Int) else (↑(ByteArray.size x0) : Int)) ≤ (↑(ByteArray.size x0) : Int))) (
    iteP (x1) (
      iteP (decide ((List.length x2 + List.length [ByteArray.toList (ByteArray.extract x0 (Int.toNat (if (65535 : Int) < (↑(ByteArray.size x0) : Int) then (65535 : Int) else (↑(ByteArray.size x0) : Int))) (ByteArray.size x0)) == [], false, false]) * (1 : Nat) ≤ (140737488355328 : Nat) ∧ List.length x2 + List.length [ByteArray.toList (ByteArray.extract x0 (Int.toNat (if (65535 : Int) < (↑(ByteArray.size x0) : Int) then (65535 : Int) else (↑(ByteArray.size x0) : Int))) (ByteArray.size x0)) == [], false, false] ≤ (140737488355328 : Nat))) (
        Option.bind (F49 N (x2 ++ [ByteArray.toList (ByteArray.extract x0 (Int.toNat (if (65535 : Int) < (↑(ByteArray.size x0) : Int) then (65535 : Int) else (↑(ByteArray.size x0) : Int))) (ByteArray.size x0)) == [], false, false])) fun y0 =>
        Option.bind (F17 N ((16 : Int), if (65535 : Int) < (↑(ByteArray.size x0) : Int) then (65535 : Int) else (↑(ByteArray.size x0) : Int))) fun y1 =>
        iteP (decide ((List.length y0 + List.length y1) * (1 : Nat) ≤ (140737488355328 : Nat) ∧ List.length y0 + List.length y1 ≤ (140737488355328 : Nat))) (
          Option.bind (F17 N ((16 : Int), IntKind.wrap IntKind.i64 ((65535 : Int) - if (65535 : Int) < (↑(ByteArray.size x0) : Int) then (65535 : Int) else (↑(ByteArray.size x0) : Int)))) fun y2 =>
          iteP (decide ((List.length (y0 ++ y1) + List.length y2) * (1 : Nat) ≤ (140737488355328 : Nat) ∧ List.length (y0 ++ y1) + List.length y2 ≤ (140737488355328 : Nat))) (
            iteP (decide (((0 : Int) ≤ if (65535 : Int) < (↑(ByteArray.size x0) : Int) then (65535 : Int) else (↑(ByteArray.size x0) : Int)) ∧ (if (65535 : Int) < (↑(ByteArray.size x0) : Int) then (65535 : Int) else (↑(ByteArray.size x0) : Int)) ≤ (↑(ByteArray.size x0) : Int))) (
              Option.bind (F22 N (ByteArray.extract x0 (0 : Nat) (Int.toNat (if (65535 : Int) < (↑(ByteArray.size x0) : Int) then (65535 : Int) else (↑(ByteArray.size x0) : Int))))) fun y3 =>
              iteP (decide ((List.length (y0 ++ y1 ++ y2) + List.length y3) * (1 : Nat) ≤ (140737488355328 : Nat) ∧ List.length (y0 ++ y1 ++ y2) + List.length y3 ≤ (140737488355328 : Nat))) (
                iteP (ByteArray.toList (ByteArray.extract x0 (Int.toNat (if (65535 : Int) < (↑(ByteArray.size x0) : Int) then (65535 : Int) else (↑(ByteArray.size x0) : Int))) (ByteArray.size x0)) == []) (
                  some (y0 ++ y1 ++ y2 ++ y3)) (
                  Option.bind (f (ByteArray.extract x0 (Int.toNat (if (65535 : Int) < (↑(ByteArray.size x0) : Int) then (65535 : Int) else (↑(ByteArray.size x0) : Int))) (ByteArray.size x0), x1, y0 ++ y1 ++ y2 ++ y3)) fun r => some r)) (
                none)) (
              none)) (
            none)) (
          none)) (
        none)) (
      iteP (decide ((List.length x2 + (3 : Nat)) * (1 : Nat) ≤ (140737488355328 : Nat) ∧ List.length x2 + (3 : Nat) ≤ (140737488355328 : Nat))) (
        Option.bind (F49 N (x2 ++ [false, false, false])) fun y4 =>
        Option.bind (F17 N ((16 : Int), if (65535 : Int) < (↑(ByteArray.size x0) : Int) then (65535 : Int) else (↑(ByteArray.size x0) : Int))) fun y5 =>
        iteP (decide ((List.length y4 + List.length y5) * (1 : Nat) ≤ (140737488355328 : Nat) ∧ List.length y4 + List.length y5 ≤ (140737488355328 : Nat))) (
          Option.bind (F17 N ((16 : Int), IntKind.wrap IntKind.i64 ((65535 : Int) - if (65535 : Int) < (↑(ByteArray.size x0) : Int) then (65535 : Int) else (↑(ByteArray.size x0) : Int)))) fun y6 =>
          iteP (decide ((List.length (y4 ++ y5) + List.length y6) * (1 : Nat) ≤ (140737488355328 : Nat) ∧ List.length (y4 ++ y5) + List.length y6 ≤ (140737488355328 : Nat))) (
            iteP (decide (((0 : Int) ≤ if (65535 : Int) < (↑(ByteArray.size x0) : Int) then (65535 : Int) else (↑(ByteArray.size x0) : Int)) ∧ (if (65535 : Int) < (↑(ByteArray.size x0) : Int) then (65535 : Int) else (↑(ByteArray.size x0) : Int)) ≤ (↑(ByteArray.size x0) : Int))) (
              Option.bind (F22 N (ByteArray.extract x0 (0 : Nat) (Int.toNat (if (65535 : Int) < (↑(ByteArray.size x0) : Int) then (65535 : Int) else (↑(ByteArray.size x0) : Int))))) fun y7 =>
              iteP (decide ((List.length (y4 ++ y5 ++ y6) + List.length y7) * (1 : Nat) ≤ (140737488355328 : Nat) ∧ List.length (y4 ++ y5 ++ y6) + List.length y7 ≤ (140737488355328 : Nat))) (
                iteP (ByteArray.toList (ByteArray.extract x0 (Int.toNat (if (65535 : Int) < (↑(ByteArray.size x0) : Int) then (65535 : Int) else (↑(ByteArray.size x0) : Int))) (ByteArray.size x0)) == []) (
                  some (y4 ++ y5 ++ y6 ++ y7)) (
                  Option.bind (f (ByteArray.extract x0 (Int.toNat (if (65535 : Int) < (↑(ByteArray.size x0) : Int) then (65535 : Int) else (↑(ByteArray.size x0) : Int))) (ByteArray.size x0), x1, y4 ++ y5 ++ y6 ++ y7)) fun r => some r)) (
                none)) (
              none)) (
            none)) (
          none)) (
        none))) (
    none)

noncomputable def F16_6 (N : Nat) : Nat → (ByteArray × Bool × (List Bool)) → Option ((List Bool))
  | 0, _ => none
  | k + 1, x => B16_6 N (F16_6 N k) x

noncomputable def C16_6 (N : Nat) (k : Nat) : Cut := ⟨[0, 1, 2], X16_6, tellX I16_6 (F16_6 N k) O16_6⟩

theorem B16_6_eq (N : Nat) (f : (ByteArray × Bool × (List Bool)) → Option ((List Bool))) (x0 : ByteArray) (x1 : Bool) (x2 : (List Bool)) : (roundEv (mkE Tryz.prog ownT (tab16 N) []) Tryz.f16.ntmps A16 (loopAt (bod Tryz.f16) 6) 6 ⟨[0, 1, 2], X16_6, tellX I16_6 f O16_6⟩ (J16_6 (x0, x1, x2))).run D16_6 = B16_6 N f (x0, x1, x2) := by kernel_rfl

theorem C16_6_ok (N : Nat) (k : Nat) : ∀ c', At (bod Tryz.f16) 6 c' → CutOK Tryz.prog Tryz.f16.ntmps (idsL A16) c' (C16_6 N k) :=
  loop_ok (E := (mkE Tryz.prog ownT (tab16 N) [])) (mkE_ok mix (tab16_ok N)) (cutsIn_ok trivial) (fuel := 200) (by decide +kernel) (by kernel_rfl) I16_6_ok D16_6_ok (B16_6 N) (F16_6 N) (fun _ => rfl) (fun _ _ => rfl) (fun f x => match x with | (x0, x1, x2) => B16_6_eq N f x0 x1 x2) k

noncomputable def O16 (r : (List Bool)) : Tr (Pk) := .ret ⟨[.sl 0 (none)], [some (.row (Ty.bool) 4 (r))]⟩

noncomputable def D16 : Pk → Option ((List Bool))
  | ⟨[.sl 0 (none)], [some (.row (Ty.bool) 4 x0)]⟩ => some (x0)
  | _ => none

theorem D16_ok : ∀ y r, D16 y = some r → ∀ z, (O16 r).to z → y = z := by
  intro y r h
  unfold D16 at h
  split at h <;> first | (cases h; intro z hz; exact Option.some.inj hz) | cases h

noncomputable def F16 (N : Nat) : (ByteArray × Bool × (List Bool)) → Option ((List Bool))
  | (x0, x1, x2) =>
  Option.bind (F16_6 N N (x0, x1, x2)) fun y0 =>
  some (y0)

theorem F16_eq (N : Nat) (x0 : ByteArray) (x1 : Bool) (x2 : (List Bool)) : (fnEv (mkE Tryz.prog ownT (tab16 N) [(6, (C16_6 N N))]) Tryz.f16 (J16 (x0, x1, x2))).run D16 = F16 N (x0, x1, x2) := by kernel_rfl

noncomputable def T16 (N : Nat) : Pk → Tr Pk := tell I16 (F16 N) O16

theorem T16_ok (N : Nat) : FOK Tryz.prog 16 (T16 N) :=
  (tell_ok (E := (mkE Tryz.prog ownT (tab16 N) [(6, (C16_6 N N))])) (mkE_ok mix (tab16_ok N)) Tryz.func16 (show Tryz.f16.body = some (bod Tryz.f16) by kernel_rfl) (by decide +kernel) (F := F16 N) I16_ok D16_ok (args := A16) (fun _ => by kernel_rfl) (fun _ => by show 3 ≤ Tryz.f16.ntmps; exact of_decide_eq_true (by kernel_rfl)) (cutsIn_ok ⟨fun c' h => (C16_6_ok N N c' h), trivial⟩) (fun x => match x with | (x0, x1, x2) => F16_eq N x0 x1 x2))

/-! ## f3: mirador/miradorlaw09.DeflateStored -/

noncomputable def I3 : Pk → Option (Int × ByteArray × Bool)
  | ⟨[.v (.int .i64 x0), .v (.string x1), .v (.bool x2)], []⟩ => some (x0, x1, x2)
  | _ => none

noncomputable def J3 (x : Int × ByteArray × Bool) : Pk := ⟨[.v (.int .i64 (x.1)), .v (.string (x.2.1)), .v (.bool (x.2.2))], []⟩

theorem I3_ok : ∀ pk x, I3 pk = some x → pk = J3 x := by
  intro pk x h
  unfold I3 at h
  split at h <;> first | (cases h; rfl) | cases h

noncomputable def A3 : List TV := []

noncomputable def tab3 (N : Nat) : List (Nat × (Pk → Tr Pk)) := [(13, T13 N), (14, T14 N), (15, T15 N), (17, T17 N), (16, T16 N), (18, T18 N), (19, T19 N), (20, T20 N)]

theorem tab3_ok (N : Nat) : TabOK Tryz.prog (tab3 N) := ⟨T13_ok N, ⟨T14_ok N, ⟨T15_ok N, ⟨T17_ok N, ⟨T16_ok N, ⟨T18_ok N, ⟨T19_ok N, ⟨T20_ok N, trivial⟩⟩⟩⟩⟩⟩⟩⟩

noncomputable def O3 (r : Bool) : Tr (Pk) := .ret ⟨[.v (.bool (r))], []⟩

noncomputable def D3 : Pk → Option (Bool)
  | ⟨[.v (.bool x0)], []⟩ => some (x0)
  | _ => none

theorem D3_ok : ∀ y r, D3 y = some r → ∀ z, (O3 r).to z → y = z := by
  intro y r h
  unfold D3 at h
  split at h <;> first | (cases h; intro z hz; exact Option.some.inj hz) | cases h

noncomputable def F3 (N : Nat) : (Int × ByteArray × Bool) → Option (Bool)
  | (x0, x1, x2) =>
  Option.bind (F13 N ()) fun y0 =>
  iteP (!y0) (
    some (false)) (
    iteP (decide ((↑(ByteArray.size x1) : Int) > (70000 : Int))) (
      some (y0)) (
      Option.bind (F14 N (x0, (-1 : Int), (0 : Int), (0 : Int), [])) fun y1 =>
      Option.bind (F15 N (x1, x2, Prod.fst y1, Prod.fst (Prod.snd y1), Prod.snd (Prod.snd y1))) fun y2 =>
      Option.bind (F17 N (x0, (-1 : Int))) fun y3 =>
      Option.bind (F16 N (x1, x2, y3)) fun y4 =>
      iteP (y0) (
        Option.bind (F18 N (Prod.snd (Prod.snd y2), Prod.fst y2, Prod.fst (Prod.snd y2), ())) fun y5 =>
        iteP (y5 == (↑(List.length y4) : Int)) (
          Option.bind (F19 N (Prod.snd (Prod.snd y2), Prod.fst y2, Prod.fst (Prod.snd y2), ())) fun y6 =>
          Option.bind (F20 N y4) fun y7 =>
          some (ByteArray.toList y6 == ByteArray.toList y7)) (
          some (false))) (
        some (false))))

theorem F3_eq (N : Nat) (x0 : Int) (x1 : ByteArray) (x2 : Bool) : (fnEv (mkE Tryz.prog ownT (tab3 N) []) Tryz.f3 (J3 (x0, x1, x2))).run D3 = F3 N (x0, x1, x2) := by kernel_rfl

noncomputable def T3 (N : Nat) : Pk → Tr Pk := tell I3 (F3 N) O3

theorem T3_ok (N : Nat) : FOK Tryz.prog 3 (T3 N) :=
  (tell_ok (E := (mkE Tryz.prog ownT (tab3 N) [])) (mkE_ok mix (tab3_ok N)) Tryz.func3 (show Tryz.f3.body = some (bod Tryz.f3) by kernel_rfl) (by decide +kernel) (F := F3 N) I3_ok D3_ok (args := A3) (fun _ => by kernel_rfl) (fun _ => by show 3 ≤ Tryz.f3.ntmps; exact of_decide_eq_true (by kernel_rfl)) (cutsIn_ok trivial) (fun x => match x with | (x0, x1, x2) => F3_eq N x0 x1 x2))


end Go.Proofs.YteddgkplkjldcaaGreat.Am
