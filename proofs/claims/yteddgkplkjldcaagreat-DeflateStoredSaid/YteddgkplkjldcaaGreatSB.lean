/- The seat's Go functions come to the Lean functions written here, wherever these give an answer (part B). -/
import Derived.Test.YteddgkplkjldcaaGreatSA
set_option linter.unusedVariables false
set_option maxRecDepth 100000
namespace Go.Proofs.YteddgkplkjldcaaGreat.Am
open Go.Am

/-! ## f65: mirador/symbols.Write -/

noncomputable def I65 : Pk → Option ((List Int) × (List Int) × (List (Int × (Int × (Int × Unit)))) × Int × Int × (List Int))
  | ⟨[.adr 0 [], .ro (.int .i64) x0, .ro (.int .i64) x1, .ro (.cons (.int .i64) (.cons (.int .i64) (.cons (.int .i64) .unit))) x2], [some (.var (.agg [.sl 1 none, .v (.int .i64 x3), .v (.int .i64 x4)])), some (.row (.int .u8) 5 x5)]⟩ => some (x0, x1, x2, x3, x4, x5)
  | _ => none

noncomputable def J65 (x : (List Int) × (List Int) × (List (Int × (Int × (Int × Unit)))) × Int × Int × (List Int)) : Pk := ⟨[.adr 0 [], .ro (.int .i64) (x.1), .ro (.int .i64) (x.2.1), .ro (.cons (.int .i64) (.cons (.int .i64) (.cons (.int .i64) .unit))) (x.2.2.1)], [some (.var (.agg [.sl 1 none, .v (.int .i64 (x.2.2.2.1)), .v (.int .i64 (x.2.2.2.2.1))])), some (.row (.int .u8) 5 (x.2.2.2.2.2))]⟩

theorem I65_ok : ∀ pk x, I65 pk = some x → pk = J65 x := by
  intro pk x h
  unfold I65 at h
  split at h <;> first | (cases h; rfl) | cases h

noncomputable def A65 : List TV := [.adr 0 []]

noncomputable def tab65 (N : Nat) : List (Nat × (Pk → Tr Pk)) := [(27, T27 N), (57, T57 N), (66, T66 N), (102, T102 N), (59, T59 N), (103, T103 N), (14, T14 N), (104, T104 N)]

theorem tab65_ok (N : Nat) : TabOK Tryz.prog (tab65 N) := ⟨T27_ok N, ⟨T57_ok N, ⟨T66_ok N, ⟨T102_ok N, ⟨T59_ok N, ⟨T103_ok N, ⟨T14_ok N, ⟨T104_ok N, trivial⟩⟩⟩⟩⟩⟩⟩⟩

def X65_26 : Ex → List Nat
  | .ret => [8]
  | .exit 0 => [1, 2, 0, 3]
  | _ => []

def X65_1018 : Ex → List Nat
  | .ret => [8]
  | .exit 2 => [0, 11]
  | _ => []

noncomputable def I65_26 : Pk → Option (Int × (List (Int × (Int × (Int × Unit)))) × (List Int) × (List Int) × (List (Int × (Int × (Int × Unit)))) × Int × Int × Int × (List Int))
  | ⟨[.v (.int .i64 x0), .ro (Ty.cons (Ty.int IntKind.i64) (Ty.cons (Ty.int IntKind.i64) (Ty.cons (Ty.int IntKind.i64) Ty.unit))) x1, .adr 0 [], .ro (Ty.int IntKind.i64) x2, .ro (Ty.int IntKind.i64) x3, .ro (Ty.cons (Ty.int IntKind.i64) (Ty.cons (Ty.int IntKind.i64) (Ty.cons (Ty.int IntKind.i64) Ty.unit))) x4, .v (.int .i64 x5)], [some (.var (.agg [.sl 1 (none), .v (.int .i64 x6), .v (.int .i64 x7)])), some (.row (Ty.int IntKind.u8) 5 x8)]⟩ => some (x0, x1, x2, x3, x4, x5, x6, x7, x8)
  | _ => none

noncomputable def J65_26 (x : Int × (List (Int × (Int × (Int × Unit)))) × (List Int) × (List Int) × (List (Int × (Int × (Int × Unit)))) × Int × Int × Int × (List Int)) : Pk := ⟨[.v (.int .i64 (x.1)), .ro (Ty.cons (Ty.int IntKind.i64) (Ty.cons (Ty.int IntKind.i64) (Ty.cons (Ty.int IntKind.i64) Ty.unit))) (x.2.1), .adr 0 [], .ro (Ty.int IntKind.i64) (x.2.2.1), .ro (Ty.int IntKind.i64) (x.2.2.2.1), .ro (Ty.cons (Ty.int IntKind.i64) (Ty.cons (Ty.int IntKind.i64) (Ty.cons (Ty.int IntKind.i64) Ty.unit))) (x.2.2.2.2.1), .v (.int .i64 (x.2.2.2.2.2.1))], [some (.var (.agg [.sl 1 (none), .v (.int .i64 (x.2.2.2.2.2.2.1)), .v (.int .i64 (x.2.2.2.2.2.2.2.1))])), some (.row (Ty.int IntKind.u8) 5 (x.2.2.2.2.2.2.2.2))]⟩

theorem I65_26_ok : ∀ pk x, I65_26 pk = some x → pk = J65_26 x := by
  intro pk x h
  unfold I65_26 at h
  split at h <;> first | (cases h; rfl) | cases h

noncomputable def O65_26 (r : ((Int × Int × Int × (List Int)) ⊕ ((List Int) × (List Int) × (List (Int × (Int × (Int × Unit)))) × Int × Int × (List Int)))) : Tr (Ex × Pk) := .sum _ _ r (fun u => .ret (.ret, ⟨[.v (.int .i64 (u.1))], [some (.var (.agg [.sl 1 (none), .v (.int .i64 (u.2.1)), .v (.int .i64 (u.2.2.1))])), some (.row (Ty.int IntKind.u8) 5 (u.2.2.2))]⟩)) (fun v => .ret (.exit 0, ⟨[.ro (Ty.int IntKind.i64) (v.1), .ro (Ty.int IntKind.i64) (v.2.1), .adr 0 [], .ro (Ty.cons (Ty.int IntKind.i64) (Ty.cons (Ty.int IntKind.i64) (Ty.cons (Ty.int IntKind.i64) Ty.unit))) (v.2.2.1)], [some (.var (.agg [.sl 1 (none), .v (.int .i64 (v.2.2.2.1)), .v (.int .i64 (v.2.2.2.2.1))])), some (.row (Ty.int IntKind.u8) 5 (v.2.2.2.2.2))]⟩))

noncomputable def D65_26 : Ex × Pk → Option (((Int × Int × Int × (List Int)) ⊕ ((List Int) × (List Int) × (List (Int × (Int × (Int × Unit)))) × Int × Int × (List Int))))
  | (.ret, ⟨[.v (.int .i64 x0)], [some (.var (.agg [.sl 1 (none), .v (.int .i64 x1), .v (.int .i64 x2)])), some (.row (Ty.int IntKind.u8) 5 x3)]⟩) => some (.inl ((x0, x1, x2, x3)))
  | (.exit 0, ⟨[.ro (Ty.int IntKind.i64) x0, .ro (Ty.int IntKind.i64) x1, .adr 0 [], .ro (Ty.cons (Ty.int IntKind.i64) (Ty.cons (Ty.int IntKind.i64) (Ty.cons (Ty.int IntKind.i64) Ty.unit))) x2], [some (.var (.agg [.sl 1 (none), .v (.int .i64 x3), .v (.int .i64 x4)])), some (.row (Ty.int IntKind.u8) 5 x5)]⟩) => some (.inr ((x0, x1, x2, x3, x4, x5)))
  | _ => none

theorem D65_26_ok : ∀ y r, D65_26 y = some r → ∀ z, (O65_26 r).to z → y = z := by
  intro y r h
  unfold D65_26 at h
  split at h <;> first | (cases h; intro z hz; exact Option.some.inj hz) | cases h

noncomputable def B65_26 (N : Nat) (f : (Int × (List (Int × (Int × (Int × Unit)))) × (List Int) × (List Int) × (List (Int × (Int × (Int × Unit)))) × Int × Int × Int × (List Int)) → Option (((Int × Int × Int × (List Int)) ⊕ ((List Int) × (List Int) × (List (Int × (Int × (Int × Unit)))) × Int × Int × (List Int))))) : (Int × (List (Int × (Int × (Int × Unit)))) × (List Int) × (List Int) × (List (Int × (Int × (Int × Unit)))) × Int × Int × Int × (List Int)) → Option (((Int × Int × Int × (List Int)) ⊕ ((List Int) × (List Int) × (List (Int × (Int × (Int × Unit)))) × Int × Int × (List Int))))
  | (x0, x1, x2, x3, x4, x5, x6, x7, x8) =>
  iteP (decide (x5 < x0)) (
    iteP (within x5 (List.length x4)) (
      Option.bind (x4[Int.toNat x5]?) fun y0 =>
      Option.bind (F27 N (Prod.fst y0, Prod.fst (Prod.snd y0), Prod.fst (Prod.snd (Prod.snd y0)))) fun y1 =>
      iteP (!y1) (
        some (.inl (((1 : Int), x6, x7, x8)))) (
        Option.bind (f (x0, x1, x2, x3, x4, IntKind.wrap IntKind.i64 (x5 + (1 : Int)), x6, x7, x8)) fun r => match r with | .inl (y) => some (.inl (y)) | .inr (y) => some (.inr (y)))) (
      none)) (
    some (.inr ((x3, x2, x1, x6, x7, x8))))

noncomputable def F65_26 (N : Nat) : Nat → (Int × (List (Int × (Int × (Int × Unit)))) × (List Int) × (List Int) × (List (Int × (Int × (Int × Unit)))) × Int × Int × Int × (List Int)) → Option (((Int × Int × Int × (List Int)) ⊕ ((List Int) × (List Int) × (List (Int × (Int × (Int × Unit)))) × Int × Int × (List Int))))
  | 0, _ => none
  | k + 1, x => B65_26 N (F65_26 N k) x

noncomputable def C65_26 (N : Nat) (k : Nat) : Cut := ⟨[23, 3, 0, 2, 1, 22, 24], X65_26, tellX I65_26 (F65_26 N k) O65_26⟩

theorem B65_26_eq (N : Nat) (f : (Int × (List (Int × (Int × (Int × Unit)))) × (List Int) × (List Int) × (List (Int × (Int × (Int × Unit)))) × Int × Int × Int × (List Int)) → Option (((Int × Int × Int × (List Int)) ⊕ ((List Int) × (List Int) × (List (Int × (Int × (Int × Unit)))) × Int × Int × (List Int))))) (x0 : Int) (x1 : (List (Int × (Int × (Int × Unit))))) (x2 : (List Int)) (x3 : (List Int)) (x4 : (List (Int × (Int × (Int × Unit))))) (x5 : Int) (x6 : Int) (x7 : Int) (x8 : (List Int)) : (roundEv (mkE Tryz.prog ownT (tab65 N) []) Tryz.f65.ntmps A65 (loopAt (bod Tryz.f65) 26) 26 ⟨[23, 3, 0, 2, 1, 22, 24], X65_26, tellX I65_26 f O65_26⟩ (J65_26 (x0, x1, x2, x3, x4, x5, x6, x7, x8))).run D65_26 = B65_26 N f (x0, x1, x2, x3, x4, x5, x6, x7, x8) := by kernel_rfl

theorem C65_26_ok (N : Nat) (k : Nat) : ∀ c', At (bod Tryz.f65) 26 c' → CutOK Tryz.prog Tryz.f65.ntmps (idsL A65) c' (C65_26 N k) :=
  loop_ok (E := (mkE Tryz.prog ownT (tab65 N) [])) (mkE_ok mix (tab65_ok N)) (cutsIn_ok trivial) (fuel := 200) (by decide +kernel) (by kernel_rfl) I65_26_ok D65_26_ok (B65_26 N) (F65_26 N) (fun _ => rfl) (fun _ _ => rfl) (fun f x => match x with | (x0, x1, x2, x3, x4, x5, x6, x7, x8) => B65_26_eq N f x0 x1 x2 x3 x4 x5 x6 x7 x8) k

noncomputable def I65_1018 : Pk → Option (Int × Int × (List (Int × (Int × (Int × Unit)))) × Int × Int × (List (Int × (Int × Unit))) × (List (Int × (Int × Unit))) × (List Int))
  | ⟨[.v (.int .i64 x0), .v (.int .i64 x1), .ro (Ty.cons (Ty.int IntKind.i64) (Ty.cons (Ty.int IntKind.i64) (Ty.cons (Ty.int IntKind.i64) Ty.unit))) x2, .sl 1 (none), .adr 0 [], .sl 2 (none)], [some (.var (.agg [.sl 3 (none), .v (.int .i64 x3), .v (.int .i64 x4)])), some (.row (Ty.cons (Ty.int IntKind.i64) (Ty.cons (Ty.int IntKind.i64) Ty.unit)) 105 x5), some (.row (Ty.cons (Ty.int IntKind.i64) (Ty.cons (Ty.int IntKind.i64) Ty.unit)) 105 x6), some (.row (Ty.int IntKind.u8) 5 x7)]⟩ => some (x0, x1, x2, x3, x4, x5, x6, x7)
  | _ => none

noncomputable def J65_1018 (x : Int × Int × (List (Int × (Int × (Int × Unit)))) × Int × Int × (List (Int × (Int × Unit))) × (List (Int × (Int × Unit))) × (List Int)) : Pk := ⟨[.v (.int .i64 (x.1)), .v (.int .i64 (x.2.1)), .ro (Ty.cons (Ty.int IntKind.i64) (Ty.cons (Ty.int IntKind.i64) (Ty.cons (Ty.int IntKind.i64) Ty.unit))) (x.2.2.1), .sl 1 (none), .adr 0 [], .sl 2 (none)], [some (.var (.agg [.sl 3 (none), .v (.int .i64 (x.2.2.2.1)), .v (.int .i64 (x.2.2.2.2.1))])), some (.row (Ty.cons (Ty.int IntKind.i64) (Ty.cons (Ty.int IntKind.i64) Ty.unit)) 105 (x.2.2.2.2.2.1)), some (.row (Ty.cons (Ty.int IntKind.i64) (Ty.cons (Ty.int IntKind.i64) Ty.unit)) 105 (x.2.2.2.2.2.2.1)), some (.row (Ty.int IntKind.u8) 5 (x.2.2.2.2.2.2.2))]⟩

theorem I65_1018_ok : ∀ pk x, I65_1018 pk = some x → pk = J65_1018 x := by
  intro pk x h
  unfold I65_1018 at h
  split at h <;> first | (cases h; rfl) | cases h

noncomputable def O65_1018 (r : Int × Int × (List (Int × (Int × Unit))) × (List Int)) : Tr (Ex × Pk) := .ret (.exit 2, ⟨[.adr 0 [], .sl 1 (none)], [some (.var (.agg [.sl 2 (none), .v (.int .i64 (r.1)), .v (.int .i64 (r.2.1))])), some (.row (Ty.cons (Ty.int IntKind.i64) (Ty.cons (Ty.int IntKind.i64) Ty.unit)) 105 (r.2.2.1)), some (.row (Ty.int IntKind.u8) 5 (r.2.2.2))]⟩)

noncomputable def D65_1018 : Ex × Pk → Option (Int × Int × (List (Int × (Int × Unit))) × (List Int))
  | (.exit 2, ⟨[.adr 0 [], .sl 1 (none)], [some (.var (.agg [.sl 2 (none), .v (.int .i64 x0), .v (.int .i64 x1)])), some (.row (Ty.cons (Ty.int IntKind.i64) (Ty.cons (Ty.int IntKind.i64) Ty.unit)) 105 x2), some (.row (Ty.int IntKind.u8) 5 x3)]⟩) => some ((x0, x1, x2, x3))
  | _ => none

theorem D65_1018_ok : ∀ y r, D65_1018 y = some r → ∀ z, (O65_1018 r).to z → y = z := by
  intro y r h
  unfold D65_1018 at h
  split at h <;> first | (cases h; intro z hz; exact Option.some.inj hz) | cases h

noncomputable def B65_1018 (N : Nat) (f : (Int × Int × (List (Int × (Int × (Int × Unit)))) × Int × Int × (List (Int × (Int × Unit))) × (List (Int × (Int × Unit))) × (List Int)) → Option (Int × Int × (List (Int × (Int × Unit))) × (List Int))) : (Int × Int × (List (Int × (Int × (Int × Unit)))) × Int × Int × (List (Int × (Int × Unit))) × (List (Int × (Int × Unit))) × (List Int)) → Option (Int × Int × (List (Int × (Int × Unit))) × (List Int))
  | (x0, x1, x2, x3, x4, x5, x6, x7) =>
  iteP (decide (x0 < x1)) (
    iteP (within x0 (List.length x2)) (
      Option.bind (x2[Int.toNat x0]?) fun y0 =>
      iteP (Prod.fst (Prod.snd y0) == (0 : Int)) (
        iteP (within (Prod.fst y0) (List.length x6)) (
          Option.bind (x6[Int.toNat (Prod.fst y0)]?) fun y1 =>
          Option.bind (F59 N (Prod.fst y1, Prod.fst (Prod.snd y1), x3, x4, x7)) fun y2 =>
          Option.bind (f (IntKind.wrap IntKind.i64 (x0 + (1 : Int)), x1, x2, Prod.fst y2, Prod.fst (Prod.snd y2), x5, x6, Prod.snd (Prod.snd y2))) fun r => some r) (
          none)) (
        Option.bind (F103 N (Prod.fst (Prod.snd y0))) fun y3 =>
        iteP (within (Prod.fst y3) (List.length x6)) (
          Option.bind (x6[Int.toNat (Prod.fst y3)]?) fun y4 =>
          Option.bind (F59 N (Prod.fst y4, Prod.fst (Prod.snd y4), x3, x4, x7)) fun y5 =>
          Option.bind (F14 N (Prod.snd (Prod.snd y3), Prod.fst (Prod.snd y3), Prod.fst y5, Prod.fst (Prod.snd y5), Prod.snd (Prod.snd y5))) fun y6 =>
          Option.bind (F104 N (Prod.fst (Prod.snd (Prod.snd y0)))) fun y7 =>
          iteP (within (Prod.fst y7) (List.length x5)) (
            Option.bind (x5[Int.toNat (Prod.fst y7)]?) fun y8 =>
            Option.bind (F59 N (Prod.fst y8, Prod.fst (Prod.snd y8), Prod.fst y6, Prod.fst (Prod.snd y6), Prod.snd (Prod.snd y6))) fun y9 =>
            Option.bind (F14 N (Prod.snd (Prod.snd y7), Prod.fst (Prod.snd y7), Prod.fst y9, Prod.fst (Prod.snd y9), Prod.snd (Prod.snd y9))) fun y10 =>
            Option.bind (f (IntKind.wrap IntKind.i64 (x0 + (1 : Int)), x1, x2, Prod.fst y10, Prod.fst (Prod.snd y10), x5, x6, Prod.snd (Prod.snd y10))) fun r => some r) (
            none)) (
          none))) (
      none)) (
    some ((x3, x4, x6, x7)))

noncomputable def F65_1018 (N : Nat) : Nat → (Int × Int × (List (Int × (Int × (Int × Unit)))) × Int × Int × (List (Int × (Int × Unit))) × (List (Int × (Int × Unit))) × (List Int)) → Option (Int × Int × (List (Int × (Int × Unit))) × (List Int))
  | 0, _ => none
  | k + 1, x => B65_1018 N (F65_1018 N k) x

noncomputable def C65_1018 (N : Nat) (k : Nat) : Cut := ⟨[67, 66, 65, 13, 0, 11], X65_1018, tellX I65_1018 (F65_1018 N k) O65_1018⟩

theorem B65_1018_eq (N : Nat) (f : (Int × Int × (List (Int × (Int × (Int × Unit)))) × Int × Int × (List (Int × (Int × Unit))) × (List (Int × (Int × Unit))) × (List Int)) → Option (Int × Int × (List (Int × (Int × Unit))) × (List Int))) (x0 : Int) (x1 : Int) (x2 : (List (Int × (Int × (Int × Unit))))) (x3 : Int) (x4 : Int) (x5 : (List (Int × (Int × Unit)))) (x6 : (List (Int × (Int × Unit)))) (x7 : (List Int)) : (roundEv (mkE Tryz.prog ownT (tab65 N) [(26, (C65_26 N N))]) Tryz.f65.ntmps A65 (loopAt (bod Tryz.f65) 1018) 1018 ⟨[67, 66, 65, 13, 0, 11], X65_1018, tellX I65_1018 f O65_1018⟩ (J65_1018 (x0, x1, x2, x3, x4, x5, x6, x7))).run D65_1018 = B65_1018 N f (x0, x1, x2, x3, x4, x5, x6, x7) := by kernel_rfl

theorem C65_1018_ok (N : Nat) (k : Nat) : ∀ c', At (bod Tryz.f65) 1018 c' → CutOK Tryz.prog Tryz.f65.ntmps (idsL A65) c' (C65_1018 N k) :=
  loop_ok (E := (mkE Tryz.prog ownT (tab65 N) [(26, (C65_26 N N))])) (mkE_ok mix (tab65_ok N)) (cutsIn_ok ⟨fun c' h => (C65_26_ok N N c' h), trivial⟩) (fuel := 200) (by decide +kernel) (by kernel_rfl) I65_1018_ok D65_1018_ok (B65_1018 N) (F65_1018 N) (fun _ => rfl) (fun _ _ => rfl) (fun f x => match x with | (x0, x1, x2, x3, x4, x5, x6, x7) => B65_1018_eq N f x0 x1 x2 x3 x4 x5 x6 x7) k

noncomputable def O65 (r : Int × Int × Int × (List Int)) : Tr (Pk) := .ret ⟨[.v (.int .i64 (r.1))], [some (.var (.agg [.sl 1 (none), .v (.int .i64 (r.2.1)), .v (.int .i64 (r.2.2.1))])), some (.row (Ty.int IntKind.u8) 5 (r.2.2.2))]⟩

noncomputable def D65 : Pk → Option (Int × Int × Int × (List Int))
  | ⟨[.v (.int .i64 x0)], [some (.var (.agg [.sl 1 (none), .v (.int .i64 x1), .v (.int .i64 x2)])), some (.row (Ty.int IntKind.u8) 5 x3)]⟩ => some ((x0, x1, x2, x3))
  | _ => none

theorem D65_ok : ∀ y r, D65 y = some r → ∀ z, (O65 r).to z → y = z := by
  intro y r h
  unfold D65 at h
  split at h <;> first | (cases h; intro z hz; exact Option.some.inj hz) | cases h

noncomputable def F65 (N : Nat) : ((List Int) × (List Int) × (List (Int × (Int × (Int × Unit)))) × Int × Int × (List Int)) → Option (Int × Int × Int × (List Int))
  | (x0, x1, x2, x3, x4, x5) =>
  Option.bind (F65_26 N N ((↑(List.length x2) : Int), x2, x1, x0, x2, (0 : Int), x3, x4, x5)) fun y0 =>
  match y0 with
  | .inl y1 =>
    some ((Prod.fst y1, Prod.fst (Prod.snd y1), Prod.fst (Prod.snd (Prod.snd y1)), Prod.snd (Prod.snd (Prod.snd y1))))
  | .inr y1 =>
    Option.bind (F57 N (Prod.fst y1)) fun y2 =>
    Option.bind (F57 N (Prod.fst (Prod.snd y1))) fun y3 =>
    Option.bind (F66 N (Prod.fst (Prod.snd (Prod.snd y1)))) fun y4 =>
    iteP (Prod.fst y2 != (0 : Int)) (
      some (((50 : Int), Prod.fst (Prod.snd (Prod.snd (Prod.snd y1))), Prod.fst (Prod.snd (Prod.snd (Prod.snd (Prod.snd y1)))), Prod.snd (Prod.snd (Prod.snd (Prod.snd (Prod.snd y1))))))) (
      iteP (Prod.fst y3 != (0 : Int)) (
        some (((50 : Int), Prod.fst (Prod.snd (Prod.snd (Prod.snd y1))), Prod.fst (Prod.snd (Prod.snd (Prod.snd (Prod.snd y1)))), Prod.snd (Prod.snd (Prod.snd (Prod.snd (Prod.snd y1))))))) (
        Option.bind (F102 N (Prod.snd y2, Prod.fst y4)) fun y5 =>
        iteP (!y5) (
          some (((50 : Int), Prod.fst (Prod.snd (Prod.snd (Prod.snd y1))), Prod.fst (Prod.snd (Prod.snd (Prod.snd (Prod.snd y1)))), Prod.snd (Prod.snd (Prod.snd (Prod.snd (Prod.snd y1))))))) (
          Option.bind (F102 N (Prod.snd y3, Prod.snd y4)) fun y6 =>
          iteP (!y6) (
            some (((50 : Int), Prod.fst (Prod.snd (Prod.snd (Prod.snd y1))), Prod.fst (Prod.snd (Prod.snd (Prod.snd (Prod.snd y1)))), Prod.snd (Prod.snd (Prod.snd (Prod.snd (Prod.snd y1))))))) (
            Option.bind (F65_1018 N N ((0 : Int), (↑(List.length (Prod.fst (Prod.snd (Prod.snd y1)))) : Int), Prod.fst (Prod.snd (Prod.snd y1)), Prod.fst (Prod.snd (Prod.snd (Prod.snd y1))), Prod.fst (Prod.snd (Prod.snd (Prod.snd (Prod.snd y1)))), Prod.snd y3, Prod.snd y2, Prod.snd (Prod.snd (Prod.snd (Prod.snd (Prod.snd y1)))))) fun y7 =>
            iteP (within (256 : Int) (List.length (Prod.fst (Prod.snd (Prod.snd y7))))) (
              Option.bind ((Prod.fst (Prod.snd (Prod.snd y7)))[(256 : Nat)]?) fun y8 =>
              Option.bind (F59 N (Prod.fst y8, Prod.fst (Prod.snd y8), Prod.fst y7, Prod.fst (Prod.snd y7), Prod.snd (Prod.snd (Prod.snd y7)))) fun y9 =>
              some (((0 : Int), Prod.fst y9, Prod.fst (Prod.snd y9), Prod.snd (Prod.snd y9)))) (
              none)))))

theorem F65_eq (N : Nat) (x0 : (List Int)) (x1 : (List Int)) (x2 : (List (Int × (Int × (Int × Unit))))) (x3 : Int) (x4 : Int) (x5 : (List Int)) : (fnEv (mkE Tryz.prog ownT (tab65 N) [(26, (C65_26 N N)), (1018, (C65_1018 N N))]) Tryz.f65 (J65 (x0, x1, x2, x3, x4, x5))).run D65 = F65 N (x0, x1, x2, x3, x4, x5) := by kernel_rfl

noncomputable def T65 (N : Nat) : Pk → Tr Pk := tell I65 (F65 N) O65

theorem T65_ok (N : Nat) : FOK Tryz.prog 65 (T65 N) :=
  (tell_ok (E := (mkE Tryz.prog ownT (tab65 N) [(26, (C65_26 N N)), (1018, (C65_1018 N N))])) (mkE_ok mix (tab65_ok N)) Tryz.func65 (show Tryz.f65.body = some (bod Tryz.f65) by kernel_rfl) (by decide +kernel) (F := F65 N) I65_ok D65_ok (args := A65) (fun _ => by kernel_rfl) (fun _ => by show 4 ≤ Tryz.f65.ntmps; exact of_decide_eq_true (by kernel_rfl)) (cutsIn_ok ⟨fun c' h => (C65_26_ok N N c' h), ⟨fun c' h => (C65_1018_ok N N c' h), trivial⟩⟩) (fun x => match x with | (x0, x1, x2, x3, x4, x5) => F65_eq N x0 x1 x2 x3 x4 x5))

/-! ## f153: slices.Grow[[]mirador/huffman.bundle,mirador/huffman.bundle] -/

noncomputable def I153 : Pk → Option (Int)
  | ⟨[.v (.slice none 0 0), .v (.int .i64 x0)], []⟩ => some x0
  | _ => none

noncomputable def J153 (x : Int) : Pk := ⟨[.v (.slice none 0 0), .v (.int .i64 (x))], []⟩

theorem I153_ok : ∀ pk x, I153 pk = some x → pk = J153 x := by
  intro pk x h
  unfold I153 at h
  split at h <;> first | (cases h; rfl) | cases h

noncomputable def A153 : List TV := []

noncomputable def tab153 (N : Nat) : List (Nat × (Pk → Tr Pk)) := []

theorem tab153_ok (N : Nat) : TabOK Tryz.prog (tab153 N) := trivial

noncomputable def O153 (r : (((List (Int × ((List Int) × Unit)))) ⊕ ((List (Int × ((List Int) × Unit)))))) : Tr (Pk) := .sum _ _ r (fun u => .ret ⟨[.sl 0 (some ((0, 0)))], [some (.row (Ty.cons (Ty.int IntKind.i64) (Ty.cons (Ty.sl (Ty.int IntKind.i64)) Ty.unit)) 137 (u))]⟩) (fun v => .ret ⟨[.sl 0 (none)], [some (.row (Ty.cons (Ty.int IntKind.i64) (Ty.cons (Ty.sl (Ty.int IntKind.i64)) Ty.unit)) 137 (v))]⟩)

noncomputable def D153 : Pk → Option ((((List (Int × ((List Int) × Unit)))) ⊕ ((List (Int × ((List Int) × Unit))))))
  | ⟨[.sl 0 (some ((0, 0)))], [some (.row (Ty.cons (Ty.int IntKind.i64) (Ty.cons (Ty.sl (Ty.int IntKind.i64)) Ty.unit)) 137 x0)]⟩ => some (.inl (x0))
  | ⟨[.sl 0 (none)], [some (.row (Ty.cons (Ty.int IntKind.i64) (Ty.cons (Ty.sl (Ty.int IntKind.i64)) Ty.unit)) 137 x0)]⟩ => some (.inr (x0))
  | _ => none

theorem D153_ok : ∀ y r, D153 y = some r → ∀ z, (O153 r).to z → y = z := by
  intro y r h
  unfold D153 at h
  split at h <;> first | (cases h; intro z hz; exact Option.some.inj hz) | cases h

noncomputable def F153 (N : Nat) : (Int) → Option ((((List (Int × ((List Int) × Unit)))) ⊕ ((List (Int × ((List Int) × Unit))))))
  | x0 =>
  iteP (decide (x0 < (0 : Int))) (
    none) (
    iteP (decide (IntKind.wrap IntKind.i64 (x0 - (0 : Int)) > (0 : Int))) (
      iteP (decide ((0 : Int) < IntKind.wrap IntKind.i64 (x0 - (0 : Int)) ∧ IntKind.wrap IntKind.i64 (x0 - (0 : Int)) * (32 : Int) ≤ (140737488355328 : Int) ∧ IntKind.wrap IntKind.i64 (x0 - (0 : Int)) ≤ (140737488355328 : Int))) (
        iteP (decide ((0 : Int) ≤ (0 : Int) ∧ (0 : Int) ≤ (↑(List.length (List.replicate (Int.toNat (IntKind.wrap IntKind.i64 (x0 - (0 : Int)))) ((0 : Int), nilT (Ty.den (Ty.int IntKind.i64)), ()))) : Int))) (
          some (.inl (List.replicate (Int.toNat (IntKind.wrap IntKind.i64 (x0 - (0 : Int)))) ((0 : Int), nilT (Ty.den (Ty.int IntKind.i64)), ())))) (
          none)) (
        none)) (
      some (.inr ([]))))

theorem F153_eq (N : Nat) (x0 : Int) : (fnEv (mkE Tryz.prog ownT (tab153 N) []) Tryz.f153 (J153 x0)).run D153 = F153 N x0 := by kernel_rfl

noncomputable def T153 (N : Nat) : Pk → Tr Pk := postT (trimP (Ty.cons (Ty.int IntKind.i64) (Ty.cons (Ty.sl (Ty.int IntKind.i64)) (Ty.unit))) 137) (tell I153 (F153 N) O153)

theorem T153_ok (N : Nat) : FOK Tryz.prog 153 (T153 N) :=
  postT_ok (trimP_ok _ _) (tell_ok (E := (mkE Tryz.prog ownT (tab153 N) [])) (mkE_ok mix (tab153_ok N)) Tryz.func153 (show Tryz.f153.body = some (bod Tryz.f153) by kernel_rfl) (by decide +kernel) (F := F153 N) I153_ok D153_ok (args := A153) (fun _ => by kernel_rfl) (fun _ => by show 2 ≤ Tryz.f153.ntmps; exact of_decide_eq_true (by kernel_rfl)) (cutsIn_ok trivial) (fun x => match x with | x0 => F153_eq N x0))

/-! ## f124: slices.Concat[[]mirador/huffman.bundle,mirador/huffman.bundle] -/

noncomputable def I124 : Pk → Option ((List (List (Int × ((List Int) × Unit)))))
  | ⟨[.sl 0 none], [some (.row (.sl (.cons (.int .i64) (.cons (.sl (.int .i64)) .unit))) 133 x0)]⟩ => some x0
  | _ => none

noncomputable def J124 (x : (List (List (Int × ((List Int) × Unit))))) : Pk := ⟨[.sl 0 none], [some (.row (.sl (.cons (.int .i64) (.cons (.sl (.int .i64)) .unit))) 133 (x))]⟩

theorem I124_ok : ∀ pk x, I124 pk = some x → pk = J124 x := by
  intro pk x h
  unfold I124 at h
  split at h <;> first | (cases h; rfl) | cases h

noncomputable def A124 : List TV := []

noncomputable def tab124 (N : Nat) : List (Nat × (Pk → Tr Pk)) := [(153, T153 N)]

theorem tab124_ok (N : Nat) : TabOK Tryz.prog (tab124 N) := ⟨T153_ok N, trivial⟩

def X124_58 : Ex → List Nat
  | .ret => [2]
  | .exit 0 => [3, 0]
  | _ => []

def X124_250 : Ex → List Nat
  | .ret => [2]
  | .exit 2 => [6]
  | _ => []

noncomputable def I124_58 : Pk → Option (Int × Int × Int × (List (List (Int × ((List Int) × Unit)))))
  | ⟨[.v (.int .i64 x0), .v (.int .i64 x1), .v (.int .i64 x2), .sl 0 (none), .sl 0 (none)], [some (.row (Ty.sl (Ty.cons (Ty.int IntKind.i64) (Ty.cons (Ty.sl (Ty.int IntKind.i64)) Ty.unit))) 133 x3)]⟩ => some (x0, x1, x2, x3)
  | _ => none

noncomputable def J124_58 (x : Int × Int × Int × (List (List (Int × ((List Int) × Unit))))) : Pk := ⟨[.v (.int .i64 (x.1)), .v (.int .i64 (x.2.1)), .v (.int .i64 (x.2.2.1)), .sl 0 (none), .sl 0 (none)], [some (.row (Ty.sl (Ty.cons (Ty.int IntKind.i64) (Ty.cons (Ty.sl (Ty.int IntKind.i64)) Ty.unit))) 133 (x.2.2.2))]⟩

theorem I124_58_ok : ∀ pk x, I124_58 pk = some x → pk = J124_58 x := by
  intro pk x h
  unfold I124_58 at h
  split at h <;> first | (cases h; rfl) | cases h

noncomputable def O124_58 (r : Int × (List (List (Int × ((List Int) × Unit))))) : Tr (Ex × Pk) := .ret (.exit 0, ⟨[.v (.int .i64 (r.1)), .sl 0 (none)], [some (.row (Ty.sl (Ty.cons (Ty.int IntKind.i64) (Ty.cons (Ty.sl (Ty.int IntKind.i64)) Ty.unit))) 133 (r.2))]⟩)

noncomputable def D124_58 : Ex × Pk → Option (Int × (List (List (Int × ((List Int) × Unit)))))
  | (.exit 0, ⟨[.v (.int .i64 x0), .sl 0 (none)], [some (.row (Ty.sl (Ty.cons (Ty.int IntKind.i64) (Ty.cons (Ty.sl (Ty.int IntKind.i64)) Ty.unit))) 133 x1)]⟩) => some ((x0, x1))
  | _ => none

theorem D124_58_ok : ∀ y r, D124_58 y = some r → ∀ z, (O124_58 r).to z → y = z := by
  intro y r h
  unfold D124_58 at h
  split at h <;> first | (cases h; intro z hz; exact Option.some.inj hz) | cases h

noncomputable def B124_58 (N : Nat) (f : (Int × Int × Int × (List (List (Int × ((List Int) × Unit))))) → Option (Int × (List (List (Int × ((List Int) × Unit)))))) : (Int × Int × Int × (List (List (Int × ((List Int) × Unit))))) → Option (Int × (List (List (Int × ((List Int) × Unit)))))
  | (x0, x1, x2, x3) =>
  iteP (decide (x1 < x2)) (
    iteP (within x1 (List.length x3)) (
      Option.bind (x3[Int.toNat x1]?) fun y0 =>
      iteP (decide (IntKind.wrap IntKind.i64 (x0 + (↑(List.length y0) : Int)) < (0 : Int))) (
        none) (
        Option.bind (f (IntKind.wrap IntKind.i64 (x0 + (↑(List.length y0) : Int)), IntKind.wrap IntKind.i64 (x1 + (1 : Int)), x2, x3)) fun r => some r)) (
      none)) (
    some ((x0, x3)))

noncomputable def F124_58 (N : Nat) : Nat → (Int × Int × Int × (List (List (Int × ((List Int) × Unit))))) → Option (Int × (List (List (Int × ((List Int) × Unit)))))
  | 0, _ => none
  | k + 1, x => B124_58 N (F124_58 N k) x

noncomputable def C124_58 (N : Nat) (k : Nat) : Cut := ⟨[3, 11, 10, 0, 9], X124_58, tellX I124_58 (F124_58 N k) O124_58⟩

theorem B124_58_eq (N : Nat) (f : (Int × Int × Int × (List (List (Int × ((List Int) × Unit))))) → Option (Int × (List (List (Int × ((List Int) × Unit)))))) (x0 : Int) (x1 : Int) (x2 : Int) (x3 : (List (List (Int × ((List Int) × Unit))))) : (roundEv (mkE Tryz.prog ownT (tab124 N) []) Tryz.f124.ntmps A124 (loopAt (bod Tryz.f124) 58) 58 ⟨[3, 11, 10, 0, 9], X124_58, tellX I124_58 f O124_58⟩ (J124_58 (x0, x1, x2, x3))).run D124_58 = B124_58 N f (x0, x1, x2, x3) := by kernel_rfl

theorem C124_58_ok (N : Nat) (k : Nat) : ∀ c', At (bod Tryz.f124) 58 c' → CutOK Tryz.prog Tryz.f124.ntmps (idsL A124) c' (C124_58 N k) :=
  loop_ok (E := (mkE Tryz.prog ownT (tab124 N) [])) (mkE_ok mix (tab124_ok N)) (cutsIn_ok trivial) (fuel := 200) (by decide +kernel) (by kernel_rfl) I124_58_ok D124_58_ok (B124_58 N) (F124_58 N) (fun _ => rfl) (fun _ _ => rfl) (fun f x => match x with | (x0, x1, x2, x3) => B124_58_eq N f x0 x1 x2 x3) k

noncomputable def I124_250 : Pk → Option (Int × Int × (List (Int × ((List Int) × Unit))) × (List (List (Int × ((List Int) × Unit)))))
  | ⟨[.sl 0 (none), .v (.int .i64 x0), .v (.int .i64 x1), .sl 1 (none)], [some (.row (Ty.cons (Ty.int IntKind.i64) (Ty.cons (Ty.sl (Ty.int IntKind.i64)) Ty.unit)) 137 x2), some (.row (Ty.sl (Ty.cons (Ty.int IntKind.i64) (Ty.cons (Ty.sl (Ty.int IntKind.i64)) Ty.unit))) 133 x3)]⟩ => some (x0, x1, x2, x3)
  | _ => none

noncomputable def J124_250 (x : Int × Int × (List (Int × ((List Int) × Unit))) × (List (List (Int × ((List Int) × Unit))))) : Pk := ⟨[.sl 0 (none), .v (.int .i64 (x.1)), .v (.int .i64 (x.2.1)), .sl 1 (none)], [some (.row (Ty.cons (Ty.int IntKind.i64) (Ty.cons (Ty.sl (Ty.int IntKind.i64)) Ty.unit)) 137 (x.2.2.1)), some (.row (Ty.sl (Ty.cons (Ty.int IntKind.i64) (Ty.cons (Ty.sl (Ty.int IntKind.i64)) Ty.unit))) 133 (x.2.2.2))]⟩

theorem I124_250_ok : ∀ pk x, I124_250 pk = some x → pk = J124_250 x := by
  intro pk x h
  unfold I124_250 at h
  split at h <;> first | (cases h; rfl) | cases h

noncomputable def O124_250 (r : (List (Int × ((List Int) × Unit)))) : Tr (Ex × Pk) := .ret (.exit 2, ⟨[.sl 0 (none)], [some (.row (Ty.cons (Ty.int IntKind.i64) (Ty.cons (Ty.sl (Ty.int IntKind.i64)) Ty.unit)) 137 (r))]⟩)

noncomputable def D124_250 : Ex × Pk → Option ((List (Int × ((List Int) × Unit))))
  | (.exit 2, ⟨[.sl 0 (none)], [some (.row (Ty.cons (Ty.int IntKind.i64) (Ty.cons (Ty.sl (Ty.int IntKind.i64)) Ty.unit)) 137 x0)]⟩) => some (x0)
  | _ => none

theorem D124_250_ok : ∀ y r, D124_250 y = some r → ∀ z, (O124_250 r).to z → y = z := by
  intro y r h
  unfold D124_250 at h
  split at h <;> first | (cases h; intro z hz; exact Option.some.inj hz) | cases h

noncomputable def B124_250 (N : Nat) (f : (Int × Int × (List (Int × ((List Int) × Unit))) × (List (List (Int × ((List Int) × Unit))))) → Option ((List (Int × ((List Int) × Unit))))) : (Int × Int × (List (Int × ((List Int) × Unit))) × (List (List (Int × ((List Int) × Unit))))) → Option ((List (Int × ((List Int) × Unit))))
  | (x0, x1, x2, x3) =>
  iteP (decide (x0 < x1)) (
    iteP (within x0 (List.length x3)) (
      Option.bind (x3[Int.toNat x0]?) fun y0 =>
      iteP (decide ((List.length x2 + List.length y0) * (32 : Nat) ≤ (140737488355328 : Nat) ∧ List.length x2 + List.length y0 ≤ (140737488355328 : Nat))) (
        Option.bind (f (IntKind.wrap IntKind.i64 (x0 + (1 : Int)), x1, x2 ++ y0, x3)) fun r => some r) (
        none)) (
      none)) (
    some (x2))

noncomputable def F124_250 (N : Nat) : Nat → (Int × Int × (List (Int × ((List Int) × Unit))) × (List (List (Int × ((List Int) × Unit))))) → Option ((List (Int × ((List Int) × Unit))))
  | 0, _ => none
  | k + 1, x => B124_250 N (F124_250 N k) x

noncomputable def C124_250 (N : Nat) (k : Nat) : Cut := ⟨[6, 27, 26, 25], X124_250, tellX I124_250 (F124_250 N k) O124_250⟩

theorem B124_250_eq (N : Nat) (f : (Int × Int × (List (Int × ((List Int) × Unit))) × (List (List (Int × ((List Int) × Unit))))) → Option ((List (Int × ((List Int) × Unit))))) (x0 : Int) (x1 : Int) (x2 : (List (Int × ((List Int) × Unit)))) (x3 : (List (List (Int × ((List Int) × Unit))))) : (roundEv (mkE Tryz.prog ownT (tab124 N) [(58, (C124_58 N N))]) Tryz.f124.ntmps A124 (loopAt (bod Tryz.f124) 250) 250 ⟨[6, 27, 26, 25], X124_250, tellX I124_250 f O124_250⟩ (J124_250 (x0, x1, x2, x3))).run D124_250 = B124_250 N f (x0, x1, x2, x3) := by kernel_rfl

theorem C124_250_ok (N : Nat) (k : Nat) : ∀ c', At (bod Tryz.f124) 250 c' → CutOK Tryz.prog Tryz.f124.ntmps (idsL A124) c' (C124_250 N k) :=
  loop_ok (E := (mkE Tryz.prog ownT (tab124 N) [(58, (C124_58 N N))])) (mkE_ok mix (tab124_ok N)) (cutsIn_ok ⟨fun c' h => (C124_58_ok N N c' h), trivial⟩) (fuel := 200) (by decide +kernel) (by kernel_rfl) I124_250_ok D124_250_ok (B124_250 N) (F124_250 N) (fun _ => rfl) (fun _ _ => rfl) (fun f x => match x with | (x0, x1, x2, x3) => B124_250_eq N f x0 x1 x2 x3) k

noncomputable def O124 (r : (List (Int × ((List Int) × Unit)))) : Tr (Pk) := .ret ⟨[.sl 0 (none)], [some (.row (Ty.cons (Ty.int IntKind.i64) (Ty.cons (Ty.sl (Ty.int IntKind.i64)) Ty.unit)) 137 (r))]⟩

noncomputable def D124 : Pk → Option ((List (Int × ((List Int) × Unit))))
  | ⟨[.sl 0 (none)], [some (.row (Ty.cons (Ty.int IntKind.i64) (Ty.cons (Ty.sl (Ty.int IntKind.i64)) Ty.unit)) 137 x0)]⟩ => some (x0)
  | _ => none

theorem D124_ok : ∀ y r, D124 y = some r → ∀ z, (O124 r).to z → y = z := by
  intro y r h
  unfold D124 at h
  split at h <;> first | (cases h; intro z hz; exact Option.some.inj hz) | cases h

noncomputable def F124 (N : Nat) : ((List (List (Int × ((List Int) × Unit))))) → Option ((List (Int × ((List Int) × Unit))))
  | x0 =>
  Option.bind (F124_58 N N ((0 : Int), (0 : Int), (↑(List.length x0) : Int), x0)) fun y0 =>
  Option.bind (F153 N (Prod.fst y0)) fun y1 =>
  match y1 with
  | .inl y2 =>
    Option.bind (F124_250 N N ((0 : Int), (↑(List.length (Prod.snd y0)) : Int), [], Prod.snd y0)) fun y3 =>
    some (y3)
  | .inr y2 =>
    Option.bind (F124_250 N N ((0 : Int), (↑(List.length (Prod.snd y0)) : Int), y2, Prod.snd y0)) fun y4 =>
    some (y4)

theorem F124_eq (N : Nat) (x0 : (List (List (Int × ((List Int) × Unit))))) : (fnEv (mkE Tryz.prog ownT (tab124 N) [(58, (C124_58 N N)), (250, (C124_250 N N))]) Tryz.f124 (J124 x0)).run D124 = F124 N x0 := by kernel_rfl

noncomputable def T124 (N : Nat) : Pk → Tr Pk := tell I124 (F124 N) O124

theorem T124_ok (N : Nat) : FOK Tryz.prog 124 (T124 N) :=
  (tell_ok (E := (mkE Tryz.prog ownT (tab124 N) [(58, (C124_58 N N)), (250, (C124_250 N N))])) (mkE_ok mix (tab124_ok N)) Tryz.func124 (show Tryz.f124.body = some (bod Tryz.f124) by kernel_rfl) (by decide +kernel) (F := F124 N) I124_ok D124_ok (args := A124) (fun _ => by kernel_rfl) (fun _ => by show 1 ≤ Tryz.f124.ntmps; exact of_decide_eq_true (by kernel_rfl)) (cutsIn_ok ⟨fun c' h => (C124_58_ok N N c' h), ⟨fun c' h => (C124_250_ok N N c' h), trivial⟩⟩) (fun x => match x with | x0 => F124_eq N x0))

/-! ## f155: cmp.isNaN[int] -/

noncomputable def I155 : Pk → Option (Int)
  | ⟨[.v (.int .i64 x0)], []⟩ => some x0
  | _ => none

noncomputable def J155 (x : Int) : Pk := ⟨[.v (.int .i64 (x))], []⟩

theorem I155_ok : ∀ pk x, I155 pk = some x → pk = J155 x := by
  intro pk x h
  unfold I155 at h
  split at h <;> first | (cases h; rfl) | cases h

noncomputable def A155 : List TV := []

noncomputable def tab155 (N : Nat) : List (Nat × (Pk → Tr Pk)) := []

theorem tab155_ok (N : Nat) : TabOK Tryz.prog (tab155 N) := trivial

noncomputable def O155 (r : Bool) : Tr (Pk) := .ret ⟨[.v (.bool (r))], []⟩

noncomputable def D155 : Pk → Option (Bool)
  | ⟨[.v (.bool x0)], []⟩ => some (x0)
  | _ => none

theorem D155_ok : ∀ y r, D155 y = some r → ∀ z, (O155 r).to z → y = z := by
  intro y r h
  unfold D155 at h
  split at h <;> first | (cases h; intro z hz; exact Option.some.inj hz) | cases h

noncomputable def F155 (N : Nat) : (Int) → Option (Bool)
  | x0 =>
  some (x0 != x0)

theorem F155_eq (N : Nat) (x0 : Int) : (fnEv (mkE Tryz.prog ownT (tab155 N) []) Tryz.f155 (J155 x0)).run D155 = F155 N x0 := by kernel_rfl

noncomputable def T155 (N : Nat) : Pk → Tr Pk := tell I155 (F155 N) O155

theorem T155_ok (N : Nat) : FOK Tryz.prog 155 (T155 N) :=
  (tell_ok (E := (mkE Tryz.prog ownT (tab155 N) [])) (mkE_ok mix (tab155_ok N)) Tryz.func155 (show Tryz.f155.body = some (bod Tryz.f155) by kernel_rfl) (by decide +kernel) (F := F155 N) I155_ok D155_ok (args := A155) (fun _ => by kernel_rfl) (fun _ => by show 1 ≤ Tryz.f155.ntmps; exact of_decide_eq_true (by kernel_rfl)) (cutsIn_ok trivial) (fun x => match x with | x0 => F155_eq N x0))

/-! ## f127: cmp.Compare[int] -/

noncomputable def I127 : Pk → Option (Int × Int)
  | ⟨[.v (.int .i64 x0), .v (.int .i64 x1)], []⟩ => some (x0, x1)
  | _ => none

noncomputable def J127 (x : Int × Int) : Pk := ⟨[.v (.int .i64 (x.1)), .v (.int .i64 (x.2))], []⟩

theorem I127_ok : ∀ pk x, I127 pk = some x → pk = J127 x := by
  intro pk x h
  unfold I127 at h
  split at h <;> first | (cases h; rfl) | cases h

noncomputable def A127 : List TV := []

noncomputable def tab127 (N : Nat) : List (Nat × (Pk → Tr Pk)) := [(155, T155 N)]

theorem tab127_ok (N : Nat) : TabOK Tryz.prog (tab127 N) := ⟨T155_ok N, trivial⟩

noncomputable def O127 (r : Int) : Tr (Pk) := .ret ⟨[.v (.int .i64 (r))], []⟩

noncomputable def D127 : Pk → Option (Int)
  | ⟨[.v (.int .i64 x0)], []⟩ => some (x0)
  | _ => none

theorem D127_ok : ∀ y r, D127 y = some r → ∀ z, (O127 r).to z → y = z := by
  intro y r h
  unfold D127 at h
  split at h <;> first | (cases h; intro z hz; exact Option.some.inj hz) | cases h

noncomputable def F127 (N : Nat) : (Int × Int) → Option (Int)
  | (x0, x1) =>
  Option.bind (F155 N x0) fun y0 =>
  Option.bind (F155 N x1) fun y1 =>
  iteP (y0) (
    iteP (y1) (
      some ((0 : Int))) (
      some ((-1 : Int)))) (
    iteP (y1) (
      some ((1 : Int))) (
      iteP (decide (x0 < x1)) (
        some ((-1 : Int))) (
        iteP (decide (x0 > x1)) (
          some ((1 : Int))) (
          some ((0 : Int))))))

theorem F127_eq (N : Nat) (x0 : Int) (x1 : Int) : (fnEv (mkE Tryz.prog ownT (tab127 N) []) Tryz.f127 (J127 (x0, x1))).run D127 = F127 N (x0, x1) := by kernel_rfl

noncomputable def T127 (N : Nat) : Pk → Tr Pk := tell I127 (F127 N) O127

theorem T127_ok (N : Nat) : FOK Tryz.prog 127 (T127 N) :=
  (tell_ok (E := (mkE Tryz.prog ownT (tab127 N) [])) (mkE_ok mix (tab127_ok N)) Tryz.func127 (show Tryz.f127.body = some (bod Tryz.f127) by kernel_rfl) (by decide +kernel) (F := F127 N) I127_ok D127_ok (args := A127) (fun _ => by kernel_rfl) (fun _ => by show 2 ≤ Tryz.f127.ntmps; exact of_decide_eq_true (by kernel_rfl)) (cutsIn_ok trivial) (fun x => match x with | (x0, x1) => F127_eq N x0 x1))

/-! ## f126: mirador/huffman.merged$1 -/

noncomputable def I126 : Pk → Option (Int × (List Int) × Int × (List Int))
  | ⟨[.agg [.v (.int .i64 x0), .ro (.int .i64) x1], .agg [.v (.int .i64 x2), .ro (.int .i64) x3]], []⟩ => some (x0, x1, x2, x3)
  | _ => none

noncomputable def J126 (x : Int × (List Int) × Int × (List Int)) : Pk := ⟨[.agg [.v (.int .i64 (x.1)), .ro (.int .i64) (x.2.1)], .agg [.v (.int .i64 (x.2.2.1)), .ro (.int .i64) (x.2.2.2)]], []⟩

theorem I126_ok : ∀ pk x, I126 pk = some x → pk = J126 x := by
  intro pk x h
  unfold I126 at h
  split at h <;> first | (cases h; rfl) | cases h

noncomputable def A126 : List TV := []

noncomputable def tab126 (N : Nat) : List (Nat × (Pk → Tr Pk)) := [(127, T127 N)]

theorem tab126_ok (N : Nat) : TabOK Tryz.prog (tab126 N) := ⟨T127_ok N, trivial⟩

noncomputable def O126 (r : Int) : Tr (Pk) := .ret ⟨[.v (.int .i64 (r))], []⟩

noncomputable def D126 : Pk → Option (Int)
  | ⟨[.v (.int .i64 x0)], []⟩ => some (x0)
  | _ => none

theorem D126_ok : ∀ y r, D126 y = some r → ∀ z, (O126 r).to z → y = z := by
  intro y r h
  unfold D126 at h
  split at h <;> first | (cases h; intro z hz; exact Option.some.inj hz) | cases h

noncomputable def F126 (N : Nat) : (Int × (List Int) × Int × (List Int)) → Option (Int)
  | (x0, x1, x2, x3) =>
  Option.bind (F127 N (x0, x2)) fun y0 =>
  some (y0)

theorem F126_eq (N : Nat) (x0 : Int) (x1 : (List Int)) (x2 : Int) (x3 : (List Int)) : (fnEv (mkE Tryz.prog ownT (tab126 N) []) Tryz.f126 (J126 (x0, x1, x2, x3))).run D126 = F126 N (x0, x1, x2, x3) := by kernel_rfl

noncomputable def T126 (N : Nat) : Pk → Tr Pk := tell I126 (F126 N) O126

theorem T126_ok (N : Nat) : FOK Tryz.prog 126 (T126 N) :=
  (tell_ok (E := (mkE Tryz.prog ownT (tab126 N) [])) (mkE_ok mix (tab126_ok N)) Tryz.func126 (show Tryz.f126.body = some (bod Tryz.f126) by kernel_rfl) (by decide +kernel) (F := F126 N) I126_ok D126_ok (args := A126) (fun _ => by kernel_rfl) (fun _ => by show 2 ≤ Tryz.f126.ntmps; exact of_decide_eq_true (by kernel_rfl)) (cutsIn_ok trivial) (fun x => match x with | (x0, x1, x2, x3) => F126_eq N x0 x1 x2 x3))

/-! ## f168a: slices.insertionSortCmpFunc[mirador/huffman.bundle] -/

noncomputable def I168a : Pk → Option (Nat × Nat × Int × Int × (List (Int × ((List Int) × Unit))))
  | ⟨[.sl 0 (some (x0, x1)), .v (.int .i64 x2), .v (.int .i64 x3), .v (.func (.func 126) ⟨[]⟩ ⟨[]⟩)], [some (.row (.cons (.int .i64) (.cons (.sl (.int .i64)) .unit)) 137 x4)]⟩ => some (x0, x1, x2, x3, x4)
  | _ => none

noncomputable def J168a (x : Nat × Nat × Int × Int × (List (Int × ((List Int) × Unit)))) : Pk := ⟨[.sl 0 (some ((x.1), (x.2.1))), .v (.int .i64 (x.2.2.1)), .v (.int .i64 (x.2.2.2.1)), .v (.func (.func 126) ⟨[]⟩ ⟨[]⟩)], [some (.row (.cons (.int .i64) (.cons (.sl (.int .i64)) .unit)) 137 (x.2.2.2.2))]⟩

theorem I168a_ok : ∀ pk x, I168a pk = some x → pk = J168a x := by
  intro pk x h
  unfold I168a at h
  split at h <;> first | (cases h; rfl) | cases h

noncomputable def A168a : List TV := [.adr 0 []]

noncomputable def tab168a (N : Nat) : List (Nat × (Pk → Tr Pk)) := [(126, T126 N)]

theorem tab168a_ok (N : Nat) : TabOK Tryz.prog (tab168a N) := ⟨T126_ok N, trivial⟩

def X168a_402 : Ex → List Nat
  | .ret => []
  | .exit 2 => [8, 2, 1, 3, 0]
  | .exit 1 => [8, 2, 1, 3, 0]
  | .exit 0 => []
  | _ => []

def X168a_6 : Ex → List Nat
  | .ret => []
  | .exit 0 => []
  | _ => []

noncomputable def I168a_6 : Pk → Option (Int × Int × Int × Nat × Nat × (List (Int × ((List Int) × Unit))))
  | ⟨[.v (.int .i64 x0), .v (.int .i64 x1), .v ((Value.func (Fn.func (126 : FuncId)) (Array.mk []) (Array.mk []))), .v (.int .i64 x2), .sl 0 (some ((x3, x4)))], [some (.row (Ty.cons (Ty.int IntKind.i64) (Ty.cons (Ty.sl (Ty.int IntKind.i64)) Ty.unit)) 137 x5)]⟩ => some (x0, x1, x2, x3, x4, x5)
  | _ => none

noncomputable def J168a_6 (x : Int × Int × Int × Nat × Nat × (List (Int × ((List Int) × Unit)))) : Pk := ⟨[.v (.int .i64 (x.1)), .v (.int .i64 (x.2.1)), .v ((Value.func (Fn.func (126 : FuncId)) (Array.mk []) (Array.mk []))), .v (.int .i64 (x.2.2.1)), .sl 0 (some (((x.2.2.2.1), (x.2.2.2.2.1))))], [some (.row (Ty.cons (Ty.int IntKind.i64) (Ty.cons (Ty.sl (Ty.int IntKind.i64)) Ty.unit)) 137 (x.2.2.2.2.2))]⟩

theorem I168a_6_ok : ∀ pk x, I168a_6 pk = some x → pk = J168a_6 x := by
  intro pk x h
  unfold I168a_6 at h
  split at h <;> first | (cases h; rfl) | cases h

noncomputable def I168a_402 : Pk → Option (Int × Int × Int × Int × Nat × Nat × (List (Int × ((List Int) × Unit))))
  | ⟨[.v (.int .i64 x0), .v ((Value.func (Fn.func (126 : FuncId)) (Array.mk []) (Array.mk []))), .v (.int .i64 x1), .v (.int .i64 x2), .v (.int .i64 x3), .sl 0 (some ((x4, x5)))], [some (.row (Ty.cons (Ty.int IntKind.i64) (Ty.cons (Ty.sl (Ty.int IntKind.i64)) Ty.unit)) 137 x6)]⟩ => some (x0, x1, x2, x3, x4, x5, x6)
  | _ => none

noncomputable def J168a_402 (x : Int × Int × Int × Int × Nat × Nat × (List (Int × ((List Int) × Unit)))) : Pk := ⟨[.v (.int .i64 (x.1)), .v ((Value.func (Fn.func (126 : FuncId)) (Array.mk []) (Array.mk []))), .v (.int .i64 (x.2.1)), .v (.int .i64 (x.2.2.1)), .v (.int .i64 (x.2.2.2.1)), .sl 0 (some (((x.2.2.2.2.1), (x.2.2.2.2.2.1))))], [some (.row (Ty.cons (Ty.int IntKind.i64) (Ty.cons (Ty.sl (Ty.int IntKind.i64)) Ty.unit)) 137 (x.2.2.2.2.2.2))]⟩

theorem I168a_402_ok : ∀ pk x, I168a_402 pk = some x → pk = J168a_402 x := by
  intro pk x h
  unfold I168a_402 at h
  split at h <;> first | (cases h; rfl) | cases h

noncomputable def O168a_402 (r : Int × Int × Int × Nat × Nat × (List (Int × ((List Int) × Unit)))) : Tr (Ex × Pk) := .ret (.exit 2, ⟨[.v (.int .i64 (r.1)), .v (.int .i64 (r.2.1)), .v (.int .i64 (r.2.2.1)), .v ((Value.func (Fn.func (126 : FuncId)) (Array.mk []) (Array.mk []))), .sl 0 (some (((r.2.2.2.1), (r.2.2.2.2.1))))], [some (.row (Ty.cons (Ty.int IntKind.i64) (Ty.cons (Ty.sl (Ty.int IntKind.i64)) Ty.unit)) 137 (r.2.2.2.2.2))]⟩)

noncomputable def D168a_402 : Ex × Pk → Option (Int × Int × Int × Nat × Nat × (List (Int × ((List Int) × Unit))))
  | (.exit 2, ⟨[.v (.int .i64 x0), .v (.int .i64 x1), .v (.int .i64 x2), .v ((Value.func (Fn.func (126 : FuncId)) (Array.mk []) (Array.mk []))), .sl 0 (some ((x3, x4)))], [some (.row (Ty.cons (Ty.int IntKind.i64) (Ty.cons (Ty.sl (Ty.int IntKind.i64)) Ty.unit)) 137 x5)]⟩) => some ((x0, x1, x2, x3, x4, x5))
  | _ => none

theorem D168a_402_ok : ∀ y r, D168a_402 y = some r → ∀ z, (O168a_402 r).to z → y = z := by
  intro y r h
  unfold D168a_402 at h
  split at h <;> first | (cases h; intro z hz; exact Option.some.inj hz) | cases h

noncomputable def B168a_402 (N : Nat) (f : (Int × Int × Int × Int × Nat × Nat × (List (Int × ((List Int) × Unit)))) → Option (Int × Int × Int × Nat × Nat × (List (Int × ((List Int) × Unit))))) : (Int × Int × Int × Int × Nat × Nat × (List (Int × ((List Int) × Unit)))) → Option (Int × Int × Int × Nat × Nat × (List (Int × ((List Int) × Unit))))
  | (x0, x1, x2, x3, x4, x5, x6) =>
  iteP (decide (x0 > x1)) (
    iteP (within x0 x5) (
      Option.bind (x6[x4 + Int.toNat x0]?) fun y0 =>
      iteP (within (IntKind.wrap IntKind.i64 (x0 - (1 : Int))) x5) (
        Option.bind (x6[x4 + Int.toNat (IntKind.wrap IntKind.i64 (x0 - (1 : Int)))]?) fun y1 =>
        Option.bind (F126 N (Prod.fst y0, Prod.fst (Prod.snd y0), Prod.fst y1, Prod.fst (Prod.snd y1))) fun y2 =>
        iteP (decide (y2 < (0 : Int))) (
          iteP (within (IntKind.wrap IntKind.i64 (x0 - (1 : Int))) x5) (
            Option.bind (x6[x4 + Int.toNat (IntKind.wrap IntKind.i64 (x0 - (1 : Int)))]?) fun y3 =>
            iteP (within x0 x5) (
              Option.bind (x6[x4 + Int.toNat x0]?) fun y4 =>
              iteP (within x0 x5) (
                Option.bind (x6[x4 + Int.toNat x0]?) fun y5 =>
                iteP (within (IntKind.wrap IntKind.i64 (x0 - (1 : Int))) x5) (
                  Option.bind ((List.set x6 (x4 + Int.toNat x0) (Prod.fst y3, Prod.fst (Prod.snd y3), ()))[x4 + Int.toNat (IntKind.wrap IntKind.i64 (x0 - (1 : Int)))]?) fun y6 =>
                  Option.bind (f (IntKind.wrap IntKind.i64 (x0 - (1 : Int)), x1, x2, x3, x4, x5, List.set (List.set x6 (x4 + Int.toNat x0) (Prod.fst y3, Prod.fst (Prod.snd y3), ())) (x4 + Int.toNat (IntKind.wrap IntKind.i64 (x0 - (1 : Int)))) (Prod.fst y4, Prod.fst (Prod.snd y4), ()))) fun r => some r) (
                  none)) (
                none)) (
              none)) (
            none)) (
          some ((x3, x2, x1, x4, x5, x6)))) (
        none)) (
      none)) (
    some ((x3, x2, x1, x4, x5, x6)))

noncomputable def F168a_402 (N : Nat) : Nat → (Int × Int × Int × Int × Nat × Nat × (List (Int × ((List Int) × Unit)))) → Option (Int × Int × Int × Nat × Nat × (List (Int × ((List Int) × Unit))))
  | 0, _ => none
  | k + 1, x => B168a_402 N (F168a_402 N k) x

noncomputable def C168a_402 (N : Nat) (k : Nat) : Cut := ⟨[9, 3, 1, 2, 8, 0], X168a_402, tellX I168a_402 (F168a_402 N k) O168a_402⟩

theorem B168a_402_eq (N : Nat) (f : (Int × Int × Int × Int × Nat × Nat × (List (Int × ((List Int) × Unit)))) → Option (Int × Int × Int × Nat × Nat × (List (Int × ((List Int) × Unit))))) (x0 : Int) (x1 : Int) (x2 : Int) (x3 : Int) (x4 : Nat) (x5 : Nat) (x6 : (List (Int × ((List Int) × Unit)))) : (roundEv (mkE Tryz.prog ownT (tab168a N) []) Tryz.f168.ntmps A168a (loopAt (bod Tryz.f168) 402) 402 ⟨[9, 3, 1, 2, 8, 0], X168a_402, tellX I168a_402 f O168a_402⟩ (J168a_402 (x0, x1, x2, x3, x4, x5, x6))).run D168a_402 = B168a_402 N f (x0, x1, x2, x3, x4, x5, x6) := by kernel_rfl

theorem C168a_402_ok (N : Nat) (k : Nat) : ∀ c', At (bod Tryz.f168) 402 c' → CutOK Tryz.prog Tryz.f168.ntmps (idsL A168a) c' (C168a_402 N k) :=
  loop_ok (E := (mkE Tryz.prog ownT (tab168a N) [])) (mkE_ok mix (tab168a_ok N)) (cutsIn_ok trivial) (fuel := 200) (by decide +kernel) (by kernel_rfl) I168a_402_ok D168a_402_ok (B168a_402 N) (F168a_402 N) (fun _ => rfl) (fun _ _ => rfl) (fun f x => match x with | (x0, x1, x2, x3, x4, x5, x6) => B168a_402_eq N f x0 x1 x2 x3 x4 x5 x6) k

noncomputable def O168a_6 (r : (List (Int × ((List Int) × Unit)))) : Tr (Ex × Pk) := .ret (.exit 0, ⟨[], [some (.row (Ty.cons (Ty.int IntKind.i64) (Ty.cons (Ty.sl (Ty.int IntKind.i64)) Ty.unit)) 137 (r))]⟩)

noncomputable def D168a_6 : Ex × Pk → Option ((List (Int × ((List Int) × Unit))))
  | (.exit 0, ⟨[], [some (.row (Ty.cons (Ty.int IntKind.i64) (Ty.cons (Ty.sl (Ty.int IntKind.i64)) Ty.unit)) 137 x0)]⟩) => some (x0)
  | _ => none

theorem D168a_6_ok : ∀ y r, D168a_6 y = some r → ∀ z, (O168a_6 r).to z → y = z := by
  intro y r h
  unfold D168a_6 at h
  split at h <;> first | (cases h; intro z hz; exact Option.some.inj hz) | cases h

noncomputable def B168a_6 (N : Nat) (f : (Int × Int × Int × Nat × Nat × (List (Int × ((List Int) × Unit)))) → Option ((List (Int × ((List Int) × Unit))))) : (Int × Int × Int × Nat × Nat × (List (Int × ((List Int) × Unit)))) → Option ((List (Int × ((List Int) × Unit))))
  | (x0, x1, x2, x3, x4, x5) =>
  iteP (decide (x2 < x0)) (
    Option.bind (F168a_402 N N (x2, x1, x0, x2, x3, x4, x5)) fun y0 =>
    Option.bind (f (Prod.fst (Prod.snd y0), Prod.fst (Prod.snd (Prod.snd y0)), IntKind.wrap IntKind.i64 (Prod.fst y0 + (1 : Int)), Prod.fst (Prod.snd (Prod.snd (Prod.snd y0))), Prod.fst (Prod.snd (Prod.snd (Prod.snd (Prod.snd y0)))), Prod.snd (Prod.snd (Prod.snd (Prod.snd (Prod.snd y0)))))) fun r => some r) (
    some (x5))

noncomputable def F168a_6 (N : Nat) : Nat → (Int × Int × Int × Nat × Nat × (List (Int × ((List Int) × Unit)))) → Option ((List (Int × ((List Int) × Unit))))
  | 0, _ => none
  | k + 1, x => B168a_6 N (F168a_6 N k) x

noncomputable def C168a_6 (N : Nat) (k : Nat) : Cut := ⟨[2, 1, 3, 8, 0], X168a_6, tellX I168a_6 (F168a_6 N k) O168a_6⟩

theorem B168a_6_eq (N : Nat) (f : (Int × Int × Int × Nat × Nat × (List (Int × ((List Int) × Unit)))) → Option ((List (Int × ((List Int) × Unit))))) (x0 : Int) (x1 : Int) (x2 : Int) (x3 : Nat) (x4 : Nat) (x5 : (List (Int × ((List Int) × Unit)))) : (roundEv (mkE Tryz.prog ownT (tab168a N) [(402, (C168a_402 N N))]) Tryz.f168.ntmps A168a (loopAt (bod Tryz.f168) 6) 6 ⟨[2, 1, 3, 8, 0], X168a_6, tellX I168a_6 f O168a_6⟩ (J168a_6 (x0, x1, x2, x3, x4, x5))).run D168a_6 = B168a_6 N f (x0, x1, x2, x3, x4, x5) := by kernel_rfl

theorem C168a_6_ok (N : Nat) (k : Nat) : ∀ c', At (bod Tryz.f168) 6 c' → CutOK Tryz.prog Tryz.f168.ntmps (idsL A168a) c' (C168a_6 N k) :=
  loop_ok (E := (mkE Tryz.prog ownT (tab168a N) [(402, (C168a_402 N N))])) (mkE_ok mix (tab168a_ok N)) (cutsIn_ok ⟨fun c' h => (C168a_402_ok N N c' h), trivial⟩) (fuel := 200) (by decide +kernel) (by kernel_rfl) I168a_6_ok D168a_6_ok (B168a_6 N) (F168a_6 N) (fun _ => rfl) (fun _ _ => rfl) (fun f x => match x with | (x0, x1, x2, x3, x4, x5) => B168a_6_eq N f x0 x1 x2 x3 x4 x5) k

noncomputable def O168a (r : (List (Int × ((List Int) × Unit)))) : Tr (Pk) := .ret ⟨[.tup []], [some (.row (Ty.cons (Ty.int IntKind.i64) (Ty.cons (Ty.sl (Ty.int IntKind.i64)) Ty.unit)) 137 (r))]⟩

noncomputable def D168a : Pk → Option ((List (Int × ((List Int) × Unit))))
  | ⟨[.tup []], [some (.row (Ty.cons (Ty.int IntKind.i64) (Ty.cons (Ty.sl (Ty.int IntKind.i64)) Ty.unit)) 137 x0)]⟩ => some (x0)
  | _ => none

theorem D168a_ok : ∀ y r, D168a y = some r → ∀ z, (O168a r).to z → y = z := by
  intro y r h
  unfold D168a at h
  split at h <;> first | (cases h; intro z hz; exact Option.some.inj hz) | cases h

noncomputable def F168a (N : Nat) : (Nat × Nat × Int × Int × (List (Int × ((List Int) × Unit)))) → Option ((List (Int × ((List Int) × Unit))))
  | (x0, x1, x2, x3, x4) =>
  Option.bind (F168a_6 N N (x3, x2, IntKind.wrap IntKind.i64 (x2 + (1 : Int)), x0, x1, x4)) fun y0 =>
  some (y0)

theorem F168a_eq (N : Nat) (x0 : Nat) (x1 : Nat) (x2 : Int) (x3 : Int) (x4 : (List (Int × ((List Int) × Unit)))) : (fnEv (mkE Tryz.prog ownT (tab168a N) [(402, (C168a_402 N N)), (6, (C168a_6 N N))]) Tryz.f168 (J168a (x0, x1, x2, x3, x4))).run D168a = F168a N (x0, x1, x2, x3, x4) := by kernel_rfl

noncomputable def V168a (N : Nat) : Pk → Tr Pk := tell I168a (F168a N) O168a

theorem V168a_ok (N : Nat) : FOK Tryz.prog 168 (V168a N) :=
  (tell_ok (E := (mkE Tryz.prog ownT (tab168a N) [(402, (C168a_402 N N)), (6, (C168a_6 N N))])) (mkE_ok mix (tab168a_ok N)) Tryz.func168 (show Tryz.f168.body = some (bod Tryz.f168) by kernel_rfl) (by decide +kernel) (F := F168a N) I168a_ok D168a_ok (args := A168a) (fun _ => by kernel_rfl) (fun _ => by show 4 ≤ Tryz.f168.ntmps; exact of_decide_eq_true (by kernel_rfl)) (cutsIn_ok ⟨fun c' h => (C168a_402_ok N N c' h), ⟨fun c' h => (C168a_6_ok N N c' h), trivial⟩⟩) (fun x => match x with | (x0, x1, x2, x3, x4) => F168a_eq N x0 x1 x2 x3 x4))

noncomputable def T168 (N : Nat) : Pk → Tr Pk := (V168a N)

theorem T168_ok (N : Nat) : FOK Tryz.prog 168 (T168 N) := (V168a_ok N)

/-! ## f174a: slices.swapRangeCmpFunc[mirador/huffman.bundle] -/

noncomputable def I174a : Pk → Option (Nat × Nat × Int × Int × Int × (List (Int × ((List Int) × Unit))))
  | ⟨[.sl 0 (some (x0, x1)), .v (.int .i64 x2), .v (.int .i64 x3), .v (.int .i64 x4), .v (.func (.func 126) ⟨[]⟩ ⟨[]⟩)], [some (.row (.cons (.int .i64) (.cons (.sl (.int .i64)) .unit)) 137 x5)]⟩ => some (x0, x1, x2, x3, x4, x5)
  | _ => none

noncomputable def J174a (x : Nat × Nat × Int × Int × Int × (List (Int × ((List Int) × Unit)))) : Pk := ⟨[.sl 0 (some ((x.1), (x.2.1))), .v (.int .i64 (x.2.2.1)), .v (.int .i64 (x.2.2.2.1)), .v (.int .i64 (x.2.2.2.2.1)), .v (.func (.func 126) ⟨[]⟩ ⟨[]⟩)], [some (.row (.cons (.int .i64) (.cons (.sl (.int .i64)) .unit)) 137 (x.2.2.2.2.2))]⟩

theorem I174a_ok : ∀ pk x, I174a pk = some x → pk = J174a x := by
  intro pk x h
  unfold I174a at h
  split at h <;> first | (cases h; rfl) | cases h

noncomputable def A174a : List TV := [.adr 0 []]

noncomputable def tab174a (N : Nat) : List (Nat × (Pk → Tr Pk)) := [(126, T126 N)]

theorem tab174a_ok (N : Nat) : TabOK Tryz.prog (tab174a N) := ⟨T126_ok N, trivial⟩

def X174a_6 : Ex → List Nat
  | .ret => []
  | .exit 0 => []
  | _ => []

noncomputable def I174a_6 : Pk → Option (Int × Int × Int × Nat × Nat × Int × (List (Int × ((List Int) × Unit))))
  | ⟨[.v (.int .i64 x0), .v (.int .i64 x1), .v (.int .i64 x2), .sl 0 (some ((x3, x4))), .v (.int .i64 x5)], [some (.row (Ty.cons (Ty.int IntKind.i64) (Ty.cons (Ty.sl (Ty.int IntKind.i64)) Ty.unit)) 137 x6)]⟩ => some (x0, x1, x2, x3, x4, x5, x6)
  | _ => none

noncomputable def J174a_6 (x : Int × Int × Int × Nat × Nat × Int × (List (Int × ((List Int) × Unit)))) : Pk := ⟨[.v (.int .i64 (x.1)), .v (.int .i64 (x.2.1)), .v (.int .i64 (x.2.2.1)), .sl 0 (some (((x.2.2.2.1), (x.2.2.2.2.1)))), .v (.int .i64 (x.2.2.2.2.2.1))], [some (.row (Ty.cons (Ty.int IntKind.i64) (Ty.cons (Ty.sl (Ty.int IntKind.i64)) Ty.unit)) 137 (x.2.2.2.2.2.2))]⟩

theorem I174a_6_ok : ∀ pk x, I174a_6 pk = some x → pk = J174a_6 x := by
  intro pk x h
  unfold I174a_6 at h
  split at h <;> first | (cases h; rfl) | cases h

noncomputable def O174a_6 (r : (List (Int × ((List Int) × Unit)))) : Tr (Ex × Pk) := .ret (.exit 0, ⟨[], [some (.row (Ty.cons (Ty.int IntKind.i64) (Ty.cons (Ty.sl (Ty.int IntKind.i64)) Ty.unit)) 137 (r))]⟩)

noncomputable def D174a_6 : Ex × Pk → Option ((List (Int × ((List Int) × Unit))))
  | (.exit 0, ⟨[], [some (.row (Ty.cons (Ty.int IntKind.i64) (Ty.cons (Ty.sl (Ty.int IntKind.i64)) Ty.unit)) 137 x0)]⟩) => some (x0)
  | _ => none

theorem D174a_6_ok : ∀ y r, D174a_6 y = some r → ∀ z, (O174a_6 r).to z → y = z := by
  intro y r h
  unfold D174a_6 at h
  split at h <;> first | (cases h; intro z hz; exact Option.some.inj hz) | cases h

noncomputable def B174a_6 (N : Nat) (f : (Int × Int × Int × Nat × Nat × Int × (List (Int × ((List Int) × Unit)))) → Option ((List (Int × ((List Int) × Unit))))) : (Int × Int × Int × Nat × Nat × Int × (List (Int × ((List Int) × Unit)))) → Option ((List (Int × ((List Int) × Unit))))
  | (x0, x1, x2, x3, x4, x5, x6) =>
  iteP (decide (x0 < x1)) (
    iteP (within (IntKind.wrap IntKind.i64 (x2 + x0)) x4) (
      Option.bind (x6[x3 + Int.toNat (IntKind.wrap IntKind.i64 (x2 + x0))]?) fun y0 =>
      iteP (within (IntKind.wrap IntKind.i64 (x5 + x0)) x4) (
        Option.bind (x6[x3 + Int.toNat (IntKind.wrap IntKind.i64 (x5 + x0))]?) fun y1 =>
        iteP (within (IntKind.wrap IntKind.i64 (x5 + x0)) x4) (
          Option.bind (x6[x3 + Int.toNat (IntKind.wrap IntKind.i64 (x5 + x0))]?) fun y2 =>
          iteP (within (IntKind.wrap IntKind.i64 (x2 + x0)) x4) (
            Option.bind ((List.set x6 (x3 + Int.toNat (IntKind.wrap IntKind.i64 (x5 + x0))) (Prod.fst y0, Prod.fst (Prod.snd y0), ()))[x3 + Int.toNat (IntKind.wrap IntKind.i64 (x2 + x0))]?) fun y3 =>
            Option.bind (f (IntKind.wrap IntKind.i64 (x0 + (1 : Int)), x1, x2, x3, x4, x5, List.set (List.set x6 (x3 + Int.toNat (IntKind.wrap IntKind.i64 (x5 + x0))) (Prod.fst y0, Prod.fst (Prod.snd y0), ())) (x3 + Int.toNat (IntKind.wrap IntKind.i64 (x2 + x0))) (Prod.fst y1, Prod.fst (Prod.snd y1), ()))) fun r => some r) (
            none)) (
          none)) (
        none)) (
      none)) (
    some (x6))

noncomputable def F174a_6 (N : Nat) : Nat → (Int × Int × Int × Nat × Nat × Int × (List (Int × ((List Int) × Unit)))) → Option ((List (Int × ((List Int) × Unit))))
  | 0, _ => none
  | k + 1, x => B174a_6 N (F174a_6 N k) x

noncomputable def C174a_6 (N : Nat) (k : Nat) : Cut := ⟨[10, 3, 2, 0, 1], X174a_6, tellX I174a_6 (F174a_6 N k) O174a_6⟩

theorem B174a_6_eq (N : Nat) (f : (Int × Int × Int × Nat × Nat × Int × (List (Int × ((List Int) × Unit)))) → Option ((List (Int × ((List Int) × Unit))))) (x0 : Int) (x1 : Int) (x2 : Int) (x3 : Nat) (x4 : Nat) (x5 : Int) (x6 : (List (Int × ((List Int) × Unit)))) : (roundEv (mkE Tryz.prog ownT (tab174a N) []) Tryz.f174.ntmps A174a (loopAt (bod Tryz.f174) 6) 6 ⟨[10, 3, 2, 0, 1], X174a_6, tellX I174a_6 f O174a_6⟩ (J174a_6 (x0, x1, x2, x3, x4, x5, x6))).run D174a_6 = B174a_6 N f (x0, x1, x2, x3, x4, x5, x6) := by kernel_rfl

theorem C174a_6_ok (N : Nat) (k : Nat) : ∀ c', At (bod Tryz.f174) 6 c' → CutOK Tryz.prog Tryz.f174.ntmps (idsL A174a) c' (C174a_6 N k) :=
  loop_ok (E := (mkE Tryz.prog ownT (tab174a N) [])) (mkE_ok mix (tab174a_ok N)) (cutsIn_ok trivial) (fuel := 200) (by decide +kernel) (by kernel_rfl) I174a_6_ok D174a_6_ok (B174a_6 N) (F174a_6 N) (fun _ => rfl) (fun _ _ => rfl) (fun f x => match x with | (x0, x1, x2, x3, x4, x5, x6) => B174a_6_eq N f x0 x1 x2 x3 x4 x5 x6) k

noncomputable def O174a (r : (List (Int × ((List Int) × Unit)))) : Tr (Pk) := .ret ⟨[.tup []], [some (.row (Ty.cons (Ty.int IntKind.i64) (Ty.cons (Ty.sl (Ty.int IntKind.i64)) Ty.unit)) 137 (r))]⟩

noncomputable def D174a : Pk → Option ((List (Int × ((List Int) × Unit))))
  | ⟨[.tup []], [some (.row (Ty.cons (Ty.int IntKind.i64) (Ty.cons (Ty.sl (Ty.int IntKind.i64)) Ty.unit)) 137 x0)]⟩ => some (x0)
  | _ => none

theorem D174a_ok : ∀ y r, D174a y = some r → ∀ z, (O174a r).to z → y = z := by
  intro y r h
  unfold D174a at h
  split at h <;> first | (cases h; intro z hz; exact Option.some.inj hz) | cases h

noncomputable def F174a (N : Nat) : (Nat × Nat × Int × Int × Int × (List (Int × ((List Int) × Unit)))) → Option ((List (Int × ((List Int) × Unit))))
  | (x0, x1, x2, x3, x4, x5) =>
  Option.bind (F174a_6 N N ((0 : Int), x4, x3, x0, x1, x2, x5)) fun y0 =>
  some (y0)

theorem F174a_eq (N : Nat) (x0 : Nat) (x1 : Nat) (x2 : Int) (x3 : Int) (x4 : Int) (x5 : (List (Int × ((List Int) × Unit)))) : (fnEv (mkE Tryz.prog ownT (tab174a N) [(6, (C174a_6 N N))]) Tryz.f174 (J174a (x0, x1, x2, x3, x4, x5))).run D174a = F174a N (x0, x1, x2, x3, x4, x5) := by kernel_rfl

noncomputable def V174a (N : Nat) : Pk → Tr Pk := tell I174a (F174a N) O174a

theorem V174a_ok (N : Nat) : FOK Tryz.prog 174 (V174a N) :=
  (tell_ok (E := (mkE Tryz.prog ownT (tab174a N) [(6, (C174a_6 N N))])) (mkE_ok mix (tab174a_ok N)) Tryz.func174 (show Tryz.f174.body = some (bod Tryz.f174) by kernel_rfl) (by decide +kernel) (F := F174a N) I174a_ok D174a_ok (args := A174a) (fun _ => by kernel_rfl) (fun _ => by show 5 ≤ Tryz.f174.ntmps; exact of_decide_eq_true (by kernel_rfl)) (cutsIn_ok ⟨fun c' h => (C174a_6_ok N N c' h), trivial⟩) (fun x => match x with | (x0, x1, x2, x3, x4, x5) => F174a_eq N x0 x1 x2 x3 x4 x5))

noncomputable def T174 (N : Nat) : Pk → Tr Pk := (V174a N)

theorem T174_ok (N : Nat) : FOK Tryz.prog 174 (T174 N) := (V174a_ok N)


end Go.Proofs.YteddgkplkjldcaaGreat.Am

set_option linter.unusedVariables false
set_option maxRecDepth 100000
namespace Go.Proofs.YteddgkplkjldcaaGreat.Am
open Go.Am

/-! ## f173a: slices.rotateCmpFunc[mirador/huffman.bundle] -/

noncomputable def I173a : Pk → Option (Nat × Nat × Int × Int × Int × (List (Int × ((List Int) × Unit))))
  | ⟨[.sl 0 (some (x0, x1)), .v (.int .i64 x2), .v (.int .i64 x3), .v (.int .i64 x4), .v (.func (.func 126) ⟨[]⟩ ⟨[]⟩)], [some (.row (.cons (.int .i64) (.cons (.sl (.int .i64)) .unit)) 137 x5)]⟩ => some (x0, x1, x2, x3, x4, x5)
  | _ => none

noncomputable def J173a (x : Nat × Nat × Int × Int × Int × (List (Int × ((List Int) × Unit)))) : Pk := ⟨[.sl 0 (some ((x.1), (x.2.1))), .v (.int .i64 (x.2.2.1)), .v (.int .i64 (x.2.2.2.1)), .v (.int .i64 (x.2.2.2.2.1)), .v (.func (.func 126) ⟨[]⟩ ⟨[]⟩)], [some (.row (.cons (.int .i64) (.cons (.sl (.int .i64)) .unit)) 137 (x.2.2.2.2.2))]⟩

theorem I173a_ok : ∀ pk x, I173a pk = some x → pk = J173a x := by
  intro pk x h
  unfold I173a at h
  split at h <;> first | (cases h; rfl) | cases h

noncomputable def A173a : List TV := [.adr 0 []]

noncomputable def tab173a (N : Nat) : List (Nat × (Pk → Tr Pk)) := [(174, T174 N), (126, T126 N)]

theorem tab173a_ok (N : Nat) : TabOK Tryz.prog (tab173a N) := ⟨T174_ok N, ⟨T126_ok N, trivial⟩⟩

def X173a_28 : Ex → List Nat
  | .ret => []
  | .exit 0 => [0, 2, 10, 4]
  | _ => []

noncomputable def I173a_28 : Pk → Option (Int × Nat × Nat × Int × Int × (List (Int × ((List Int) × Unit))))
  | ⟨[.v (.int .i64 x0), .sl 0 (some ((x1, x2))), .v (.int .i64 x3), .v ((Value.func (Fn.func (126 : FuncId)) (Array.mk []) (Array.mk []))), .v (.int .i64 x4)], [some (.row (Ty.cons (Ty.int IntKind.i64) (Ty.cons (Ty.sl (Ty.int IntKind.i64)) Ty.unit)) 137 x5)]⟩ => some (x0, x1, x2, x3, x4, x5)
  | _ => none

noncomputable def J173a_28 (x : Int × Nat × Nat × Int × Int × (List (Int × ((List Int) × Unit)))) : Pk := ⟨[.v (.int .i64 (x.1)), .sl 0 (some (((x.2.1), (x.2.2.1)))), .v (.int .i64 (x.2.2.2.1)), .v ((Value.func (Fn.func (126 : FuncId)) (Array.mk []) (Array.mk []))), .v (.int .i64 (x.2.2.2.2.1))], [some (.row (Ty.cons (Ty.int IntKind.i64) (Ty.cons (Ty.sl (Ty.int IntKind.i64)) Ty.unit)) 137 (x.2.2.2.2.2))]⟩

theorem I173a_28_ok : ∀ pk x, I173a_28 pk = some x → pk = J173a_28 x := by
  intro pk x h
  unfold I173a_28 at h
  split at h <;> first | (cases h; rfl) | cases h

noncomputable def O173a_28 (r : Nat × Nat × Int × Int × (List (Int × ((List Int) × Unit)))) : Tr (Ex × Pk) := .ret (.exit 0, ⟨[.sl 0 (some (((r.1), (r.2.1)))), .v (.int .i64 (r.2.2.1)), .v (.int .i64 (r.2.2.2.1)), .v ((Value.func (Fn.func (126 : FuncId)) (Array.mk []) (Array.mk [])))], [some (.row (Ty.cons (Ty.int IntKind.i64) (Ty.cons (Ty.sl (Ty.int IntKind.i64)) Ty.unit)) 137 (r.2.2.2.2))]⟩)

noncomputable def D173a_28 : Ex × Pk → Option (Nat × Nat × Int × Int × (List (Int × ((List Int) × Unit))))
  | (.exit 0, ⟨[.sl 0 (some ((x0, x1))), .v (.int .i64 x2), .v (.int .i64 x3), .v ((Value.func (Fn.func (126 : FuncId)) (Array.mk []) (Array.mk [])))], [some (.row (Ty.cons (Ty.int IntKind.i64) (Ty.cons (Ty.sl (Ty.int IntKind.i64)) Ty.unit)) 137 x4)]⟩) => some ((x0, x1, x2, x3, x4))
  | _ => none

theorem D173a_28_ok : ∀ y r, D173a_28 y = some r → ∀ z, (O173a_28 r).to z → y = z := by
  intro y r h
  unfold D173a_28 at h
  split at h <;> first | (cases h; intro z hz; exact Option.some.inj hz) | cases h

noncomputable def B173a_28 (N : Nat) (f : (Int × Nat × Nat × Int × Int × (List (Int × ((List Int) × Unit)))) → Option (Nat × Nat × Int × Int × (List (Int × ((List Int) × Unit))))) : (Int × Nat × Nat × Int × Int × (List (Int × ((List Int) × Unit)))) → Option (Nat × Nat × Int × Int × (List (Int × ((List Int) × Unit))))
  | (x0, x1, x2, x3, x4, x5) =>
  iteP (x0 != x4) (
    iteP (decide (x0 > x4)) (
      Option.bind (F174a N (x1, x2, IntKind.wrap IntKind.i64 (x3 - x0), x3, x4, x5)) fun y0 =>
      Option.bind (f (IntKind.wrap IntKind.i64 (x0 - x4), x1, x2, x3, x4, y0)) fun r => some r) (
      Option.bind (F174a N (x1, x2, IntKind.wrap IntKind.i64 (x3 - x0), IntKind.wrap IntKind.i64 (IntKind.wrap IntKind.i64 (x3 + x4) - x0), x0, x5)) fun y1 =>
      Option.bind (f (x0, x1, x2, x3, IntKind.wrap IntKind.i64 (x4 - x0), y1)) fun r => some r)) (
    some ((x1, x2, x3, x0, x5)))

noncomputable def F173a_28 (N : Nat) : Nat → (Int × Nat × Nat × Int × Int × (List (Int × ((List Int) × Unit)))) → Option (Nat × Nat × Int × Int × (List (Int × ((List Int) × Unit))))
  | 0, _ => none
  | k + 1, x => B173a_28 N (F173a_28 N k) x

noncomputable def C173a_28 (N : Nat) (k : Nat) : Cut := ⟨[10, 0, 2, 4, 11], X173a_28, tellX I173a_28 (F173a_28 N k) O173a_28⟩

theorem B173a_28_eq (N : Nat) (f : (Int × Nat × Nat × Int × Int × (List (Int × ((List Int) × Unit)))) → Option (Nat × Nat × Int × Int × (List (Int × ((List Int) × Unit))))) (x0 : Int) (x1 : Nat) (x2 : Nat) (x3 : Int) (x4 : Int) (x5 : (List (Int × ((List Int) × Unit)))) : (roundEv (mkE Tryz.prog ownT (tab173a N) []) Tryz.f173.ntmps A173a (loopAt (bod Tryz.f173) 28) 28 ⟨[10, 0, 2, 4, 11], X173a_28, tellX I173a_28 f O173a_28⟩ (J173a_28 (x0, x1, x2, x3, x4, x5))).run D173a_28 = B173a_28 N f (x0, x1, x2, x3, x4, x5) := by kernel_rfl

theorem C173a_28_ok (N : Nat) (k : Nat) : ∀ c', At (bod Tryz.f173) 28 c' → CutOK Tryz.prog Tryz.f173.ntmps (idsL A173a) c' (C173a_28 N k) :=
  loop_ok (E := (mkE Tryz.prog ownT (tab173a N) [])) (mkE_ok mix (tab173a_ok N)) (cutsIn_ok trivial) (fuel := 200) (by decide +kernel) (by kernel_rfl) I173a_28_ok D173a_28_ok (B173a_28 N) (F173a_28 N) (fun _ => rfl) (fun _ _ => rfl) (fun f x => match x with | (x0, x1, x2, x3, x4, x5) => B173a_28_eq N f x0 x1 x2 x3 x4 x5) k

noncomputable def O173a (r : (List (Int × ((List Int) × Unit)))) : Tr (Pk) := .ret ⟨[.tup []], [some (.row (Ty.cons (Ty.int IntKind.i64) (Ty.cons (Ty.sl (Ty.int IntKind.i64)) Ty.unit)) 137 (r))]⟩

noncomputable def D173a : Pk → Option ((List (Int × ((List Int) × Unit))))
  | ⟨[.tup []], [some (.row (Ty.cons (Ty.int IntKind.i64) (Ty.cons (Ty.sl (Ty.int IntKind.i64)) Ty.unit)) 137 x0)]⟩ => some (x0)
  | _ => none

theorem D173a_ok : ∀ y r, D173a y = some r → ∀ z, (O173a r).to z → y = z := by
  intro y r h
  unfold D173a at h
  split at h <;> first | (cases h; intro z hz; exact Option.some.inj hz) | cases h

noncomputable def F173a (N : Nat) : (Nat × Nat × Int × Int × Int × (List (Int × ((List Int) × Unit)))) → Option ((List (Int × ((List Int) × Unit))))
  | (x0, x1, x2, x3, x4, x5) =>
  Option.bind (F173a_28 N N (IntKind.wrap IntKind.i64 (x3 - x2), x0, x1, x3, IntKind.wrap IntKind.i64 (x4 - x3), x5)) fun y0 =>
  Option.bind (F174a N (Prod.fst y0, Prod.fst (Prod.snd y0), IntKind.wrap IntKind.i64 (Prod.fst (Prod.snd (Prod.snd y0)) - Prod.fst (Prod.snd (Prod.snd (Prod.snd y0)))), Prod.fst (Prod.snd (Prod.snd y0)), Prod.fst (Prod.snd (Prod.snd (Prod.snd y0))), Prod.snd (Prod.snd (Prod.snd (Prod.snd y0))))) fun y1 =>
  some (y1)

theorem F173a_eq (N : Nat) (x0 : Nat) (x1 : Nat) (x2 : Int) (x3 : Int) (x4 : Int) (x5 : (List (Int × ((List Int) × Unit)))) : (fnEv (mkE Tryz.prog ownT (tab173a N) [(28, (C173a_28 N N))]) Tryz.f173 (J173a (x0, x1, x2, x3, x4, x5))).run D173a = F173a N (x0, x1, x2, x3, x4, x5) := by kernel_rfl

noncomputable def V173a (N : Nat) : Pk → Tr Pk := tell I173a (F173a N) O173a

theorem V173a_ok (N : Nat) : FOK Tryz.prog 173 (V173a N) :=
  (tell_ok (E := (mkE Tryz.prog ownT (tab173a N) [(28, (C173a_28 N N))])) (mkE_ok mix (tab173a_ok N)) Tryz.func173 (show Tryz.f173.body = some (bod Tryz.f173) by kernel_rfl) (by decide +kernel) (F := F173a N) I173a_ok D173a_ok (args := A173a) (fun _ => by kernel_rfl) (fun _ => by show 5 ≤ Tryz.f173.ntmps; exact of_decide_eq_true (by kernel_rfl)) (cutsIn_ok ⟨fun c' h => (C173a_28_ok N N c' h), trivial⟩) (fun x => match x with | (x0, x1, x2, x3, x4, x5) => F173a_eq N x0 x1 x2 x3 x4 x5))

noncomputable def T173 (N : Nat) : Pk → Tr Pk := (V173a N)

theorem T173_ok (N : Nat) : FOK Tryz.prog 173 (T173 N) := (V173a_ok N)


end Go.Proofs.YteddgkplkjldcaaGreat.Am

set_option linter.unusedVariables false
set_option maxRecDepth 100000
namespace Go.Proofs.YteddgkplkjldcaaGreat.Am
open Go.Am

/-! ## f169a: slices.symMergeCmpFunc[mirador/huffman.bundle] -/

noncomputable def I169a : Pk → Option (Nat × Nat × Int × Int × Int × (List (Int × ((List Int) × Unit))))
  | ⟨[.sl 0 (some (x0, x1)), .v (.int .i64 x2), .v (.int .i64 x3), .v (.int .i64 x4), .v (.func (.func 126) ⟨[]⟩ ⟨[]⟩)], [some (.row (.cons (.int .i64) (.cons (.sl (.int .i64)) .unit)) 137 x5)]⟩ => some (x0, x1, x2, x3, x4, x5)
  | _ => none

noncomputable def J169a (x : Nat × Nat × Int × Int × Int × (List (Int × ((List Int) × Unit)))) : Pk := ⟨[.sl 0 (some ((x.1), (x.2.1))), .v (.int .i64 (x.2.2.1)), .v (.int .i64 (x.2.2.2.1)), .v (.int .i64 (x.2.2.2.2.1)), .v (.func (.func 126) ⟨[]⟩ ⟨[]⟩)], [some (.row (.cons (.int .i64) (.cons (.sl (.int .i64)) .unit)) 137 (x.2.2.2.2.2))]⟩

theorem I169a_ok : ∀ pk x, I169a pk = some x → pk = J169a x := by
  intro pk x h
  unfold I169a at h
  split at h <;> first | (cases h; rfl) | cases h

noncomputable def A169a : List TV := [.adr 0 []]

noncomputable def O169a (r : (List (Int × ((List Int) × Unit)))) : Tr (Pk) := .ret ⟨[.tup []], [some (.row (Ty.cons (Ty.int IntKind.i64) (Ty.cons (Ty.sl (Ty.int IntKind.i64)) (Ty.unit))) 137 (r))]⟩

noncomputable def D169a : Pk → Option ((List (Int × ((List Int) × Unit))))
  | ⟨[.tup []], [some (.row (Ty.cons (Ty.int IntKind.i64) (Ty.cons (Ty.sl (Ty.int IntKind.i64)) (Ty.unit))) 137 x0)]⟩ => some (x0)
  | _ => none

noncomputable def tab169a (N : Nat) (G : (Nat × Nat × Int × Int × Int × (List (Int × ((List Int) × Unit)))) → Option ((List (Int × ((List Int) × Unit))))) : List (Nat × (Pk → Tr Pk)) := [(169, tell I169a G O169a), (173, T173 N), (126, T126 N)]

theorem tab169a_ok (N : Nat) (G : (Nat × Nat × Int × Int × Int × (List (Int × ((List Int) × Unit)))) → Option ((List (Int × ((List Int) × Unit))))) (hG : FOK Tryz.prog 169 (tell I169a G O169a)) : TabOK Tryz.prog (tab169a N G) := ⟨hG, ⟨T173_ok N, ⟨T126_ok N, trivial⟩⟩⟩

def X169a_172 : Ex → List Nat
  | .ret => []
  | .exit 0 => [1, 10, 0]
  | _ => []

def X169a_698 : Ex → List Nat
  | .ret => []
  | .exit 2 => []
  | _ => []

def X169a_428 : Ex → List Nat
  | .ret => []
  | .exit 4 => [2, 14, 0]
  | _ => []

def X169a_1722 : Ex → List Nat
  | .ret => []
  | .exit 6 => []
  | _ => []

def X169a_1020 : Ex → List Nat
  | .ret => []
  | .exit 8 => [19, 2, 1, 20, 0, 18, 3, 4]
  | _ => []

noncomputable def I169a_172 : Pk → Option (Int × Int × Nat × Nat × Int × (List (Int × ((List Int) × Unit))))
  | ⟨[.v (.int .i64 x0), .v (.int .i64 x1), .v ((Value.func (Fn.func (126 : FuncId)) (Array.mk []) (Array.mk []))), .sl 0 (some ((x2, x3))), .v (.int .i64 x4)], [some (.row (Ty.cons (Ty.int IntKind.i64) (Ty.cons (Ty.sl (Ty.int IntKind.i64)) Ty.unit)) 137 x5)]⟩ => some (x0, x1, x2, x3, x4, x5)
  | _ => none

noncomputable def J169a_172 (x : Int × Int × Nat × Nat × Int × (List (Int × ((List Int) × Unit)))) : Pk := ⟨[.v (.int .i64 (x.1)), .v (.int .i64 (x.2.1)), .v ((Value.func (Fn.func (126 : FuncId)) (Array.mk []) (Array.mk []))), .sl 0 (some (((x.2.2.1), (x.2.2.2.1)))), .v (.int .i64 (x.2.2.2.2.1))], [some (.row (Ty.cons (Ty.int IntKind.i64) (Ty.cons (Ty.sl (Ty.int IntKind.i64)) Ty.unit)) 137 (x.2.2.2.2.2))]⟩

theorem I169a_172_ok : ∀ pk x, I169a_172 pk = some x → pk = J169a_172 x := by
  intro pk x h
  unfold I169a_172 at h
  split at h <;> first | (cases h; rfl) | cases h

noncomputable def O169a_172 (r : Int × Int × Nat × Nat × (List (Int × ((List Int) × Unit)))) : Tr (Ex × Pk) := .ret (.exit 0, ⟨[.v (.int .i64 (r.1)), .v (.int .i64 (r.2.1)), .sl 0 (some (((r.2.2.1), (r.2.2.2.1))))], [some (.row (Ty.cons (Ty.int IntKind.i64) (Ty.cons (Ty.sl (Ty.int IntKind.i64)) Ty.unit)) 137 (r.2.2.2.2))]⟩)

noncomputable def D169a_172 : Ex × Pk → Option (Int × Int × Nat × Nat × (List (Int × ((List Int) × Unit))))
  | (.exit 0, ⟨[.v (.int .i64 x0), .v (.int .i64 x1), .sl 0 (some ((x2, x3)))], [some (.row (Ty.cons (Ty.int IntKind.i64) (Ty.cons (Ty.sl (Ty.int IntKind.i64)) Ty.unit)) 137 x4)]⟩) => some ((x0, x1, x2, x3, x4))
  | _ => none

theorem D169a_172_ok : ∀ y r, D169a_172 y = some r → ∀ z, (O169a_172 r).to z → y = z := by
  intro y r h
  unfold D169a_172 at h
  split at h <;> first | (cases h; intro z hz; exact Option.some.inj hz) | cases h

noncomputable def B169a_172 (N : Nat) (G : (Nat × Nat × Int × Int × Int × (List (Int × ((List Int) × Unit)))) → Option ((List (Int × ((List Int) × Unit))))) (f : (Int × Int × Nat × Nat × Int × (List (Int × ((List Int) × Unit)))) → Option (Int × Int × Nat × Nat × (List (Int × ((List Int) × Unit))))) : (Int × Int × Nat × Nat × Int × (List (Int × ((List Int) × Unit)))) → Option (Int × Int × Nat × Nat × (List (Int × ((List Int) × Unit))))
  | (x0, x1, x2, x3, x4, x5) =>
  iteP (decide (x0 < x1)) (
    iteP (within (IntKind.wrap IntKind.i64 (Int.fdiv (IntKind.wrap IntKind.u64 (IntKind.wrap IntKind.i64 (x0 + x1))) (2 : Int))) x3) (
      Option.bind (x5[x2 + Int.toNat (IntKind.wrap IntKind.i64 (Int.fdiv (IntKind.wrap IntKind.u64 (IntKind.wrap IntKind.i64 (x0 + x1))) (2 : Int)))]?) fun y0 =>
      iteP (within x4 x3) (
        Option.bind (x5[x2 + Int.toNat x4]?) fun y1 =>
        Option.bind (F126 N (Prod.fst y0, Prod.fst (Prod.snd y0), Prod.fst y1, Prod.fst (Prod.snd y1))) fun y2 =>
        iteP (decide (y2 < (0 : Int))) (
          Option.bind (f (IntKind.wrap IntKind.i64 (IntKind.wrap IntKind.i64 (Int.fdiv (IntKind.wrap IntKind.u64 (IntKind.wrap IntKind.i64 (x0 + x1))) (2 : Int)) + (1 : Int)), x1, x2, x3, x4, x5)) fun r => some r) (
          Option.bind (f (x0, IntKind.wrap IntKind.i64 (Int.fdiv (IntKind.wrap IntKind.u64 (IntKind.wrap IntKind.i64 (x0 + x1))) (2 : Int)), x2, x3, x4, x5)) fun r => some r)) (
        none)) (
      none)) (
    some ((x4, x0, x2, x3, x5)))

noncomputable def F169a_172 (N : Nat) (G : (Nat × Nat × Int × Int × Int × (List (Int × ((List Int) × Unit)))) → Option ((List (Int × ((List Int) × Unit))))) : Nat → (Int × Int × Nat × Nat × Int × (List (Int × ((List Int) × Unit)))) → Option (Int × Int × Nat × Nat × (List (Int × ((List Int) × Unit))))
  | 0, _ => none
  | k + 1, x => B169a_172 N G (F169a_172 N G k) x

noncomputable def C169a_172 (N : Nat) (G : (Nat × Nat × Int × Int × Int × (List (Int × ((List Int) × Unit)))) → Option ((List (Int × ((List Int) × Unit))))) (k : Nat) : Cut := ⟨[10, 11, 4, 0, 1], X169a_172, tellX I169a_172 (F169a_172 N G k) O169a_172⟩

theorem B169a_172_eq (N : Nat) (G : (Nat × Nat × Int × Int × Int × (List (Int × ((List Int) × Unit)))) → Option ((List (Int × ((List Int) × Unit))))) (f : (Int × Int × Nat × Nat × Int × (List (Int × ((List Int) × Unit)))) → Option (Int × Int × Nat × Nat × (List (Int × ((List Int) × Unit))))) (x0 : Int) (x1 : Int) (x2 : Nat) (x3 : Nat) (x4 : Int) (x5 : (List (Int × ((List Int) × Unit)))) : (roundEv (mkE Tryz.prog ownT (tab169a N G) []) Tryz.f169.ntmps A169a (loopAt (bod Tryz.f169) 172) 172 ⟨[10, 11, 4, 0, 1], X169a_172, tellX I169a_172 f O169a_172⟩ (J169a_172 (x0, x1, x2, x3, x4, x5))).run D169a_172 = B169a_172 N G f (x0, x1, x2, x3, x4, x5) := by kernel_rfl

theorem C169a_172_ok (N : Nat) (G : (Nat × Nat × Int × Int × Int × (List (Int × ((List Int) × Unit)))) → Option ((List (Int × ((List Int) × Unit))))) (hG : FOK Tryz.prog 169 (tell I169a G O169a)) (k : Nat) : ∀ c', At (bod Tryz.f169) 172 c' → CutOK Tryz.prog Tryz.f169.ntmps (idsL A169a) c' (C169a_172 N G k) :=
  loop_ok (E := (mkE Tryz.prog ownT (tab169a N G) [])) (mkE_ok mix (tab169a_ok N G hG)) (cutsIn_ok trivial) (fuel := 200) (by decide +kernel) (by kernel_rfl) I169a_172_ok D169a_172_ok (B169a_172 N G) (F169a_172 N G) (fun _ => rfl) (fun _ _ => rfl) (fun f x => match x with | (x0, x1, x2, x3, x4, x5) => B169a_172_eq N G f x0 x1 x2 x3 x4 x5) k

noncomputable def I169a_698 : Pk → Option (Int × Int × Nat × Nat × (List (Int × ((List Int) × Unit))))
  | ⟨[.v (.int .i64 x0), .v (.int .i64 x1), .sl 0 (some ((x2, x3)))], [some (.row (Ty.cons (Ty.int IntKind.i64) (Ty.cons (Ty.sl (Ty.int IntKind.i64)) Ty.unit)) 137 x4)]⟩ => some (x0, x1, x2, x3, x4)
  | _ => none

noncomputable def J169a_698 (x : Int × Int × Nat × Nat × (List (Int × ((List Int) × Unit)))) : Pk := ⟨[.v (.int .i64 (x.1)), .v (.int .i64 (x.2.1)), .sl 0 (some (((x.2.2.1), (x.2.2.2.1))))], [some (.row (Ty.cons (Ty.int IntKind.i64) (Ty.cons (Ty.sl (Ty.int IntKind.i64)) Ty.unit)) 137 (x.2.2.2.2))]⟩

theorem I169a_698_ok : ∀ pk x, I169a_698 pk = some x → pk = J169a_698 x := by
  intro pk x h
  unfold I169a_698 at h
  split at h <;> first | (cases h; rfl) | cases h

noncomputable def O169a_698 (r : (List (Int × ((List Int) × Unit)))) : Tr (Ex × Pk) := .ret (.exit 2, ⟨[], [some (.row (Ty.cons (Ty.int IntKind.i64) (Ty.cons (Ty.sl (Ty.int IntKind.i64)) Ty.unit)) 137 (r))]⟩)

noncomputable def D169a_698 : Ex × Pk → Option ((List (Int × ((List Int) × Unit))))
  | (.exit 2, ⟨[], [some (.row (Ty.cons (Ty.int IntKind.i64) (Ty.cons (Ty.sl (Ty.int IntKind.i64)) Ty.unit)) 137 x0)]⟩) => some (x0)
  | _ => none

theorem D169a_698_ok : ∀ y r, D169a_698 y = some r → ∀ z, (O169a_698 r).to z → y = z := by
  intro y r h
  unfold D169a_698 at h
  split at h <;> first | (cases h; intro z hz; exact Option.some.inj hz) | cases h

noncomputable def B169a_698 (N : Nat) (G : (Nat × Nat × Int × Int × Int × (List (Int × ((List Int) × Unit)))) → Option ((List (Int × ((List Int) × Unit))))) (f : (Int × Int × Nat × Nat × (List (Int × ((List Int) × Unit)))) → Option ((List (Int × ((List Int) × Unit))))) : (Int × Int × Nat × Nat × (List (Int × ((List Int) × Unit)))) → Option ((List (Int × ((List Int) × Unit))))
  | (x0, x1, x2, x3, x4) =>
  iteP (decide (x0 < IntKind.wrap IntKind.i64 (x1 - (1 : Int)))) (
    iteP (within (IntKind.wrap IntKind.i64 (x0 + (1 : Int))) x3) (
      Option.bind (x4[x2 + Int.toNat (IntKind.wrap IntKind.i64 (x0 + (1 : Int)))]?) fun y0 =>
      iteP (within x0 x3) (
        Option.bind (x4[x2 + Int.toNat x0]?) fun y1 =>
        iteP (within x0 x3) (
          Option.bind (x4[x2 + Int.toNat x0]?) fun y2 =>
          iteP (within (IntKind.wrap IntKind.i64 (x0 + (1 : Int))) x3) (
            Option.bind ((List.set x4 (x2 + Int.toNat x0) (Prod.fst y0, Prod.fst (Prod.snd y0), ()))[x2 + Int.toNat (IntKind.wrap IntKind.i64 (x0 + (1 : Int)))]?) fun y3 =>
            Option.bind (f (IntKind.wrap IntKind.i64 (x0 + (1 : Int)), x1, x2, x3, List.set (List.set x4 (x2 + Int.toNat x0) (Prod.fst y0, Prod.fst (Prod.snd y0), ())) (x2 + Int.toNat (IntKind.wrap IntKind.i64 (x0 + (1 : Int)))) (Prod.fst y1, Prod.fst (Prod.snd y1), ()))) fun r => some r) (
            none)) (
          none)) (
        none)) (
      none)) (
    some (x4))

noncomputable def F169a_698 (N : Nat) (G : (Nat × Nat × Int × Int × Int × (List (Int × ((List Int) × Unit)))) → Option ((List (Int × ((List Int) × Unit))))) : Nat → (Int × Int × Nat × Nat × (List (Int × ((List Int) × Unit)))) → Option ((List (Int × ((List Int) × Unit))))
  | 0, _ => none
  | k + 1, x => B169a_698 N G (F169a_698 N G k) x

noncomputable def C169a_698 (N : Nat) (G : (Nat × Nat × Int × Int × Int × (List (Int × ((List Int) × Unit)))) → Option ((List (Int × ((List Int) × Unit))))) (k : Nat) : Cut := ⟨[13, 10, 0], X169a_698, tellX I169a_698 (F169a_698 N G k) O169a_698⟩

theorem B169a_698_eq (N : Nat) (G : (Nat × Nat × Int × Int × Int × (List (Int × ((List Int) × Unit)))) → Option ((List (Int × ((List Int) × Unit))))) (f : (Int × Int × Nat × Nat × (List (Int × ((List Int) × Unit)))) → Option ((List (Int × ((List Int) × Unit))))) (x0 : Int) (x1 : Int) (x2 : Nat) (x3 : Nat) (x4 : (List (Int × ((List Int) × Unit)))) : (roundEv (mkE Tryz.prog ownT (tab169a N G) [(172, (C169a_172 N G N))]) Tryz.f169.ntmps A169a (loopAt (bod Tryz.f169) 698) 698 ⟨[13, 10, 0], X169a_698, tellX I169a_698 f O169a_698⟩ (J169a_698 (x0, x1, x2, x3, x4))).run D169a_698 = B169a_698 N G f (x0, x1, x2, x3, x4) := by kernel_rfl

theorem C169a_698_ok (N : Nat) (G : (Nat × Nat × Int × Int × Int × (List (Int × ((List Int) × Unit)))) → Option ((List (Int × ((List Int) × Unit))))) (hG : FOK Tryz.prog 169 (tell I169a G O169a)) (k : Nat) : ∀ c', At (bod Tryz.f169) 698 c' → CutOK Tryz.prog Tryz.f169.ntmps (idsL A169a) c' (C169a_698 N G k) :=
  loop_ok (E := (mkE Tryz.prog ownT (tab169a N G) [(172, (C169a_172 N G N))])) (mkE_ok mix (tab169a_ok N G hG)) (cutsIn_ok ⟨fun c' h => (C169a_172_ok N G hG N c' h), trivial⟩) (fuel := 200) (by decide +kernel) (by kernel_rfl) I169a_698_ok D169a_698_ok (B169a_698 N G) (F169a_698 N G) (fun _ => rfl) (fun _ _ => rfl) (fun f x => match x with | (x0, x1, x2, x3, x4) => B169a_698_eq N G f x0 x1 x2 x3 x4) k

noncomputable def I169a_428 : Pk → Option (Int × Int × Int × Nat × Nat × (List (Int × ((List Int) × Unit))))
  | ⟨[.v (.int .i64 x0), .v (.int .i64 x1), .v ((Value.func (Fn.func (126 : FuncId)) (Array.mk []) (Array.mk []))), .v (.int .i64 x2), .sl 0 (some ((x3, x4)))], [some (.row (Ty.cons (Ty.int IntKind.i64) (Ty.cons (Ty.sl (Ty.int IntKind.i64)) Ty.unit)) 137 x5)]⟩ => some (x0, x1, x2, x3, x4, x5)
  | _ => none

noncomputable def J169a_428 (x : Int × Int × Int × Nat × Nat × (List (Int × ((List Int) × Unit)))) : Pk := ⟨[.v (.int .i64 (x.1)), .v (.int .i64 (x.2.1)), .v ((Value.func (Fn.func (126 : FuncId)) (Array.mk []) (Array.mk []))), .v (.int .i64 (x.2.2.1)), .sl 0 (some (((x.2.2.2.1), (x.2.2.2.2.1))))], [some (.row (Ty.cons (Ty.int IntKind.i64) (Ty.cons (Ty.sl (Ty.int IntKind.i64)) Ty.unit)) 137 (x.2.2.2.2.2))]⟩

theorem I169a_428_ok : ∀ pk x, I169a_428 pk = some x → pk = J169a_428 x := by
  intro pk x h
  unfold I169a_428 at h
  split at h <;> first | (cases h; rfl) | cases h

noncomputable def O169a_428 (r : Int × Int × Nat × Nat × (List (Int × ((List Int) × Unit)))) : Tr (Ex × Pk) := .ret (.exit 4, ⟨[.v (.int .i64 (r.1)), .v (.int .i64 (r.2.1)), .sl 0 (some (((r.2.2.1), (r.2.2.2.1))))], [some (.row (Ty.cons (Ty.int IntKind.i64) (Ty.cons (Ty.sl (Ty.int IntKind.i64)) Ty.unit)) 137 (r.2.2.2.2))]⟩)

noncomputable def D169a_428 : Ex × Pk → Option (Int × Int × Nat × Nat × (List (Int × ((List Int) × Unit))))
  | (.exit 4, ⟨[.v (.int .i64 x0), .v (.int .i64 x1), .sl 0 (some ((x2, x3)))], [some (.row (Ty.cons (Ty.int IntKind.i64) (Ty.cons (Ty.sl (Ty.int IntKind.i64)) Ty.unit)) 137 x4)]⟩) => some ((x0, x1, x2, x3, x4))
  | _ => none

theorem D169a_428_ok : ∀ y r, D169a_428 y = some r → ∀ z, (O169a_428 r).to z → y = z := by
  intro y r h
  unfold D169a_428 at h
  split at h <;> first | (cases h; intro z hz; exact Option.some.inj hz) | cases h

noncomputable def B169a_428 (N : Nat) (G : (Nat × Nat × Int × Int × Int × (List (Int × ((List Int) × Unit)))) → Option ((List (Int × ((List Int) × Unit))))) (f : (Int × Int × Int × Nat × Nat × (List (Int × ((List Int) × Unit)))) → Option (Int × Int × Nat × Nat × (List (Int × ((List Int) × Unit))))) : (Int × Int × Int × Nat × Nat × (List (Int × ((List Int) × Unit)))) → Option (Int × Int × Nat × Nat × (List (Int × ((List Int) × Unit))))
  | (x0, x1, x2, x3, x4, x5) =>
  iteP (decide (x0 < x1)) (
    iteP (within x2 x4) (
      Option.bind (x5[x3 + Int.toNat x2]?) fun y0 =>
      iteP (within (IntKind.wrap IntKind.i64 (Int.fdiv (IntKind.wrap IntKind.u64 (IntKind.wrap IntKind.i64 (x0 + x1))) (2 : Int))) x4) (
        Option.bind (x5[x3 + Int.toNat (IntKind.wrap IntKind.i64 (Int.fdiv (IntKind.wrap IntKind.u64 (IntKind.wrap IntKind.i64 (x0 + x1))) (2 : Int)))]?) fun y1 =>
        Option.bind (F126 N (Prod.fst y0, Prod.fst (Prod.snd y0), Prod.fst y1, Prod.fst (Prod.snd y1))) fun y2 =>
        iteP (!decide (y2 < (0 : Int))) (
          Option.bind (f (IntKind.wrap IntKind.i64 (IntKind.wrap IntKind.i64 (Int.fdiv (IntKind.wrap IntKind.u64 (IntKind.wrap IntKind.i64 (x0 + x1))) (2 : Int)) + (1 : Int)), x1, x2, x3, x4, x5)) fun r => some r) (
          Option.bind (f (x0, IntKind.wrap IntKind.i64 (Int.fdiv (IntKind.wrap IntKind.u64 (IntKind.wrap IntKind.i64 (x0 + x1))) (2 : Int)), x2, x3, x4, x5)) fun r => some r)) (
        none)) (
      none)) (
    some ((x2, x0, x3, x4, x5)))

noncomputable def F169a_428 (N : Nat) (G : (Nat × Nat × Int × Int × Int × (List (Int × ((List Int) × Unit)))) → Option ((List (Int × ((List Int) × Unit))))) : Nat → (Int × Int × Int × Nat × Nat × (List (Int × ((List Int) × Unit)))) → Option (Int × Int × Nat × Nat × (List (Int × ((List Int) × Unit))))
  | 0, _ => none
  | k + 1, x => B169a_428 N G (F169a_428 N G k) x

noncomputable def C169a_428 (N : Nat) (G : (Nat × Nat × Int × Int × Int × (List (Int × ((List Int) × Unit)))) → Option ((List (Int × ((List Int) × Unit))))) (k : Nat) : Cut := ⟨[14, 15, 4, 2, 0], X169a_428, tellX I169a_428 (F169a_428 N G k) O169a_428⟩

theorem B169a_428_eq (N : Nat) (G : (Nat × Nat × Int × Int × Int × (List (Int × ((List Int) × Unit)))) → Option ((List (Int × ((List Int) × Unit))))) (f : (Int × Int × Int × Nat × Nat × (List (Int × ((List Int) × Unit)))) → Option (Int × Int × Nat × Nat × (List (Int × ((List Int) × Unit))))) (x0 : Int) (x1 : Int) (x2 : Int) (x3 : Nat) (x4 : Nat) (x5 : (List (Int × ((List Int) × Unit)))) : (roundEv (mkE Tryz.prog ownT (tab169a N G) [(172, (C169a_172 N G N)), (698, (C169a_698 N G N))]) Tryz.f169.ntmps A169a (loopAt (bod Tryz.f169) 428) 428 ⟨[14, 15, 4, 2, 0], X169a_428, tellX I169a_428 f O169a_428⟩ (J169a_428 (x0, x1, x2, x3, x4, x5))).run D169a_428 = B169a_428 N G f (x0, x1, x2, x3, x4, x5) := by kernel_rfl

theorem C169a_428_ok (N : Nat) (G : (Nat × Nat × Int × Int × Int × (List (Int × ((List Int) × Unit)))) → Option ((List (Int × ((List Int) × Unit))))) (hG : FOK Tryz.prog 169 (tell I169a G O169a)) (k : Nat) : ∀ c', At (bod Tryz.f169) 428 c' → CutOK Tryz.prog Tryz.f169.ntmps (idsL A169a) c' (C169a_428 N G k) :=
  loop_ok (E := (mkE Tryz.prog ownT (tab169a N G) [(172, (C169a_172 N G N)), (698, (C169a_698 N G N))])) (mkE_ok mix (tab169a_ok N G hG)) (cutsIn_ok ⟨fun c' h => (C169a_172_ok N G hG N c' h), ⟨fun c' h => (C169a_698_ok N G hG N c' h), trivial⟩⟩) (fuel := 200) (by decide +kernel) (by kernel_rfl) I169a_428_ok D169a_428_ok (B169a_428 N G) (F169a_428 N G) (fun _ => rfl) (fun _ _ => rfl) (fun f x => match x with | (x0, x1, x2, x3, x4, x5) => B169a_428_eq N G f x0 x1 x2 x3 x4 x5) k

noncomputable def I169a_1722 : Pk → Option (Int × Int × Nat × Nat × (List (Int × ((List Int) × Unit))))
  | ⟨[.v (.int .i64 x0), .v (.int .i64 x1), .sl 0 (some ((x2, x3)))], [some (.row (Ty.cons (Ty.int IntKind.i64) (Ty.cons (Ty.sl (Ty.int IntKind.i64)) Ty.unit)) 137 x4)]⟩ => some (x0, x1, x2, x3, x4)
  | _ => none

noncomputable def J169a_1722 (x : Int × Int × Nat × Nat × (List (Int × ((List Int) × Unit)))) : Pk := ⟨[.v (.int .i64 (x.1)), .v (.int .i64 (x.2.1)), .sl 0 (some (((x.2.2.1), (x.2.2.2.1))))], [some (.row (Ty.cons (Ty.int IntKind.i64) (Ty.cons (Ty.sl (Ty.int IntKind.i64)) Ty.unit)) 137 (x.2.2.2.2))]⟩

theorem I169a_1722_ok : ∀ pk x, I169a_1722 pk = some x → pk = J169a_1722 x := by
  intro pk x h
  unfold I169a_1722 at h
  split at h <;> first | (cases h; rfl) | cases h

noncomputable def O169a_1722 (r : (List (Int × ((List Int) × Unit)))) : Tr (Ex × Pk) := .ret (.exit 6, ⟨[], [some (.row (Ty.cons (Ty.int IntKind.i64) (Ty.cons (Ty.sl (Ty.int IntKind.i64)) Ty.unit)) 137 (r))]⟩)

noncomputable def D169a_1722 : Ex × Pk → Option ((List (Int × ((List Int) × Unit))))
  | (.exit 6, ⟨[], [some (.row (Ty.cons (Ty.int IntKind.i64) (Ty.cons (Ty.sl (Ty.int IntKind.i64)) Ty.unit)) 137 x0)]⟩) => some (x0)
  | _ => none

theorem D169a_1722_ok : ∀ y r, D169a_1722 y = some r → ∀ z, (O169a_1722 r).to z → y = z := by
  intro y r h
  unfold D169a_1722 at h
  split at h <;> first | (cases h; intro z hz; exact Option.some.inj hz) | cases h

noncomputable def B169a_1722 (N : Nat) (G : (Nat × Nat × Int × Int × Int × (List (Int × ((List Int) × Unit)))) → Option ((List (Int × ((List Int) × Unit))))) (f : (Int × Int × Nat × Nat × (List (Int × ((List Int) × Unit)))) → Option ((List (Int × ((List Int) × Unit))))) : (Int × Int × Nat × Nat × (List (Int × ((List Int) × Unit)))) → Option ((List (Int × ((List Int) × Unit))))
  | (x0, x1, x2, x3, x4) =>
  iteP (decide (x0 > x1)) (
    iteP (within (IntKind.wrap IntKind.i64 (x0 - (1 : Int))) x3) (
      Option.bind (x4[x2 + Int.toNat (IntKind.wrap IntKind.i64 (x0 - (1 : Int)))]?) fun y0 =>
      iteP (within x0 x3) (
        Option.bind (x4[x2 + Int.toNat x0]?) fun y1 =>
        iteP (within x0 x3) (
          Option.bind (x4[x2 + Int.toNat x0]?) fun y2 =>
          iteP (within (IntKind.wrap IntKind.i64 (x0 - (1 : Int))) x3) (
            Option.bind ((List.set x4 (x2 + Int.toNat x0) (Prod.fst y0, Prod.fst (Prod.snd y0), ()))[x2 + Int.toNat (IntKind.wrap IntKind.i64 (x0 - (1 : Int)))]?) fun y3 =>
            Option.bind (f (IntKind.wrap IntKind.i64 (x0 - (1 : Int)), x1, x2, x3, List.set (List.set x4 (x2 + Int.toNat x0) (Prod.fst y0, Prod.fst (Prod.snd y0), ())) (x2 + Int.toNat (IntKind.wrap IntKind.i64 (x0 - (1 : Int)))) (Prod.fst y1, Prod.fst (Prod.snd y1), ()))) fun r => some r) (
            none)) (
          none)) (
        none)) (
      none)) (
    some (x4))

noncomputable def F169a_1722 (N : Nat) (G : (Nat × Nat × Int × Int × Int × (List (Int × ((List Int) × Unit)))) → Option ((List (Int × ((List Int) × Unit))))) : Nat → (Int × Int × Nat × Nat × (List (Int × ((List Int) × Unit)))) → Option ((List (Int × ((List Int) × Unit))))
  | 0, _ => none
  | k + 1, x => B169a_1722 N G (F169a_1722 N G k) x

noncomputable def C169a_1722 (N : Nat) (G : (Nat × Nat × Int × Int × Int × (List (Int × ((List Int) × Unit)))) → Option ((List (Int × ((List Int) × Unit))))) (k : Nat) : Cut := ⟨[17, 14, 0], X169a_1722, tellX I169a_1722 (F169a_1722 N G k) O169a_1722⟩

theorem B169a_1722_eq (N : Nat) (G : (Nat × Nat × Int × Int × Int × (List (Int × ((List Int) × Unit)))) → Option ((List (Int × ((List Int) × Unit))))) (f : (Int × Int × Nat × Nat × (List (Int × ((List Int) × Unit)))) → Option ((List (Int × ((List Int) × Unit))))) (x0 : Int) (x1 : Int) (x2 : Nat) (x3 : Nat) (x4 : (List (Int × ((List Int) × Unit)))) : (roundEv (mkE Tryz.prog ownT (tab169a N G) [(172, (C169a_172 N G N)), (698, (C169a_698 N G N)), (428, (C169a_428 N G N))]) Tryz.f169.ntmps A169a (loopAt (bod Tryz.f169) 1722) 1722 ⟨[17, 14, 0], X169a_1722, tellX I169a_1722 f O169a_1722⟩ (J169a_1722 (x0, x1, x2, x3, x4))).run D169a_1722 = B169a_1722 N G f (x0, x1, x2, x3, x4) := by kernel_rfl

theorem C169a_1722_ok (N : Nat) (G : (Nat × Nat × Int × Int × Int × (List (Int × ((List Int) × Unit)))) → Option ((List (Int × ((List Int) × Unit))))) (hG : FOK Tryz.prog 169 (tell I169a G O169a)) (k : Nat) : ∀ c', At (bod Tryz.f169) 1722 c' → CutOK Tryz.prog Tryz.f169.ntmps (idsL A169a) c' (C169a_1722 N G k) :=
  loop_ok (E := (mkE Tryz.prog ownT (tab169a N G) [(172, (C169a_172 N G N)), (698, (C169a_698 N G N)), (428, (C169a_428 N G N))])) (mkE_ok mix (tab169a_ok N G hG)) (cutsIn_ok ⟨fun c' h => (C169a_172_ok N G hG N c' h), ⟨fun c' h => (C169a_698_ok N G hG N c' h), ⟨fun c' h => (C169a_428_ok N G hG N c' h), trivial⟩⟩⟩) (fuel := 200) (by decide +kernel) (by kernel_rfl) I169a_1722_ok D169a_1722_ok (B169a_1722 N G) (F169a_1722 N G) (fun _ => rfl) (fun _ _ => rfl) (fun f x => match x with | (x0, x1, x2, x3, x4) => B169a_1722_eq N G f x0 x1 x2 x3 x4) k

noncomputable def I169a_1020 : Pk → Option (Int × Int × Int × Int × Int × Int × Int × Int × Nat × Nat × (List (Int × ((List Int) × Unit))))
  | ⟨[.v (.int .i64 x0), .v (.int .i64 x1), .v (.int .i64 x2), .v (.int .i64 x3), .v (.int .i64 x4), .v (.int .i64 x5), .v (.int .i64 x6), .v ((Value.func (Fn.func (126 : FuncId)) (Array.mk []) (Array.mk []))), .v (.int .i64 x7), .sl 0 (some ((x8, x9)))], [some (.row (Ty.cons (Ty.int IntKind.i64) (Ty.cons (Ty.sl (Ty.int IntKind.i64)) Ty.unit)) 137 x10)]⟩ => some (x0, x1, x2, x3, x4, x5, x6, x7, x8, x9, x10)
  | _ => none

noncomputable def J169a_1020 (x : Int × Int × Int × Int × Int × Int × Int × Int × Nat × Nat × (List (Int × ((List Int) × Unit)))) : Pk := ⟨[.v (.int .i64 (x.1)), .v (.int .i64 (x.2.1)), .v (.int .i64 (x.2.2.1)), .v (.int .i64 (x.2.2.2.1)), .v (.int .i64 (x.2.2.2.2.1)), .v (.int .i64 (x.2.2.2.2.2.1)), .v (.int .i64 (x.2.2.2.2.2.2.1)), .v ((Value.func (Fn.func (126 : FuncId)) (Array.mk []) (Array.mk []))), .v (.int .i64 (x.2.2.2.2.2.2.2.1)), .sl 0 (some (((x.2.2.2.2.2.2.2.2.1), (x.2.2.2.2.2.2.2.2.2.1))))], [some (.row (Ty.cons (Ty.int IntKind.i64) (Ty.cons (Ty.sl (Ty.int IntKind.i64)) Ty.unit)) 137 (x.2.2.2.2.2.2.2.2.2.2))]⟩

theorem I169a_1020_ok : ∀ pk x, I169a_1020 pk = some x → pk = J169a_1020 x := by
  intro pk x h
  unfold I169a_1020 at h
  split at h <;> first | (cases h; rfl) | cases h

noncomputable def O169a_1020 (r : Int × Int × Int × Int × Nat × Nat × Int × Int × (List (Int × ((List Int) × Unit)))) : Tr (Ex × Pk) := .ret (.exit 8, ⟨[.v (.int .i64 (r.1)), .v (.int .i64 (r.2.1)), .v (.int .i64 (r.2.2.1)), .v (.int .i64 (r.2.2.2.1)), .sl 0 (some (((r.2.2.2.2.1), (r.2.2.2.2.2.1)))), .v (.int .i64 (r.2.2.2.2.2.2.1)), .v (.int .i64 (r.2.2.2.2.2.2.2.1)), .v ((Value.func (Fn.func (126 : FuncId)) (Array.mk []) (Array.mk [])))], [some (.row (Ty.cons (Ty.int IntKind.i64) (Ty.cons (Ty.sl (Ty.int IntKind.i64)) Ty.unit)) 137 (r.2.2.2.2.2.2.2.2))]⟩)

noncomputable def D169a_1020 : Ex × Pk → Option (Int × Int × Int × Int × Nat × Nat × Int × Int × (List (Int × ((List Int) × Unit))))
  | (.exit 8, ⟨[.v (.int .i64 x0), .v (.int .i64 x1), .v (.int .i64 x2), .v (.int .i64 x3), .sl 0 (some ((x4, x5))), .v (.int .i64 x6), .v (.int .i64 x7), .v ((Value.func (Fn.func (126 : FuncId)) (Array.mk []) (Array.mk [])))], [some (.row (Ty.cons (Ty.int IntKind.i64) (Ty.cons (Ty.sl (Ty.int IntKind.i64)) Ty.unit)) 137 x8)]⟩) => some ((x0, x1, x2, x3, x4, x5, x6, x7, x8))
  | _ => none

theorem D169a_1020_ok : ∀ y r, D169a_1020 y = some r → ∀ z, (O169a_1020 r).to z → y = z := by
  intro y r h
  unfold D169a_1020 at h
  split at h <;> first | (cases h; intro z hz; exact Option.some.inj hz) | cases h

noncomputable def B169a_1020 (N : Nat) (G : (Nat × Nat × Int × Int × Int × (List (Int × ((List Int) × Unit)))) → Option ((List (Int × ((List Int) × Unit))))) (f : (Int × Int × Int × Int × Int × Int × Int × Int × Nat × Nat × (List (Int × ((List Int) × Unit)))) → Option (Int × Int × Int × Int × Nat × Nat × Int × Int × (List (Int × ((List Int) × Unit))))) : (Int × Int × Int × Int × Int × Int × Int × Int × Nat × Nat × (List (Int × ((List Int) × Unit)))) → Option (Int × Int × Int × Int × Nat × Nat × Int × Int × (List (Int × ((List Int) × Unit))))
  | (x0, x1, x2, x3, x4, x5, x6, x7, x8, x9, x10) =>
  iteP (decide (x0 < x6)) (
    iteP (within (IntKind.wrap IntKind.i64 (x7 - IntKind.wrap IntKind.i64 (Int.fdiv (IntKind.wrap IntKind.u64 (IntKind.wrap IntKind.i64 (x0 + x6))) (2 : Int)))) x9) (
      Option.bind (x10[x8 + Int.toNat (IntKind.wrap IntKind.i64 (x7 - IntKind.wrap IntKind.i64 (Int.fdiv (IntKind.wrap IntKind.u64 (IntKind.wrap IntKind.i64 (x0 + x6))) (2 : Int))))]?) fun y0 =>
      iteP (within (IntKind.wrap IntKind.i64 (Int.fdiv (IntKind.wrap IntKind.u64 (IntKind.wrap IntKind.i64 (x0 + x6))) (2 : Int))) x9) (
        Option.bind (x10[x8 + Int.toNat (IntKind.wrap IntKind.i64 (Int.fdiv (IntKind.wrap IntKind.u64 (IntKind.wrap IntKind.i64 (x0 + x6))) (2 : Int)))]?) fun y1 =>
        Option.bind (F126 N (Prod.fst y0, Prod.fst (Prod.snd y0), Prod.fst y1, Prod.fst (Prod.snd y1))) fun y2 =>
        iteP (!decide (y2 < (0 : Int))) (
          Option.bind (f (IntKind.wrap IntKind.i64 (IntKind.wrap IntKind.i64 (Int.fdiv (IntKind.wrap IntKind.u64 (IntKind.wrap IntKind.i64 (x0 + x6))) (2 : Int)) + (1 : Int)), x1, x2, x3, x4, x5, x6, x7, x8, x9, x10)) fun r => some r) (
          Option.bind (f (x0, x1, x2, x3, x4, x5, IntKind.wrap IntKind.i64 (Int.fdiv (IntKind.wrap IntKind.u64 (IntKind.wrap IntKind.i64 (x0 + x6))) (2 : Int)), x7, x8, x9, x10)) fun r => some r)) (
        none)) (
      none)) (
    some ((x5, x4, x3, x0, x8, x9, x2, x1, x10)))

noncomputable def F169a_1020 (N : Nat) (G : (Nat × Nat × Int × Int × Int × (List (Int × ((List Int) × Unit)))) → Option ((List (Int × ((List Int) × Unit))))) : Nat → (Int × Int × Int × Int × Int × Int × Int × Int × Nat × Nat × (List (Int × ((List Int) × Unit)))) → Option (Int × Int × Int × Int × Nat × Nat × Int × Int × (List (Int × ((List Int) × Unit))))
  | 0, _ => none
  | k + 1, x => B169a_1020 N G (F169a_1020 N G k) x

noncomputable def C169a_1020 (N : Nat) (G : (Nat × Nat × Int × Int × Int × (List (Int × ((List Int) × Unit)))) → Option ((List (Int × ((List Int) × Unit))))) (k : Nat) : Cut := ⟨[20, 3, 18, 1, 2, 19, 21, 4, 22, 0], X169a_1020, tellX I169a_1020 (F169a_1020 N G k) O169a_1020⟩

theorem B169a_1020_eq (N : Nat) (G : (Nat × Nat × Int × Int × Int × (List (Int × ((List Int) × Unit)))) → Option ((List (Int × ((List Int) × Unit))))) (f : (Int × Int × Int × Int × Int × Int × Int × Int × Nat × Nat × (List (Int × ((List Int) × Unit)))) → Option (Int × Int × Int × Int × Nat × Nat × Int × Int × (List (Int × ((List Int) × Unit))))) (x0 : Int) (x1 : Int) (x2 : Int) (x3 : Int) (x4 : Int) (x5 : Int) (x6 : Int) (x7 : Int) (x8 : Nat) (x9 : Nat) (x10 : (List (Int × ((List Int) × Unit)))) : (roundEv (mkE Tryz.prog ownT (tab169a N G) [(172, (C169a_172 N G N)), (698, (C169a_698 N G N)), (428, (C169a_428 N G N)), (1722, (C169a_1722 N G N))]) Tryz.f169.ntmps A169a (loopAt (bod Tryz.f169) 1020) 1020 ⟨[20, 3, 18, 1, 2, 19, 21, 4, 22, 0], X169a_1020, tellX I169a_1020 f O169a_1020⟩ (J169a_1020 (x0, x1, x2, x3, x4, x5, x6, x7, x8, x9, x10))).run D169a_1020 = B169a_1020 N G f (x0, x1, x2, x3, x4, x5, x6, x7, x8, x9, x10) := by kernel_rfl

theorem C169a_1020_ok (N : Nat) (G : (Nat × Nat × Int × Int × Int × (List (Int × ((List Int) × Unit)))) → Option ((List (Int × ((List Int) × Unit))))) (hG : FOK Tryz.prog 169 (tell I169a G O169a)) (k : Nat) : ∀ c', At (bod Tryz.f169) 1020 c' → CutOK Tryz.prog Tryz.f169.ntmps (idsL A169a) c' (C169a_1020 N G k) :=
  loop_ok (E := (mkE Tryz.prog ownT (tab169a N G) [(172, (C169a_172 N G N)), (698, (C169a_698 N G N)), (428, (C169a_428 N G N)), (1722, (C169a_1722 N G N))])) (mkE_ok mix (tab169a_ok N G hG)) (cutsIn_ok ⟨fun c' h => (C169a_172_ok N G hG N c' h), ⟨fun c' h => (C169a_698_ok N G hG N c' h), ⟨fun c' h => (C169a_428_ok N G hG N c' h), ⟨fun c' h => (C169a_1722_ok N G hG N c' h), trivial⟩⟩⟩⟩) (fuel := 200) (by decide +kernel) (by kernel_rfl) I169a_1020_ok D169a_1020_ok (B169a_1020 N G) (F169a_1020 N G) (fun _ => rfl) (fun _ _ => rfl) (fun f x => match x with | (x0, x1, x2, x3, x4, x5, x6, x7, x8, x9, x10) => B169a_1020_eq N G f x0 x1 x2 x3 x4 x5 x6 x7 x8 x9 x10) k

theorem D169a_ok : ∀ y r, D169a y = some r → ∀ z, (O169a r).to z → y = z := by
  intro y r h
  unfold D169a at h
  split at h <;> first | (cases h; intro z hz; exact Option.some.inj hz) | cases h

noncomputable def F169ag (N : Nat) (G : (Nat × Nat × Int × Int × Int × (List (Int × ((List Int) × Unit)))) → Option ((List (Int × ((List Int) × Unit))))) : (Nat × Nat × Int × Int × Int × (List (Int × ((List Int) × Unit)))) → Option ((List (Int × ((List Int) × Unit))))
  | (x0, x1, x2, x3, x4, x5) =>
  iteP (IntKind.wrap IntKind.i64 (x3 - x2) == (1 : Int)) (
    Option.bind (F169a_172 N G N (x3, x4, x0, x1, x2, x5)) fun y0 =>
    Option.bind (F169a_698 N G N (Prod.fst y0, Prod.fst (Prod.snd y0), Prod.fst (Prod.snd (Prod.snd y0)), Prod.fst (Prod.snd (Prod.snd (Prod.snd y0))), Prod.snd (Prod.snd (Prod.snd (Prod.snd y0))))) fun y1 =>
    some (y1)) (
    iteP (IntKind.wrap IntKind.i64 (x4 - x3) == (1 : Int)) (
      Option.bind (F169a_428 N G N (x2, x3, x3, x0, x1, x5)) fun y2 =>
      Option.bind (F169a_1722 N G N (Prod.fst y2, Prod.fst (Prod.snd y2), Prod.fst (Prod.snd (Prod.snd y2)), Prod.fst (Prod.snd (Prod.snd (Prod.snd y2))), Prod.snd (Prod.snd (Prod.snd (Prod.snd y2))))) fun y3 =>
      some (y3)) (
      iteP (decide (x3 > IntKind.wrap IntKind.i64 (Int.fdiv (IntKind.wrap IntKind.u64 (IntKind.wrap IntKind.i64 (x2 + x4))) (2 : Int)))) (
        Option.bind (F169a_1020 N G N (IntKind.wrap IntKind.i64 (IntKind.wrap IntKind.i64 (IntKind.wrap IntKind.i64 (Int.fdiv (IntKind.wrap IntKind.u64 (IntKind.wrap IntKind.i64 (x2 + x4))) (2 : Int)) + x3) - x4), x4, IntKind.wrap IntKind.i64 (Int.fdiv (IntKind.wrap IntKind.u64 (IntKind.wrap IntKind.i64 (x2 + x4))) (2 : Int)), x2, x3, IntKind.wrap IntKind.i64 (IntKind.wrap IntKind.i64 (Int.fdiv (IntKind.wrap IntKind.u64 (IntKind.wrap IntKind.i64 (x2 + x4))) (2 : Int)) + x3), IntKind.wrap IntKind.i64 (Int.fdiv (IntKind.wrap IntKind.u64 (IntKind.wrap IntKind.i64 (x2 + x4))) (2 : Int)), IntKind.wrap IntKind.i64 (IntKind.wrap IntKind.i64 (IntKind.wrap IntKind.i64 (Int.fdiv (IntKind.wrap IntKind.u64 (IntKind.wrap IntKind.i64 (x2 + x4))) (2 : Int)) + x3) - (1 : Int)), x0, x1, x5)) fun y4 =>
        iteP (decide (Prod.fst (Prod.snd (Prod.snd (Prod.snd y4))) < Prod.fst (Prod.snd y4))) (
          iteP (decide (Prod.fst (Prod.snd y4) < IntKind.wrap IntKind.i64 (Prod.fst y4 - Prod.fst (Prod.snd (Prod.snd (Prod.snd y4)))))) (
            Option.bind (F173a N (Prod.fst (Prod.snd (Prod.snd (Prod.snd (Prod.snd y4)))), Prod.fst (Prod.snd (Prod.snd (Prod.snd (Prod.snd (Prod.snd y4))))), Prod.fst (Prod.snd (Prod.snd (Prod.snd y4))), Prod.fst (Prod.snd y4), IntKind.wrap IntKind.i64 (Prod.fst y4 - Prod.fst (Prod.snd (Prod.snd (Prod.snd y4)))), Prod.snd (Prod.snd (Prod.snd (Prod.snd (Prod.snd (Prod.snd (Prod.snd (Prod.snd y4))))))))) fun y5 =>
            iteP (decide (Prod.fst (Prod.snd (Prod.snd y4)) < Prod.fst (Prod.snd (Prod.snd (Prod.snd y4))))) (
              iteP (decide (Prod.fst (Prod.snd (Prod.snd (Prod.snd y4))) < Prod.fst (Prod.snd (Prod.snd (Prod.snd (Prod.snd (Prod.snd (Prod.snd y4)))))))) (
                Option.bind (G (Prod.fst (Prod.snd (Prod.snd (Prod.snd (Prod.snd y4)))), Prod.fst (Prod.snd (Prod.snd (Prod.snd (Prod.snd (Prod.snd y4))))), Prod.fst (Prod.snd (Prod.snd y4)), Prod.fst (Prod.snd (Prod.snd (Prod.snd y4))), Prod.fst (Prod.snd (Prod.snd (Prod.snd (Prod.snd (Prod.snd (Prod.snd y4)))))), y5)) fun y6 =>
                iteP (decide (Prod.fst (Prod.snd (Prod.snd (Prod.snd (Prod.snd (Prod.snd (Prod.snd y4)))))) < IntKind.wrap IntKind.i64 (Prod.fst y4 - Prod.fst (Prod.snd (Prod.snd (Prod.snd y4)))))) (
                  iteP (decide (IntKind.wrap IntKind.i64 (Prod.fst y4 - Prod.fst (Prod.snd (Prod.snd (Prod.snd y4)))) < Prod.fst (Prod.snd (Prod.snd (Prod.snd (Prod.snd (Prod.snd (Prod.snd (Prod.snd y4))))))))) (
                    Option.bind (G (Prod.fst (Prod.snd (Prod.snd (Prod.snd (Prod.snd y4)))), Prod.fst (Prod.snd (Prod.snd (Prod.snd (Prod.snd (Prod.snd y4))))), Prod.fst (Prod.snd (Prod.snd (Prod.snd (Prod.snd (Prod.snd (Prod.snd y4)))))), IntKind.wrap IntKind.i64 (Prod.fst y4 - Prod.fst (Prod.snd (Prod.snd (Prod.snd y4)))), Prod.fst (Prod.snd (Prod.snd (Prod.snd (Prod.snd (Prod.snd (Prod.snd (Prod.snd y4))))))), y6)) fun y7 =>
                    some (y7)) (
                    some (y6))) (
                  some (y6))) (
                iteP (decide (Prod.fst (Prod.snd (Prod.snd (Prod.snd (Prod.snd (Prod.snd (Prod.snd y4)))))) < IntKind.wrap IntKind.i64 (Prod.fst y4 - Prod.fst (Prod.snd (Prod.snd (Prod.snd y4)))))) (
                  iteP (decide (IntKind.wrap IntKind.i64 (Prod.fst y4 - Prod.fst (Prod.snd (Prod.snd (Prod.snd y4)))) < Prod.fst (Prod.snd (Prod.snd (Prod.snd (Prod.snd (Prod.snd (Prod.snd (Prod.snd y4))))))))) (
                    Option.bind (G (Prod.fst (Prod.snd (Prod.snd (Prod.snd (Prod.snd y4)))), Prod.fst (Prod.snd (Prod.snd (Prod.snd (Prod.snd (Prod.snd y4))))), Prod.fst (Prod.snd (Prod.snd (Prod.snd (Prod.snd (Prod.snd (Prod.snd y4)))))), IntKind.wrap IntKind.i64 (Prod.fst y4 - Prod.fst (Prod.snd (Prod.snd (Prod.snd y4)))), Prod.fst (Prod.snd (Prod.snd (Prod.snd (Prod.snd (Prod.snd (Prod.snd (Prod.snd y4))))))), y5)) fun y8 =>
                    some (y8)) (
                    some (y5))) (
                  some (y5)))) (
              iteP (decide (Prod.fst (Prod.snd (Prod.snd (Prod.snd (Prod.snd (Prod.snd (Prod.snd y4)))))) < IntKind.wrap IntKind.i64 (Prod.fst y4 - Prod.fst (Prod.snd (Prod.snd (Prod.snd y4)))))) (
                iteP (decide (IntKind.wrap IntKind.i64 (Prod.fst y4 - Prod.fst (Prod.snd (Prod.snd (Prod.snd y4)))) < Prod.fst (Prod.snd (Prod.snd (Prod.snd (Prod.snd (Prod.snd (Prod.snd (Prod.snd y4))))))))) (
                  Option.bind (G (Prod.fst (Prod.snd (Prod.snd (Prod.snd (Prod.snd y4)))), Prod.fst (Prod.snd (Prod.snd (Prod.snd (Prod.snd (Prod.snd y4))))), Prod.fst (Prod.snd (Prod.snd (Prod.snd (Prod.snd (Prod.snd (Prod.snd y4)))))), IntKind.wrap IntKind.i64 (Prod.fst y4 - Prod.fst (Prod.snd (Prod.snd (Prod.snd y4)))), Prod.fst (Prod.snd (Prod.snd (Prod.snd (Prod.snd (Prod.snd (Prod.snd (Prod.snd y4))))))), y5)) fun y9 =>
                  some (y9)) (
                  some (y5))) (
                some (y5)))) (
            iteP (decide (Prod.fst (Prod.snd (Prod.snd y4)) < Prod.fst (Prod.snd (Prod.snd (Prod.snd y4))))) (
              iteP (decide (Prod.fst (Prod.snd (Prod.snd (Prod.snd y4))) < Prod.fst (Prod.snd (Prod.snd (Prod.snd (Prod.snd (Prod.snd (Prod.snd y4)))))))) (
                Option.bind (G (Prod.fst (Prod.snd (Prod.snd (Prod.snd (Prod.snd y4)))), Prod.fst (Prod.snd (Prod.snd (Prod.snd (Prod.snd (Prod.snd y4))))), Prod.fst (Prod.snd (Prod.snd y4)), Prod.fst (Prod.snd (Prod.snd (Prod.snd y4))), Prod.fst (Prod.snd (Prod.snd (Prod.snd (Prod.snd (Prod.snd (Prod.snd y4)))))), Prod.snd (Prod.snd (Prod.snd (Prod.snd (Prod.snd (Prod.snd (Prod.snd (Prod.snd y4))))))))) fun y10 =>
                iteP (decide (Prod.fst (Prod.snd (Prod.snd (Prod.snd (Prod.snd (Prod.snd (Prod.snd y4)))))) < IntKind.wrap IntKind.i64 (Prod.fst y4 - Prod.fst (Prod.snd (Prod.snd (Prod.snd y4)))))) (
                  iteP (decide (IntKind.wrap IntKind.i64 (Prod.fst y4 - Prod.fst (Prod.snd (Prod.snd (Prod.snd y4)))) < Prod.fst (Prod.snd (Prod.snd (Prod.snd (Prod.snd (Prod.snd (Prod.snd (Prod.snd y4))))))))) (
                    Option.bind (G (Prod.fst (Prod.snd (Prod.snd (Prod.snd (Prod.snd y4)))), Prod.fst (Prod.snd (Prod.snd (Prod.snd (Prod.snd (Prod.snd y4))))), Prod.fst (Prod.snd (Prod.snd (Prod.snd (Prod.snd (Prod.snd (Prod.snd y4)))))), IntKind.wrap IntKind.i64 (Prod.fst y4 - Prod.fst (Prod.snd (Prod.snd (Prod.snd y4)))), Prod.fst (Prod.snd (Prod.snd (Prod.snd (Prod.snd (Prod.snd (Prod.snd (Prod.snd y4))))))), y10)) fun y11 =>
                    some (y11)) (
                    some (y10))) (
                  some (y10))) (
                iteP (decide (Prod.fst (Prod.snd (Prod.snd (Prod.snd (Prod.snd (Prod.snd (Prod.snd y4)))))) < IntKind.wrap IntKind.i64 (Prod.fst y4 - Prod.fst (Prod.snd (Prod.snd (Prod.snd y4)))))) (
                  iteP (decide (IntKind.wrap IntKind.i64 (Prod.fst y4 - Prod.fst (Prod.snd (Prod.snd (Prod.snd y4)))) < Prod.fst (Prod.snd (Prod.snd (Prod.snd (Prod.snd (Prod.snd (Prod.snd (Prod.snd y4))))))))) (
                    Option.bind (G (Prod.fst (Prod.snd (Prod.snd (Prod.snd (Prod.snd y4)))), Prod.fst (Prod.snd (Prod.snd (Prod.snd (Prod.snd (Prod.snd y4))))), Prod.fst (Prod.snd (Prod.snd (Prod.snd (Prod.snd (Prod.snd (Prod.snd y4)))))), IntKind.wrap IntKind.i64 (Prod.fst y4 - Prod.fst (Prod.snd (Prod.snd (Prod.snd y4)))), Prod.fst (Prod.snd (Prod.snd (Prod.snd (Prod.snd (Prod.snd (Prod.snd (Prod.snd y4))))))), Prod.snd (Prod.snd (Prod.snd (Prod.snd (Prod.snd (Prod.snd (Prod.snd (Prod.snd y4))))))))) fun y12 =>
                    some (y12)) (
                    some (Prod.snd (Prod.snd (Prod.snd (Prod.snd (Prod.snd (Prod.snd (Prod.snd (Prod.snd y4)))))))))) (
                  some (Prod.snd (Prod.snd (Prod.snd (Prod.snd (Prod.snd (Prod.snd (Prod.snd (Prod.snd y4))))))))))) (
              iteP (decide (Prod.fst (Prod.snd (Prod.snd (Prod.snd (Prod.snd (Prod.snd (Prod.snd y4)))))) < IntKind.wrap IntKind.i64 (Prod.fst y4 - Prod.fst (Prod.snd (Prod.snd (Prod.snd y4)))))) (
                iteP (decide (IntKind.wrap IntKind.i64 (Prod.fst y4 - Prod.fst (Prod.snd (Prod.snd (Prod.snd y4)))) < Prod.fst (Prod.snd (Prod.snd (Prod.snd (Prod.snd (Prod.snd (Prod.snd (Prod.snd y4))))))))) (
                  Option.bind (G (Prod.fst (Prod.snd (Prod.snd (Prod.snd (Prod.snd y4)))), Prod.fst (Prod.snd (Prod.snd (Prod.snd (Prod.snd (Prod.snd y4))))), Prod.fst (Prod.snd (Prod.snd (Prod.snd (Prod.snd (Prod.snd (Prod.snd y4)))))), IntKind.wrap IntKind.i64 (Prod.fst y4 - Prod.fst (Prod.snd (Prod.snd (Prod.snd y4)))), Prod.fst (Prod.snd (Prod.snd (Prod.snd (Prod.snd (Prod.snd (Prod.snd (Prod.snd y4))))))), Prod.snd (Prod.snd (Prod.snd (Prod.snd (Prod.snd (Prod.snd (Prod.snd (Prod.snd y4))))))))) fun y13 =>
                  some (y13)) (
                  some (Prod.snd (Prod.snd (Prod.snd (Prod.snd (Prod.snd (Prod.snd (Prod.snd (Prod.snd y4)))))))))) (
                some (Prod.snd (Prod.snd (Prod.snd (Prod.snd (Prod.snd (Prod.snd (Prod.snd (Prod.snd y4)))))))))))) (
          iteP (decide (Prod.fst (Prod.snd (Prod.snd y4)) < Prod.fst (Prod.snd (Prod.snd (Prod.snd y4))))) (
            iteP (decide (Prod.fst (Prod.snd (Prod.snd (Prod.snd y4))) < Prod.fst (Prod.snd (Prod.snd (Prod.snd (Prod.snd (Prod.snd (Prod.snd y4)))))))) (
              Option.bind (G (Prod.fst (Prod.snd (Prod.snd (Prod.snd (Prod.snd y4)))), Prod.fst (Prod.snd (Prod.snd (Prod.snd (Prod.snd (Prod.snd y4))))), Prod.fst (Prod.snd (Prod.snd y4)), Prod.fst (Prod.snd (Prod.snd (Prod.snd y4))), Prod.fst (Prod.snd (Prod.snd (Prod.snd (Prod.snd (Prod.snd (Prod.snd y4)))))), Prod.snd (Prod.snd (Prod.snd (Prod.snd (Prod.snd (Prod.snd (Prod.snd (Prod.snd y4))))))))) fun y14 =>
              iteP (decide (Prod.fst (Prod.snd (Prod.snd (Prod.snd (Prod.snd (Prod.snd (Prod.snd y4)))))) < IntKind.wrap IntKind.i64 (Prod.fst y4 - Prod.fst (Prod.snd (Prod.snd (Prod.snd y4)))))) (
                iteP (decide (IntKind.wrap IntKind.i64 (Prod.fst y4 - Prod.fst (Prod.snd (Prod.snd (Prod.snd y4)))) < Prod.fst (Prod.snd (Prod.snd (Prod.snd (Prod.snd (Prod.snd (Prod.snd (Prod.snd y4))))))))) (
                  Option.bind (G (Prod.fst (Prod.snd (Prod.snd (Prod.snd (Prod.snd y4)))), Prod.fst (Prod.snd (Prod.snd (Prod.snd (Prod.snd (Prod.snd y4))))), Prod.fst (Prod.snd (Prod.snd (Prod.snd (Prod.snd (Prod.snd (Prod.snd y4)))))), IntKind.wrap IntKind.i64 (Prod.fst y4 - Prod.fst (Prod.snd (Prod.snd (Prod.snd y4)))), Prod.fst (Prod.snd (Prod.snd (Prod.snd (Prod.snd (Prod.snd (Prod.snd (Prod.snd y4))))))), y14)) fun y15 =>
                  some (y15)) (
                  some (y14))) (
                some (y14))) (
              iteP (decide (Prod.fst (Prod.snd (Prod.snd (Prod.snd (Prod.snd (Prod.snd (Prod.snd y4)))))) < IntKind.wrap IntKind.i64 (Prod.fst y4 - Prod.fst (Prod.snd (Prod.snd (Prod.snd y4)))))) (
                iteP (decide (IntKind.wrap IntKind.i64 (Prod.fst y4 - Prod.fst (Prod.snd (Prod.snd (Prod.snd y4)))) < Prod.fst (Prod.snd (Prod.snd (Prod.snd (Prod.snd (Prod.snd (Prod.snd (Prod.snd y4))))))))) (
                  Option.bind (G (Prod.fst (Prod.snd (Prod.snd (Prod.snd (Prod.snd y4)))), Prod.fst (Prod.snd (Prod.snd (Prod.snd (Prod.snd (Prod.snd y4))))), Prod.fst (Prod.snd (Prod.snd (Prod.snd (Prod.snd (Prod.snd (Prod.snd y4)))))), IntKind.wrap IntKind.i64 (Prod.fst y4 - Prod.fst (Prod.snd (Prod.snd (Prod.snd y4)))), Prod.fst (Prod.snd (Prod.snd (Prod.snd (Prod.snd (Prod.snd (Prod.snd (Prod.snd y4))))))), Prod.snd (Prod.snd (Prod.snd (Prod.snd (Prod.snd (Prod.snd (Prod.snd (Prod.snd y4))))))))) fun y16 =>
                  some (y16)) (
                  some (Prod.snd (Prod.snd (Prod.snd (Prod.snd (Prod.snd (Prod.snd (Prod.snd (Prod.snd y4)))))))))) (
                some (Prod.snd (Prod.snd (Prod.snd (Prod.snd (Prod.snd (Prod.snd (Prod.snd (Prod.snd y4))))))))))) (
            iteP (decide (Prod.fst (Prod.snd (Prod.snd (Prod.snd (Prod.snd (Prod.snd (Prod.snd y4)))))) < IntKind.wrap IntKind.i64 (Prod.fst y4 - Prod.fst (Prod.snd (Prod.snd (Prod.snd y4)))))) (
              iteP (decide (IntKind.wrap IntKind.i64 (Prod.fst y4 - Prod.fst (Prod.snd (Prod.snd (Prod.snd y4)))) < Prod.fst (Prod.snd (Prod.snd (Prod.snd (Prod.snd (Prod.snd (Prod.snd (Prod.snd y4))))))))) (
                Option.bind (G (Prod.fst (Prod.snd (Prod.snd (Prod.snd (Prod.snd y4)))), Prod.fst (Prod.snd (Prod.snd (Prod.snd (Prod.snd (Prod.snd y4))))), Prod.fst (Prod.snd (Prod.snd (Prod.snd (Prod.snd (Prod.snd (Prod.snd y4)))))), IntKind.wrap IntKind.i64 (Prod.fst y4 - Prod.fst (Prod.snd (Prod.snd (Prod.snd y4)))), Prod.fst (Prod.snd (Prod.snd (Prod.snd (Prod.snd (Prod.snd (Prod.snd (Prod.snd y4))))))), Prod.snd (Prod.snd (Prod.snd (Prod.snd (Prod.snd (Prod.snd (Prod.snd (Prod.snd y4))))))))) fun y17 =>
                some (y17)) (
                some (Prod.snd (Prod.snd (Prod.snd (Prod.snd (Prod.snd (Prod.snd (Prod.snd (Prod.snd y4)))))))))) (
              some (Prod.snd (Prod.snd (Prod.snd (Prod.snd (Prod.snd (Prod.snd (Prod.snd (Prod.snd y4)))))))))))) (
        Option.bind (F169a_1020 N G N (x2, x4, IntKind.wrap IntKind.i64 (Int.fdiv (IntKind.wrap IntKind.u64 (IntKind.wrap IntKind.i64 (x2 + x4))) (2 : Int)), x2, x3, IntKind.wrap IntKind.i64 (IntKind.wrap IntKind.i64 (Int.fdiv (IntKind.wrap IntKind.u64 (IntKind.wrap IntKind.i64 (x2 + x4))) (2 : Int)) + x3), x3, IntKind.wrap IntKind.i64 (IntKind.wrap IntKind.i64 (IntKind.wrap IntKind.i64 (Int.fdiv (IntKind.wrap IntKind.u64 (IntKind.wrap IntKind.i64 (x2 + x4))) (2 : Int)) + x3) - (1 : Int)), x0, x1, x5)) fun y18 =>
        iteP (decide (Prod.fst (Prod.snd (Prod.snd (Prod.snd y18))) < Prod.fst (Prod.snd y18))) (
          iteP (decide (Prod.fst (Prod.snd y18) < IntKind.wrap IntKind.i64 (Prod.fst y18 - Prod.fst (Prod.snd (Prod.snd (Prod.snd y18)))))) (
            Option.bind (F173a N (Prod.fst (Prod.snd (Prod.snd (Prod.snd (Prod.snd y18)))), Prod.fst (Prod.snd (Prod.snd (Prod.snd (Prod.snd (Prod.snd y18))))), Prod.fst (Prod.snd (Prod.snd (Prod.snd y18))), Prod.fst (Prod.snd y18), IntKind.wrap IntKind.i64 (Prod.fst y18 - Prod.fst (Prod.snd (Prod.snd (Prod.snd y18)))), Prod.snd (Prod.snd (Prod.snd (Prod.snd (Prod.snd (Prod.snd (Prod.snd (Prod.snd y18))))))))) fun y19 =>
            iteP (decide (Prod.fst (Prod.snd (Prod.snd y18)) < Prod.fst (Prod.snd (Prod.snd (Prod.snd y18))))) (
              iteP (decide (Prod.fst (Prod.snd (Prod.snd (Prod.snd y18))) < Prod.fst (Prod.snd (Prod.snd (Prod.snd (Prod.snd (Prod.snd (Prod.snd y18)))))))) (
                Option.bind (G (Prod.fst (Prod.snd (Prod.snd (Prod.snd (Prod.snd y18)))), Prod.fst (Prod.snd (Prod.snd (Prod.snd (Prod.snd (Prod.snd y18))))), Prod.fst (Prod.snd (Prod.snd y18)), Prod.fst (Prod.snd (Prod.snd (Prod.snd y18))), Prod.fst (Prod.snd (Prod.snd (Prod.snd (Prod.snd (Prod.snd (Prod.snd y18)))))), y19)) fun y20 =>
                iteP (decide (Prod.fst (Prod.snd (Prod.snd (Prod.snd (Prod.snd (Prod.snd (Prod.snd y18)))))) < IntKind.wrap IntKind.i64 (Prod.fst y18 - Prod.fst (Prod.snd (Prod.snd (Prod.snd y18)))))) (
                  iteP (decide (IntKind.wrap IntKind.i64 (Prod.fst y18 - Prod.fst (Prod.snd (Prod.snd (Prod.snd y18)))) < Prod.fst (Prod.snd (Prod.snd (Prod.snd (Prod.snd (Prod.snd (Prod.snd (Prod.snd y18))))))))) (
                    Option.bind (G (Prod.fst (Prod.snd (Prod.snd (Prod.snd (Prod.snd y18)))), Prod.fst (Prod.snd (Prod.snd (Prod.snd (Prod.snd (Prod.snd y18))))), Prod.fst (Prod.snd (Prod.snd (Prod.snd (Prod.snd (Prod.snd (Prod.snd y18)))))), IntKind.wrap IntKind.i64 (Prod.fst y18 - Prod.fst (Prod.snd (Prod.snd (Prod.snd y18)))), Prod.fst (Prod.snd (Prod.snd (Prod.snd (Prod.snd (Prod.snd (Prod.snd (Prod.snd y18))))))), y20)) fun y21 =>
                    some (y21)) (
                    some (y20))) (
                  some (y20))) (
                iteP (decide (Prod.fst (Prod.snd (Prod.snd (Prod.snd (Prod.snd (Prod.snd (Prod.snd y18)))))) < IntKind.wrap IntKind.i64 (Prod.fst y18 - Prod.fst (Prod.snd (Prod.snd (Prod.snd y18)))))) (
                  iteP (decide (IntKind.wrap IntKind.i64 (Prod.fst y18 - Prod.fst (Prod.snd (Prod.snd (Prod.snd y18)))) < Prod.fst (Prod.snd (Prod.snd (Prod.snd (Prod.snd (Prod.snd (Prod.snd (Prod.snd y18))))))))) (
                    Option.bind (G (Prod.fst (Prod.snd (Prod.snd (Prod.snd (Prod.snd y18)))), Prod.fst (Prod.snd (Prod.snd (Prod.snd (Prod.snd (Prod.snd y18))))), Prod.fst (Prod.snd (Prod.snd (Prod.snd (Prod.snd (Prod.snd (Prod.snd y18)))))), IntKind.wrap IntKind.i64 (Prod.fst y18 - Prod.fst (Prod.snd (Prod.snd (Prod.snd y18)))), Prod.fst (Prod.snd (Prod.snd (Prod.snd (Prod.snd (Prod.snd (Prod.snd (Prod.snd y18))))))), y19)) fun y22 =>
                    some (y22)) (
                    some (y19))) (
                  some (y19)))) (
              iteP (decide (Prod.fst (Prod.snd (Prod.snd (Prod.snd (Prod.snd (Prod.snd (Prod.snd y18)))))) < IntKind.wrap IntKind.i64 (Prod.fst y18 - Prod.fst (Prod.snd (Prod.snd (Prod.snd y18)))))) (
                iteP (decide (IntKind.wrap IntKind.i64 (Prod.fst y18 - Prod.fst (Prod.snd (Prod.snd (Prod.snd y18)))) < Prod.fst (Prod.snd (Prod.snd (Prod.snd (Prod.snd (Prod.snd (Prod.snd (Prod.snd y18))))))))) (
                  Option.bind (G (Prod.fst (Prod.snd (Prod.snd (Prod.snd (Prod.snd y18)))), Prod.fst (Prod.snd (Prod.snd (Prod.snd (Prod.snd (Prod.snd y18))))), Prod.fst (Prod.snd (Prod.snd (Prod.snd (Prod.snd (Prod.snd (Prod.snd y18)))))), IntKind.wrap IntKind.i64 (Prod.fst y18 - Prod.fst (Prod.snd (Prod.snd (Prod.snd y18)))), Prod.fst (Prod.snd (Prod.snd (Prod.snd (Prod.snd (Prod.snd (Prod.snd (Prod.snd y18))))))), y19)) fun y23 =>
                  some (y23)) (
                  some (y19))) (
                some (y19)))) (
            iteP (decide (Prod.fst (Prod.snd (Prod.snd y18)) < Prod.fst (Prod.snd (Prod.snd (Prod.snd y18))))) (
              iteP (decide (Prod.fst (Prod.snd (Prod.snd (Prod.snd y18))) < Prod.fst (Prod.snd (Prod.snd (Prod.snd (Prod.snd (Prod.snd (Prod.snd y18)))))))) (
                Option.bind (G (Prod.fst (Prod.snd (Prod.snd (Prod.snd (Prod.snd y18)))), Prod.fst (Prod.snd (Prod.snd (Prod.snd (Prod.snd (Prod.snd y18))))), Prod.fst (Prod.snd (Prod.snd y18)), Prod.fst (Prod.snd (Prod.snd (Prod.snd y18))), Prod.fst (Prod.snd (Prod.snd (Prod.snd (Prod.snd (Prod.snd (Prod.snd y18)))))), Prod.snd (Prod.snd (Prod.snd (Prod.snd (Prod.snd (Prod.snd (Prod.snd (Prod.snd y18))))))))) fun y24 =>
                iteP (decide (Prod.fst (Prod.snd (Prod.snd (Prod.snd (Prod.snd (Prod.snd (Prod.snd y18)))))) < IntKind.wrap IntKind.i64 (Prod.fst y18 - Prod.fst (Prod.snd (Prod.snd (Prod.snd y18)))))) (
                  iteP (decide (IntKind.wrap IntKind.i64 (Prod.fst y18 - Prod.fst (Prod.snd (Prod.snd (Prod.snd y18)))) < Prod.fst (Prod.snd (Prod.snd (Prod.snd (Prod.snd (Prod.snd (Prod.snd (Prod.snd y18))))))))) (
                    Option.bind (G (Prod.fst (Prod.snd (Prod.snd (Prod.snd (Prod.snd y18)))), Prod.fst (Prod.snd (Prod.snd (Prod.snd (Prod.snd (Prod.snd y18))))), Prod.fst (Prod.snd (Prod.snd (Prod.snd (Prod.snd (Prod.snd (Prod.snd y18)))))), IntKind.wrap IntKind.i64 (Prod.fst y18 - Prod.fst (Prod.snd (Prod.snd (Prod.snd y18)))), Prod.fst (Prod.snd (Prod.snd (Prod.snd (Prod.snd (Prod.snd (Prod.snd (Prod.snd y18))))))), y24)) fun y25 =>
                    some (y25)) (
                    some (y24))) (
                  some (y24))) (
                iteP (decide (Prod.fst (Prod.snd (Prod.snd (Prod.snd (Prod.snd (Prod.snd (Prod.snd y18)))))) < IntKind.wrap IntKind.i64 (Prod.fst y18 - Prod.fst (Prod.snd (Prod.snd (Prod.snd y18)))))) (
                  iteP (decide (IntKind.wrap IntKind.i64 (Prod.fst y18 - Prod.fst (Prod.snd (Prod.snd (Prod.snd y18)))) < Prod.fst (Prod.snd (Prod.snd (Prod.snd (Prod.snd (Prod.snd (Prod.snd (Prod.snd y18))))))))) (
                    Option.bind (G (Prod.fst (Prod.snd (Prod.snd (Prod.snd (Prod.snd y18)))), Prod.fst (Prod.snd (Prod.snd (Prod.snd (Prod.snd (Prod.snd y18))))), Prod.fst (Prod.snd (Prod.snd (Prod.snd (Prod.snd (Prod.snd (Prod.snd y18)))))), IntKind.wrap IntKind.i64 (Prod.fst y18 - Prod.fst (Prod.snd (Prod.snd (Prod.snd y18)))), Prod.fst (Prod.snd (Prod.snd (Prod.snd (Prod.snd (Prod.snd (Prod.snd (Prod.snd y18))))))), Prod.snd (Prod.snd (Prod.snd (Prod.snd (Prod.snd (Prod.snd (Prod.snd (Prod.snd y18))))))))) fun y26 =>
                    some (y26)) (
                    some (Prod.snd (Prod.snd (Prod.snd (Prod.snd (Prod.snd (Prod.snd (Prod.snd (Prod.snd y18)))))))))) (
                  some (Prod.snd (Prod.snd (Prod.snd (Prod.snd (Prod.snd (Prod.snd (Prod.snd (Prod.snd y18))))))))))) (
              iteP (decide (Prod.fst (Prod.snd (Prod.snd (Prod.snd (Prod.snd (Prod.snd (Prod.snd y18)))))) < IntKind.wrap IntKind.i64 (Prod.fst y18 - Prod.fst (Prod.snd (Prod.snd (Prod.snd y18)))))) (
                iteP (decide (IntKind.wrap IntKind.i64 (Prod.fst y18 - Prod.fst (Prod.snd (Prod.snd (Prod.snd y18)))) < Prod.fst (Prod.snd (Prod.snd (Prod.snd (Prod.snd (Prod.snd (Prod.snd (Prod.snd y18))))))))) (
                  Option.bind (G (Prod.fst (Prod.snd (Prod.snd (Prod.snd (Prod.snd y18)))), Prod.fst (Prod.snd (Prod.snd (Prod.snd (Prod.snd (Prod.snd y18))))), Prod.fst (Prod.snd (Prod.snd (Prod.snd (Prod.snd (Prod.snd (Prod.snd y18)))))), IntKind.wrap IntKind.i64 (Prod.fst y18 - Prod.fst (Prod.snd (Prod.snd (Prod.snd y18)))), Prod.fst (Prod.snd (Prod.snd (Prod.snd (Prod.snd (Prod.snd (Prod.snd (Prod.snd y18))))))), Prod.snd (Prod.snd (Prod.snd (Prod.snd (Prod.snd (Prod.snd (Prod.snd (Prod.snd y18))))))))) fun y27 =>
                  some (y27)) (
                  some (Prod.snd (Prod.snd (Prod.snd (Prod.snd (Prod.snd (Prod.snd (Prod.snd (Prod.snd y18)))))))))) (
                some (Prod.snd (Prod.snd (Prod.snd (Prod.snd (Prod.snd (Prod.snd (Prod.snd (Prod.snd y18)))))))))))) (
          iteP (decide (Prod.fst (Prod.snd (Prod.snd y18)) < Prod.fst (Prod.snd (Prod.snd (Prod.snd y18))))) (
            iteP (decide (Prod.fst (Prod.snd (Prod.snd (Prod.snd y18))) < Prod.fst (Prod.snd (Prod.snd (Prod.snd (Prod.snd (Prod.snd (Prod.snd y18)))))))) (
              Option.bind (G (Prod.fst (Prod.snd (Prod.snd (Prod.snd (Prod.snd y18)))), Prod.fst (Prod.snd (Prod.snd (Prod.snd (Prod.snd (Prod.snd y18))))), Prod.fst (Prod.snd (Prod.snd y18)), Prod.fst (Prod.snd (Prod.snd (Prod.snd y18))), Prod.fst (Prod.snd (Prod.snd (Prod.snd (Prod.snd (Prod.snd (Prod.snd y18)))))), Prod.snd (Prod.snd (Prod.snd (Prod.snd (Prod.snd (Prod.snd (Prod.snd (Prod.snd y18))))))))) fun y28 =>
              iteP (decide (Prod.fst (Prod.snd (Prod.snd (Prod.snd (Prod.snd (Prod.snd (Prod.snd y18)))))) < IntKind.wrap IntKind.i64 (Prod.fst y18 - Prod.fst (Prod.snd (Prod.snd (Prod.snd y18)))))) (
                iteP (decide (IntKind.wrap IntKind.i64 (Prod.fst y18 - Prod.fst (Prod.snd (Prod.snd (Prod.snd y18)))) < Prod.fst (Prod.snd (Prod.snd (Prod.snd (Prod.snd (Prod.snd (Prod.snd (Prod.snd y18))))))))) (
                  Option.bind (G (Prod.fst (Prod.snd (Prod.snd (Prod.snd (Prod.snd y18)))), Prod.fst (Prod.snd (Prod.snd (Prod.snd (Prod.snd (Prod.snd y18))))), Prod.fst (Prod.snd (Prod.snd (Prod.snd (Prod.snd (Prod.snd (Prod.snd y18)))))), IntKind.wrap IntKind.i64 (Prod.fst y18 - Prod.fst (Prod.snd (Prod.snd (Prod.snd y18)))), Prod.fst (Prod.snd (Prod.snd (Prod.snd (Prod.snd (Prod.snd (Prod.snd (Prod.snd y18))))))), y28)) fun y29 =>
                  some (y29)) (
                  some (y28))) (
                some (y28))) (
              iteP (decide (Prod.fst (Prod.snd (Prod.snd (Prod.snd (Prod.snd (Prod.snd (Prod.snd y18)))))) < IntKind.wrap IntKind.i64 (Prod.fst y18 - Prod.fst (Prod.snd (Prod.snd (Prod.snd y18)))))) (
                iteP (decide (IntKind.wrap IntKind.i64 (Prod.fst y18 - Prod.fst (Prod.snd (Prod.snd (Prod.snd y18)))) < Prod.fst (Prod.snd (Prod.snd (Prod.snd (Prod.snd (Prod.snd (Prod.snd (Prod.snd y18))))))))) (
                  Option.bind (G (Prod.fst (Prod.snd (Prod.snd (Prod.snd (Prod.snd y18)))), Prod.fst (Prod.snd (Prod.snd (Prod.snd (Prod.snd (Prod.snd y18))))), Prod.fst (Prod.snd (Prod.snd (Prod.snd (Prod.snd (Prod.snd (Prod.snd y18)))))), IntKind.wrap IntKind.i64 (Prod.fst y18 - Prod.fst (Prod.snd (Prod.snd (Prod.snd y18)))), Prod.fst (Prod.snd (Prod.snd (Prod.snd (Prod.snd (Prod.snd (Prod.snd (Prod.snd y18))))))), Prod.snd (Prod.snd (Prod.snd (Prod.snd (Prod.snd (Prod.snd (Prod.snd (Prod.snd y18))))))))) fun y30 =>
                  some (y30)) (
                  some (Prod.snd (Prod.snd (Prod.snd (Prod.snd (Prod.snd (Prod.snd (Prod.snd (Prod.snd y18)))))))))) (
                some (Prod.snd (Prod.snd (Prod.snd (Prod.snd (Prod.snd (Prod.snd (Prod.snd (Prod.snd y18))))))))))) (
            iteP (decide (Prod.fst (Prod.snd (Prod.snd (Prod.snd (Prod.snd (Prod.snd (Prod.snd y18)))))) < IntKind.wrap IntKind.i64 (Prod.fst y18 - Prod.fst (Prod.snd (Prod.snd (Prod.snd y18)))))) (
              iteP (decide (IntKind.wrap IntKind.i64 (Prod.fst y18 - Prod.fst (Prod.snd (Prod.snd (Prod.snd y18)))) < Prod.fst (Prod.snd (Prod.snd (Prod.snd (Prod.snd (Prod.snd (Prod.snd (Prod.snd y18))))))))) (
                Option.bind (G (Prod.fst (Prod.snd (Prod.snd (Prod.snd (Prod.snd y18)))), Prod.fst (Prod.snd (Prod.snd (Prod.snd (Prod.snd (Prod.snd y18))))), Prod.fst (Prod.snd (Prod.snd (Prod.snd (Prod.snd (Prod.snd (Prod.snd y18)))))), IntKind.wrap IntKind.i64 (Prod.fst y18 - Prod.fst (Prod.snd (Prod.snd (Prod.snd y18)))), Prod.fst (Prod.snd (Prod.snd (Prod.snd (Prod.snd (Prod.snd (Prod.snd (Prod.snd y18))))))), Prod.snd (Prod.snd (Prod.snd (Prod.snd (Prod.snd (Prod.snd (Prod.snd (Prod.snd y18))))))))) fun y31 =>
                some (y31)) (
                some (Prod.snd (Prod.snd (Prod.snd (Prod.snd (Prod.snd (Prod.snd (Prod.snd (Prod.snd y18)))))))))) (
              some (Prod.snd (Prod.snd (Prod.snd (Prod.snd (Prod.snd (Prod.snd (Prod.snd (Prod.snd y18))))))))))))))

noncomputable def F169ak (N : Nat) : Nat → (Nat × Nat × Int × Int × Int × (List (Int × ((List Int) × Unit)))) → Option ((List (Int × ((List Int) × Unit))))
  | 0, _ => none
  | k + 1, x => F169ag N (F169ak N k) x

noncomputable def F169a (N : Nat) : (Nat × Nat × Int × Int × Int × (List (Int × ((List Int) × Unit)))) → Option ((List (Int × ((List Int) × Unit)))) := F169ak N N

theorem F169a_eq (N : Nat) (G : (Nat × Nat × Int × Int × Int × (List (Int × ((List Int) × Unit)))) → Option ((List (Int × ((List Int) × Unit))))) (x0 : Nat) (x1 : Nat) (x2 : Int) (x3 : Int) (x4 : Int) (x5 : (List (Int × ((List Int) × Unit)))) : (fnEv (mkE Tryz.prog ownT (tab169a N G) [(172, (C169a_172 N G N)), (698, (C169a_698 N G N)), (428, (C169a_428 N G N)), (1722, (C169a_1722 N G N)), (1020, (C169a_1020 N G N))]) Tryz.f169 (J169a (x0, x1, x2, x3, x4, x5))).run D169a = F169ag N G (x0, x1, x2, x3, x4, x5) := by kernel_rfl

noncomputable def V169a (N : Nat) : Pk → Tr Pk := tell I169a (F169a N) O169a

theorem V169a_rec (N : Nat) : ∀ k, FOK Tryz.prog 169 (tell I169a (F169ak N k) O169a)
  | 0 => tell_none fun _ => rfl
  | k + 1 => tell_ok (E := (mkE Tryz.prog ownT (tab169a N (F169ak N k)) [(172, (C169a_172 N (F169ak N k) N)), (698, (C169a_698 N (F169ak N k) N)), (428, (C169a_428 N (F169ak N k) N)), (1722, (C169a_1722 N (F169ak N k) N)), (1020, (C169a_1020 N (F169ak N k) N))])) (mkE_ok mix (tab169a_ok N (F169ak N k) (V169a_rec N k))) Tryz.func169 (show Tryz.f169.body = some (bod Tryz.f169) by kernel_rfl) (by decide +kernel) (F := F169ak N (k + 1)) I169a_ok D169a_ok (args := A169a) (fun _ => by kernel_rfl) (fun _ => by show 5 ≤ Tryz.f169.ntmps; exact of_decide_eq_true (by kernel_rfl)) (cutsIn_ok ⟨fun c' h => (C169a_172_ok N (F169ak N k) (V169a_rec N k) N c' h), ⟨fun c' h => (C169a_698_ok N (F169ak N k) (V169a_rec N k) N c' h), ⟨fun c' h => (C169a_428_ok N (F169ak N k) (V169a_rec N k) N c' h), ⟨fun c' h => (C169a_1722_ok N (F169ak N k) (V169a_rec N k) N c' h), ⟨fun c' h => (C169a_1020_ok N (F169ak N k) (V169a_rec N k) N c' h), trivial⟩⟩⟩⟩⟩) (fun x => match x with | (x0, x1, x2, x3, x4, x5) => F169a_eq N (F169ak N k) x0 x1 x2 x3 x4 x5)

theorem V169a_ok (N : Nat) : FOK Tryz.prog 169 (V169a N) :=
  (V169a_rec N N)

noncomputable def T169 (N : Nat) : Pk → Tr Pk := (V169a N)

theorem T169_ok (N : Nat) : FOK Tryz.prog 169 (T169 N) := (V169a_ok N)


end Go.Proofs.YteddgkplkjldcaaGreat.Am
