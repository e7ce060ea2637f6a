/- The seat's Go functions come to the Lean functions written here, wherever these give an answer (third part). -/
import Derived.Test.YtpjkklailofkjaaSB
set_option linter.unusedVariables false
set_option maxRecDepth 100000
namespace Go.Proofs.Ytpjkklailofkjaa.Am
open Go.Am

/-! ## f15: mirador/miradorref05.Same -/

noncomputable def I15 : Pk → Option ((List (Int × (Int × Unit))) × (List (Int × (Int × Unit))))
  | ⟨[.ro (.cons (.int .i64) (.cons (.int .i64) .unit)) x0, .ro (.cons (.int .i64) (.cons (.int .i64) .unit)) x1], []⟩ => some (x0, x1)
  | _ => none

noncomputable def J15 (x : (List (Int × (Int × Unit))) × (List (Int × (Int × Unit)))) : Pk := ⟨[.ro (.cons (.int .i64) (.cons (.int .i64) .unit)) (x.1), .ro (.cons (.int .i64) (.cons (.int .i64) .unit)) (x.2)], []⟩

theorem I15_ok : ∀ pk x, I15 pk = some x → pk = J15 x := by
  intro pk x h
  unfold I15 at h
  split at h <;> first | (cases h; rfl) | cases h

noncomputable def A15 : List TV := []

noncomputable def tab15 (N : Nat) : List (Nat × (Pk → Tr Pk)) := []

theorem tab15_ok (N : Nat) : TabOK Try.prog (tab15 N) := trivial

def X15_58 : Ex → List Nat
  | .ret => [4]
  | .exit 0 => []
  | _ => []

noncomputable def I15_58 : Pk → Option ((List (Int × (Int × Unit))) × (List (Int × (Int × Unit))) × Int)
  | ⟨[.ro (Ty.cons (Ty.int IntKind.i64) (Ty.cons (Ty.int IntKind.i64) Ty.unit)) x0, .ro (Ty.cons (Ty.int IntKind.i64) (Ty.cons (Ty.int IntKind.i64) Ty.unit)) x1, .v (.int .i64 x2)], []⟩ => some (x0, x1, x2)
  | _ => none

noncomputable def J15_58 (x : (List (Int × (Int × Unit))) × (List (Int × (Int × Unit))) × Int) : Pk := ⟨[.ro (Ty.cons (Ty.int IntKind.i64) (Ty.cons (Ty.int IntKind.i64) Ty.unit)) (x.1), .ro (Ty.cons (Ty.int IntKind.i64) (Ty.cons (Ty.int IntKind.i64) Ty.unit)) (x.2.1), .v (.int .i64 (x.2.2))], []⟩

theorem I15_58_ok : ∀ pk x, I15_58 pk = some x → pk = J15_58 x := by
  intro pk x h
  unfold I15_58 at h
  split at h <;> first | (cases h; rfl) | cases h

noncomputable def O15_58 (r : ((Bool) ⊕ (Unit))) : Tr (Ex × Pk) := .sum _ _ r (fun u => .ret (.ret, ⟨[.v (.bool (u))], []⟩)) (fun v => .ret (.exit 0, ⟨[], []⟩))

noncomputable def D15_58 : Ex × Pk → Option (((Bool) ⊕ (Unit)))
  | (.ret, ⟨[.v (.bool x0)], []⟩) => some (.inl (x0))
  | (.exit 0, ⟨[], []⟩) => some (.inr (()))
  | _ => none

theorem D15_58_ok : ∀ y r, D15_58 y = some r → ∀ z, (O15_58 r).to z → y = z := by
  intro y r h
  unfold D15_58 at h
  split at h <;> first | (cases h; intro z hz; exact Option.some.inj hz) | cases h

noncomputable def B15_58 (N : Nat) (f : ((List (Int × (Int × Unit))) × (List (Int × (Int × Unit))) × Int) → Option (((Bool) ⊕ (Unit)))) : ((List (Int × (Int × Unit))) × (List (Int × (Int × Unit))) × Int) → Option (((Bool) ⊕ (Unit)))
  | (x0, x1, x2) =>
  iteP (decide (x2 < (↑(List.length x0) : Int))) (
    iteP (within x2 (List.length x0)) (
      Option.bind (x0[Int.toNat x2]?) fun y0 =>
      iteP (within x2 (List.length x1)) (
        Option.bind (x1[Int.toNat x2]?) fun y1 =>
        iteP (!(Prod.fst y0 == Prod.fst y1 && (Prod.fst (Prod.snd y0) == Prod.fst (Prod.snd y1) && true))) (
          some (.inl (false))) (
          Option.bind (f (x0, x1, IntKind.wrap IntKind.i64 (x2 + (1 : Int)))) fun r => match r with | .inl (y) => some (.inl (y)) | .inr (y) => some (.inr (y)))) (
        none)) (
      none)) (
    some (.inr (())))

noncomputable def F15_58 (N : Nat) : Nat → ((List (Int × (Int × Unit))) × (List (Int × (Int × Unit))) × Int) → Option (((Bool) ⊕ (Unit)))
  | 0, _ => none
  | k + 1, x => B15_58 N (F15_58 N k) x

noncomputable def C15_58 (N : Nat) (k : Nat) : Cut := ⟨[0, 1, 5], X15_58, tellX I15_58 (F15_58 N k) O15_58⟩

theorem B15_58_eq (N : Nat) (f : ((List (Int × (Int × Unit))) × (List (Int × (Int × Unit))) × Int) → Option (((Bool) ⊕ (Unit)))) (x0 : (List (Int × (Int × Unit)))) (x1 : (List (Int × (Int × Unit)))) (x2 : Int) : (roundEv (mkE Try.prog ownT (tab15 N) []) Try.f15.ntmps A15 (loopAt (bod Try.f15) 58) 58 ⟨[0, 1, 5], X15_58, tellX I15_58 f O15_58⟩ (J15_58 (x0, x1, x2))).run D15_58 = B15_58 N f (x0, x1, x2) := by kernel_rfl

theorem C15_58_ok (N : Nat) (k : Nat) : ∀ c', At (bod Try.f15) 58 c' → CutOK Try.prog Try.f15.ntmps (idsL A15) c' (C15_58 N k) :=
  loop_ok (E := (mkE Try.prog ownT (tab15 N) [])) (mkE_ok mix (tab15_ok N)) (cutsIn_ok trivial) (fuel := 200) (by decide +kernel) (by kernel_rfl) I15_58_ok D15_58_ok (B15_58 N) (F15_58 N) (fun _ => rfl) (fun _ _ => rfl) (fun f x => match x with | (x0, x1, x2) => B15_58_eq N f x0 x1 x2) k

noncomputable def O15 (r : Bool) : Tr (Pk) := .ret ⟨[.v (.bool (r))], []⟩

noncomputable def D15 : Pk → Option (Bool)
  | ⟨[.v (.bool x0)], []⟩ => some (x0)
  | _ => none

theorem D15_ok : ∀ y r, D15 y = some r → ∀ z, (O15 r).to z → y = z := by
  intro y r h
  unfold D15 at h
  split at h <;> first | (cases h; intro z hz; exact Option.some.inj hz) | cases h

noncomputable def F15 (N : Nat) : ((List (Int × (Int × Unit))) × (List (Int × (Int × Unit)))) → Option (Bool)
  | (x0, x1) =>
  iteP ((↑(List.length x0) : Int) != (↑(List.length x1) : Int)) (
    some (false)) (
    Option.bind (F15_58 N N (x0, x1, (0 : Int))) fun y0 =>
    match y0 with
    | .inl y1 =>
      some (y1)
    | .inr y1 =>
      some (true))

theorem F15_eq (N : Nat) (x0 : (List (Int × (Int × Unit)))) (x1 : (List (Int × (Int × Unit)))) : (fnEv (mkE Try.prog ownT (tab15 N) [(58, (C15_58 N N))]) Try.f15 (J15 (x0, x1))).run D15 = F15 N (x0, x1) := by kernel_rfl

noncomputable def T15 (N : Nat) : Pk → Tr Pk := tell I15 (F15 N) O15

theorem T15_ok (N : Nat) : FOK Try.prog 15 (T15 N) :=
  (tell_ok (E := (mkE Try.prog ownT (tab15 N) [(58, (C15_58 N N))])) (mkE_ok mix (tab15_ok N)) Try.func15 (show Try.f15.body = some (bod Try.f15) by kernel_rfl) (by decide +kernel) (F := F15 N) I15_ok D15_ok (args := A15) (fun _ => by kernel_rfl) (fun _ => by show 2 ≤ Try.f15.ntmps; exact of_decide_eq_true (by kernel_rfl)) (cutsIn_ok ⟨fun c' h => (C15_58_ok N N c' h), trivial⟩) (fun x => match x with | (x0, x1) => F15_eq N x0 x1))

/-! ## f3: mirador/miradorlaw05.HuffmanCodes -/

noncomputable def I3 : Pk → Option ((List Int))
  | ⟨[.ro (.int .i64) x0], []⟩ => some x0
  | _ => none

noncomputable def J3 (x : (List Int)) : Pk := ⟨[.ro (.int .i64) (x)], []⟩

theorem I3_ok : ∀ pk x, I3 pk = some x → pk = J3 x := by
  intro pk x h
  unfold I3 at h
  split at h <;> first | (cases h; rfl) | cases h

noncomputable def A3 : List TV := []

noncomputable def tab3 (N : Nat) : List (Nat × (Pk → Tr Pk)) := [(11, T11 N), (12, T12 N), (13, T13 N), (14, T14 N), (16, T16 N), (15, T15 N)]

theorem tab3_ok (N : Nat) : TabOK Try.prog (tab3 N) := ⟨T11_ok N, ⟨T12_ok N, ⟨T13_ok N, ⟨T14_ok N, ⟨T16_ok N, ⟨T15_ok N, trivial⟩⟩⟩⟩⟩⟩

noncomputable def O3 (r : Bool) : Tr (Pk) := .ret ⟨[.v (.bool (r))], []⟩

noncomputable def D3 : Pk → Option (Bool)
  | ⟨[.v (.bool x0)], []⟩ => some (x0)
  | _ => none

theorem D3_ok : ∀ y r, D3 y = some r → ∀ z, (O3 r).to z → y = z := by
  intro y r h
  unfold D3 at h
  split at h <;> first | (cases h; intro z hz; exact Option.some.inj hz) | cases h

noncomputable def F3 (N : Nat) : ((List Int)) → Option (Bool)
  | x0 =>
  Option.bind (F11 N ()) fun y0 =>
  iteP (!y0) (
    some (false)) (
    iteP (decide ((↑(List.length x0) : Int) > (340 : Int))) (
      some (y0)) (
      Option.bind (F12 N x0) fun y1 =>
      Option.bind (F13 N x0) fun y2 =>
      Option.bind (F14 N x0) fun y3 =>
      iteP (Prod.fst y1 != Prod.fst y2) (
        some (false)) (
        iteP (Prod.snd y1 != Prod.snd y2) (
          some (false)) (
          iteP (Prod.fst y3 != Prod.snd y2) (
            some (false)) (
            iteP (Prod.snd y2 != (0 : Int)) (
              iteP (y0) (
                some ((↑(List.length (Prod.snd y3)) : Int) == (0 : Int))) (
                some (false))) (
              Option.bind (F16 N x0) fun y4 =>
              Option.bind (F15 N (Prod.snd y3, y4)) fun y5 =>
              iteP (y0) (
                some (y5)) (
                some (false))))))))

theorem F3_eq (N : Nat) (x0 : (List Int)) : (fnEv (mkE Try.prog ownT (tab3 N) []) Try.f3 (J3 x0)).run D3 = F3 N x0 := by kernel_rfl

noncomputable def T3 (N : Nat) : Pk → Tr Pk := tell I3 (F3 N) O3

theorem T3_ok (N : Nat) : FOK Try.prog 3 (T3 N) :=
  (tell_ok (E := (mkE Try.prog ownT (tab3 N) [])) (mkE_ok mix (tab3_ok N)) Try.func3 (show Try.f3.body = some (bod Try.f3) by kernel_rfl) (by decide +kernel) (F := F3 N) I3_ok D3_ok (args := A3) (fun _ => by kernel_rfl) (fun _ => by show 1 ≤ Try.f3.ntmps; exact of_decide_eq_true (by kernel_rfl)) (cutsIn_ok trivial) (fun x => match x with | x0 => F3_eq N x0))

/-! ## f4: mirador/miradorlaw05.HuffmanPrefix -/

noncomputable def I4 : Pk → Option ((List Int) × Int × Int × Int)
  | ⟨[.ro (.int .i64) x0, .v (.int .i64 x1), .v (.int .i64 x2), .v (.int .i64 x3)], []⟩ => some (x0, x1, x2, x3)
  | _ => none

noncomputable def J4 (x : (List Int) × Int × Int × Int) : Pk := ⟨[.ro (.int .i64) (x.1), .v (.int .i64 (x.2.1)), .v (.int .i64 (x.2.2.1)), .v (.int .i64 (x.2.2.2))], []⟩

theorem I4_ok : ∀ pk x, I4 pk = some x → pk = J4 x := by
  intro pk x h
  unfold I4 at h
  split at h <;> first | (cases h; rfl) | cases h

noncomputable def A4 : List TV := []

noncomputable def tab4 (N : Nat) : List (Nat × (Pk → Tr Pk)) := [(11, T11 N), (14, T14 N), (12, T12 N)]

theorem tab4_ok (N : Nat) : TabOK Try.prog (tab4 N) := ⟨T11_ok N, ⟨T14_ok N, ⟨T12_ok N, trivial⟩⟩⟩

def X4_32762 : Ex → List Nat
  | .ret => [8]
  | .exit 0 => [0, 9, 14]
  | _ => []

noncomputable def I4_32762 : Pk → Option (Bool × (List Int) × Int × Int × Int × (List (Int × (Int × Unit))))
  | ⟨[.v (.bool x0), .ro (Ty.int IntKind.i64) x1, .sl 0 (none), .v (.int .i64 x2), .v (.int .i64 x3), .v (.int .i64 x4)], [some (.row (Ty.cons (Ty.int IntKind.i64) (Ty.cons (Ty.int IntKind.i64) Ty.unit)) 34 x5)]⟩ => some (x0, x1, x2, x3, x4, x5)
  | _ => none

noncomputable def J4_32762 (x : Bool × (List Int) × Int × Int × Int × (List (Int × (Int × Unit)))) : Pk := ⟨[.v (.bool (x.1)), .ro (Ty.int IntKind.i64) (x.2.1), .sl 0 (none), .v (.int .i64 (x.2.2.1)), .v (.int .i64 (x.2.2.2.1)), .v (.int .i64 (x.2.2.2.2.1))], [some (.row (Ty.cons (Ty.int IntKind.i64) (Ty.cons (Ty.int IntKind.i64) Ty.unit)) 34 (x.2.2.2.2.2))]⟩

theorem I4_32762_ok : ∀ pk x, I4_32762 pk = some x → pk = J4_32762 x := by
  intro pk x h
  unfold I4_32762 at h
  split at h <;> first | (cases h; rfl) | cases h

noncomputable def O4_32762 (r : ((Bool) ⊕ ((List Int) × Bool × Int))) : Tr (Ex × Pk) := .sum _ _ r (fun u => .ret (.ret, ⟨[.v (.bool (u))], []⟩)) (fun v => .ret (.exit 0, ⟨[.ro (Ty.int IntKind.i64) (v.1), .v (.bool (v.2.1)), .v (.int .i64 (v.2.2))], []⟩))

noncomputable def D4_32762 : Ex × Pk → Option (((Bool) ⊕ ((List Int) × Bool × Int)))
  | (.ret, ⟨[.v (.bool x0)], []⟩) => some (.inl (x0))
  | (.exit 0, ⟨[.ro (Ty.int IntKind.i64) x0, .v (.bool x1), .v (.int .i64 x2)], []⟩) => some (.inr ((x0, x1, x2)))
  | _ => none

theorem D4_32762_ok : ∀ y r, D4_32762 y = some r → ∀ z, (O4_32762 r).to z → y = z := by
  intro y r h
  unfold D4_32762 at h
  split at h <;> first | (cases h; intro z hz; exact Option.some.inj hz) | cases h

noncomputable def B4_32762 (N : Nat) (f : (Bool × (List Int) × Int × Int × Int × (List (Int × (Int × Unit)))) → Option (((Bool) ⊕ ((List Int) × Bool × Int)))) : (Bool × (List Int) × Int × Int × Int × (List (Int × (Int × Unit)))) → Option (((Bool) ⊕ ((List Int) × Bool × Int)))
  | (x0, x1, x2, x3, x4, x5) =>
  iteP (decide (x3 < (↑(List.length x5) : Int))) (
    iteP (within x3 (List.length x5)) (
      Option.bind (x5[Int.toNat x3]?) fun y0 =>
      iteP (within x3 (List.length x1)) (
        Option.bind (x1[Int.toNat x3]?) fun y1 =>
        iteP (Prod.fst (Prod.snd y0) != y1) (
          some (.inl (false))) (
          iteP (within x3 (List.length x5)) (
            Option.bind (x5[Int.toNat x3]?) fun y2 =>
            iteP (decide (Prod.fst y2 < (0 : Int))) (
              some (.inl (false))) (
              iteP (within x3 (List.length x5)) (
                Option.bind (x5[Int.toNat x3]?) fun y3 =>
                iteP (within x3 (List.length x1)) (
                  Option.bind (x1[Int.toNat x3]?) fun y4 =>
                  iteP (decide (y4 < (0 : Int))) (
                    none) (
                    iteP (decide (Prod.fst y3 ≥ IntKind.wrap IntKind.i64 ((1 : Int) * (2 : Int) ^ min (Int.toNat y4) (64 : Nat)))) (
                      some (.inl (false))) (
                      iteP (within x3 (List.length x5)) (
                        Option.bind (x5[Int.toNat x3]?) fun y5 =>
                        iteP (decide (Prod.fst (Prod.snd y5) > (0 : Int))) (
                          iteP (within x3 (List.length x5)) (
                            Option.bind (x5[Int.toNat x3]?) fun y6 =>
                            iteP (decide (IntKind.wrap IntKind.i64 ((15 : Int) - Prod.fst (Prod.snd y6)) < (0 : Int))) (
                              none) (
                              iteP (within x3 (List.length x5)) (
                                Option.bind (x5[Int.toNat x3]?) fun y7 =>
                                iteP (Int.fdiv (IntKind.wrap IntKind.i64 (↑(BitVec.toNat (BitVec.ofInt (64 : Nat) x2 &&& BitVec.ofInt (64 : Nat) (32767 : Int))) : Int)) ((2 : Int) ^ min (Int.toNat (IntKind.wrap IntKind.i64 ((15 : Int) - Prod.fst (Prod.snd y6)))) (64 : Nat)) == Prod.fst y7) (
                                  Option.bind (f (x0, x1, x2, IntKind.wrap IntKind.i64 (x3 + (1 : Int)), IntKind.wrap IntKind.i64 (x4 + (1 : Int)), x5)) fun r => match r with | .inl (y) => some (.inl (y)) | .inr (y) => some (.inr (y))) (
                                  Option.bind (f (x0, x1, x2, IntKind.wrap IntKind.i64 (x3 + (1 : Int)), x4, x5)) fun r => match r with | .inl (y) => some (.inl (y)) | .inr (y) => some (.inr (y)))) (
                                none))) (
                            none)) (
                          Option.bind (f (x0, x1, x2, IntKind.wrap IntKind.i64 (x3 + (1 : Int)), x4, x5)) fun r => match r with | .inl (y) => some (.inl (y)) | .inr (y) => some (.inr (y)))) (
                        none)))) (
                  none)) (
                none))) (
            none))) (
        none)) (
      none)) (
    some (.inr ((x1, x0, x4))))

noncomputable def F4_32762 (N : Nat) : Nat → (Bool × (List Int) × Int × Int × Int × (List (Int × (Int × Unit)))) → Option (((Bool) ⊕ ((List Int) × Bool × Int)))
  | 0, _ => none
  | k + 1, x => B4_32762 N (F4_32762 N k) x

noncomputable def C4_32762 (N : Nat) (k : Nat) : Cut := ⟨[9, 0, 10, 3, 15, 14], X4_32762, tellX I4_32762 (F4_32762 N k) O4_32762⟩

theorem B4_32762_eq (N : Nat) (f : (Bool × (List Int) × Int × Int × Int × (List (Int × (Int × Unit)))) → Option (((Bool) ⊕ ((List Int) × Bool × Int)))) (x0 : Bool) (x1 : (List Int)) (x2 : Int) (x3 : Int) (x4 : Int) (x5 : (List (Int × (Int × Unit)))) : (roundEv (mkE Try.prog ownT (tab4 N) []) Try.f4.ntmps A4 (loopAt (bod Try.f4) 32762) 32762 ⟨[9, 0, 10, 3, 15, 14], X4_32762, tellX I4_32762 f O4_32762⟩ (J4_32762 (x0, x1, x2, x3, x4, x5))).run D4_32762 = B4_32762 N f (x0, x1, x2, x3, x4, x5) := by kernel_rfl

theorem C4_32762_ok (N : Nat) (k : Nat) : ∀ c', At (bod Try.f4) 32762 c' → CutOK Try.prog Try.f4.ntmps (idsL A4) c' (C4_32762 N k) :=
  loop_ok (E := (mkE Try.prog ownT (tab4 N) [])) (mkE_ok mix (tab4_ok N)) (cutsIn_ok trivial) (fuel := 200) (by decide +kernel) (by kernel_rfl) I4_32762_ok D4_32762_ok (B4_32762 N) (F4_32762 N) (fun _ => rfl) (fun _ _ => rfl) (fun f x => match x with | (x0, x1, x2, x3, x4, x5) => B4_32762_eq N f x0 x1 x2 x3 x4 x5) k

noncomputable def O4 (r : Bool) : Tr (Pk) := .ret ⟨[.v (.bool (r))], []⟩

noncomputable def D4 : Pk → Option (Bool)
  | ⟨[.v (.bool x0)], []⟩ => some (x0)
  | _ => none

theorem D4_ok : ∀ y r, D4 y = some r → ∀ z, (O4 r).to z → y = z := by
  intro y r h
  unfold D4 at h
  split at h <;> first | (cases h; intro z hz; exact Option.some.inj hz) | cases h

noncomputable def F4 (N : Nat) : ((List Int) × Int × Int × Int) → Option (Bool)
  | (x0, x1, x2, x3) =>
  Option.bind (F11 N ()) fun y0 =>
  iteP (!y0) (
    some (false)) (
    iteP (decide ((↑(List.length x0) : Int) > (340 : Int))) (
      some (y0)) (
      iteP ((↑(List.length x0) : Int) == (0 : Int)) (
        some (y0)) (
        Option.bind (F14 N x0) fun y1 =>
        iteP (Prod.fst y1 != (0 : Int)) (
          some (y0)) (
          iteP ((↑(List.length (Prod.snd y1)) : Int) != (↑(List.length x0) : Int)) (
            some (false)) (
            iteP (within (if IntKind.wrap IntKind.i64 ((↑(List.length (Prod.snd y1)) : Int) - (1 : Int)) < if (0 : Int) > x1 then (0 : Int) else x1 then IntKind.wrap IntKind.i64 ((↑(List.length (Prod.snd y1)) : Int) - (1 : Int)) else if (0 : Int) > x1 then (0 : Int) else x1) (List.length (Prod.snd y1))) (
              Option.bind ((Prod.snd y1)[Int.toNat (if IntKind.wrap IntKind.i64 ((↑(List.length (Prod.snd y1)) : Int) - (1 : Int)) < if (0 : Int) > x1 then (0 : Int) else x1 then IntKind.wrap IntKind.i64 ((↑(List.length (Prod.snd y1)) : Int) - (1 : Int)) else if (0 : Int) > x1 then (0 : Int) else x1)]?) fun y2 =>
              iteP (within (if IntKind.wrap IntKind.i64 ((↑(List.length (Prod.snd y1)) : Int) - (1 : Int)) < if (0 : Int) > x2 then (0 : Int) else x2 then IntKind.wrap IntKind.i64 ((↑(List.length (Prod.snd y1)) : Int) - (1 : Int)) else if (0 : Int) > x2 then (0 : Int) else x2) (List.length (Prod.snd y1))) (
                Option.bind ((Prod.snd y1)[Int.toNat (if IntKind.wrap IntKind.i64 ((↑(List.length (Prod.snd y1)) : Int) - (1 : Int)) < if (0 : Int) > x2 then (0 : Int) else x2 then IntKind.wrap IntKind.i64 ((↑(List.length (Prod.snd y1)) : Int) - (1 : Int)) else if (0 : Int) > x2 then (0 : Int) else x2)]?) fun y3 =>
                iteP (decide (Prod.fst (Prod.snd y2) > (0 : Int))) (
                  iteP (decide (Prod.fst (Prod.snd y3) > Prod.fst (Prod.snd y2))) (
                    iteP (decide (IntKind.wrap IntKind.i64 (Prod.fst (Prod.snd y3) - Prod.fst (Prod.snd y2)) < (0 : Int))) (
                      none) (
                      iteP (Int.fdiv (Prod.fst y3) ((2 : Int) ^ min (Int.toNat (IntKind.wrap IntKind.i64 (Prod.fst (Prod.snd y3) - Prod.fst (Prod.snd y2)))) (64 : Nat)) == Prod.fst y2) (
                        some (false)) (
                        Option.bind (F4_32762 N N (y0, x0, x3, (0 : Int), (0 : Int), Prod.snd y1)) fun y4 =>
                        match y4 with
                        | .inl y5 =>
                          some (y5)
                        | .inr y5 =>
                          Option.bind (F12 N (Prod.fst y5)) fun y6 =>
                          iteP (Prod.fst (Prod.snd y5)) (
                            iteP (decide (Prod.snd (Prod.snd y5) ≤ (1 : Int))) (
                              iteP (decide (Prod.fst y6 > (0 : Int))) (
                                some (true)) (
                                some (Prod.snd (Prod.snd y5) == (1 : Int)))) (
                              some (false))) (
                            some (false))))) (
                    Option.bind (F4_32762 N N (y0, x0, x3, (0 : Int), (0 : Int), Prod.snd y1)) fun y7 =>
                    match y7 with
                    | .inl y8 =>
                      some (y8)
                    | .inr y8 =>
                      Option.bind (F12 N (Prod.fst y8)) fun y9 =>
                      iteP (Prod.fst (Prod.snd y8)) (
                        iteP (decide (Prod.snd (Prod.snd y8) ≤ (1 : Int))) (
                          iteP (decide (Prod.fst y9 > (0 : Int))) (
                            some (true)) (
                            some (Prod.snd (Prod.snd y8) == (1 : Int)))) (
                          some (false))) (
                        some (false)))) (
                  Option.bind (F4_32762 N N (y0, x0, x3, (0 : Int), (0 : Int), Prod.snd y1)) fun y10 =>
                  match y10 with
                  | .inl y11 =>
                    some (y11)
                  | .inr y11 =>
                    Option.bind (F12 N (Prod.fst y11)) fun y12 =>
                    iteP (Prod.fst (Prod.snd y11)) (
                      iteP (decide (Prod.snd (Prod.snd y11) ≤ (1 : Int))) (
                        iteP (decide (Prod.fst y12 > (0 : Int))) (
                          some (true)) (
                          some (Prod.snd (Prod.snd y11) == (1 : Int)))) (
                        some (false))) (
                      some (false)))) (
                none)) (
              none))))))

theorem F4_eq (N : Nat) (x0 : (List Int)) (x1 : Int) (x2 : Int) (x3 : Int) : (fnEv (mkE Try.prog ownT (tab4 N) [(32762, (C4_32762 N N))]) Try.f4 (J4 (x0, x1, x2, x3))).run D4 = F4 N (x0, x1, x2, x3) := by kernel_rfl

noncomputable def T4 (N : Nat) : Pk → Tr Pk := tell I4 (F4 N) O4

theorem T4_ok (N : Nat) : FOK Try.prog 4 (T4 N) :=
  (tell_ok (E := (mkE Try.prog ownT (tab4 N) [(32762, (C4_32762 N N))])) (mkE_ok mix (tab4_ok N)) Try.func4 (show Try.f4.body = some (bod Try.f4) by kernel_rfl) (by decide +kernel) (F := F4 N) I4_ok D4_ok (args := A4) (fun _ => by kernel_rfl) (fun _ => by show 4 ≤ Try.f4.ntmps; exact of_decide_eq_true (by kernel_rfl)) (cutsIn_ok ⟨fun c' h => (C4_32762_ok N N c' h), trivial⟩) (fun x => match x with | (x0, x1, x2, x3) => F4_eq N x0 x1 x2 x3))

/-! ## f59: mirador/miradorref02.Count -/

noncomputable def I59 : Pk → Option (Int)
  | ⟨[.v (.int .i64 x0)], []⟩ => some x0
  | _ => none

noncomputable def J59 (x : Int) : Pk := ⟨[.v (.int .i64 (x))], []⟩

theorem I59_ok : ∀ pk x, I59 pk = some x → pk = J59 x := by
  intro pk x h
  unfold I59 at h
  split at h <;> first | (cases h; rfl) | cases h

noncomputable def A59 : List TV := []

noncomputable def tab59 (N : Nat) : List (Nat × (Pk → Tr Pk)) := []

theorem tab59_ok (N : Nat) : TabOK Try.prog (tab59 N) := trivial

noncomputable def O59 (r : Int) : Tr (Pk) := .ret ⟨[.v (.int .i64 (r))], []⟩

noncomputable def D59 : Pk → Option (Int)
  | ⟨[.v (.int .i64 x0)], []⟩ => some (x0)
  | _ => none

theorem D59_ok : ∀ y r, D59 y = some r → ∀ z, (O59 r).to z → y = z := by
  intro y r h
  unfold D59 at h
  split at h <;> first | (cases h; intro z hz; exact Option.some.inj hz) | cases h

noncomputable def F59 (N : Nat) : (Int) → Option (Int)
  | x0 =>
  some (if (32 : Int) < if (0 : Int) > x0 then (0 : Int) else x0 then (32 : Int) else if (0 : Int) > x0 then (0 : Int) else x0)

theorem F59_eq (N : Nat) (x0 : Int) : (fnEv (mkE Try.prog ownT (tab59 N) []) Try.f59 (J59 x0)).run D59 = F59 N x0 := by kernel_rfl

noncomputable def T59 (N : Nat) : Pk → Tr Pk := tell I59 (F59 N) O59

theorem T59_ok (N : Nat) : FOK Try.prog 59 (T59 N) :=
  (tell_ok (E := (mkE Try.prog ownT (tab59 N) [])) (mkE_ok mix (tab59_ok N)) Try.func59 (show Try.f59.body = some (bod Try.f59) by kernel_rfl) (by decide +kernel) (F := F59 N) I59_ok D59_ok (args := A59) (fun _ => by kernel_rfl) (fun _ => by show 1 ≤ Try.f59.ntmps; exact of_decide_eq_true (by kernel_rfl)) (cutsIn_ok trivial) (fun x => match x with | x0 => F59_eq N x0))

/-! ## f41: mirador/miradorref02.Of -/

noncomputable def I41 : Pk → Option (Int × Int)
  | ⟨[.v (.int .i64 x0), .v (.int .i64 x1)], []⟩ => some (x0, x1)
  | _ => none

noncomputable def J41 (x : Int × Int) : Pk := ⟨[.v (.int .i64 (x.1)), .v (.int .i64 (x.2))], []⟩

theorem I41_ok : ∀ pk x, I41 pk = some x → pk = J41 x := by
  intro pk x h
  unfold I41 at h
  split at h <;> first | (cases h; rfl) | cases h

noncomputable def A41 : List TV := []

noncomputable def tab41 (N : Nat) : List (Nat × (Pk → Tr Pk)) := [(59, T59 N)]

theorem tab41_ok (N : Nat) : TabOK Try.prog (tab41 N) := ⟨T59_ok N, trivial⟩

def X41_58 : Ex → List Nat
  | .ret => [4]
  | .exit 0 => [5]
  | _ => []

noncomputable def I41_58 : Pk → Option (Int × Int × Int × (List Bool))
  | ⟨[.sl 0 (none), .v (.int .i64 x0), .v (.int .i64 x1), .v (.int .i64 x2)], [some (.row (Ty.bool) 4 x3)]⟩ => some (x0, x1, x2, x3)
  | _ => none

noncomputable def J41_58 (x : Int × Int × Int × (List Bool)) : Pk := ⟨[.sl 0 (none), .v (.int .i64 (x.1)), .v (.int .i64 (x.2.1)), .v (.int .i64 (x.2.2.1))], [some (.row (Ty.bool) 4 (x.2.2.2))]⟩

theorem I41_58_ok : ∀ pk x, I41_58 pk = some x → pk = J41_58 x := by
  intro pk x h
  unfold I41_58 at h
  split at h <;> first | (cases h; rfl) | cases h

noncomputable def O41_58 (r : (List Bool)) : Tr (Ex × Pk) := .ret (.exit 0, ⟨[.sl 0 (none)], [some (.row (Ty.bool) 4 (r))]⟩)

noncomputable def D41_58 : Ex × Pk → Option ((List Bool))
  | (.exit 0, ⟨[.sl 0 (none)], [some (.row (Ty.bool) 4 x0)]⟩) => some (x0)
  | _ => none

theorem D41_58_ok : ∀ y r, D41_58 y = some r → ∀ z, (O41_58 r).to z → y = z := by
  intro y r h
  unfold D41_58 at h
  split at h <;> first | (cases h; intro z hz; exact Option.some.inj hz) | cases h

noncomputable def B41_58 (N : Nat) (f : (Int × Int × Int × (List Bool)) → Option ((List Bool))) : (Int × Int × Int × (List Bool)) → Option ((List Bool))
  | (x0, x1, x2, x3) =>
  Option.bind (F59 N x2) fun y0 =>
  iteP (decide (x1 < y0)) (
    iteP (decide ((List.length x3 + List.length [IntKind.wrap IntKind.i64 (↑(BitVec.toNat (BitVec.ofInt (64 : Nat) x0 &&& BitVec.ofInt (64 : Nat) (1 : Int))) : Int) == (1 : Int)]) * (1 : Nat) ≤ (140737488355328 : Nat) ∧ List.length x3 + List.length [IntKind.wrap IntKind.i64 (↑(BitVec.toNat (BitVec.ofInt (64 : Nat) x0 &&& BitVec.ofInt (64 : Nat) (1 : Int))) : Int) == (1 : Int)] ≤ (140737488355328 : Nat))) (
      Option.bind (f (Int.fdiv x0 (2 : Int), IntKind.wrap IntKind.i64 (x1 + (1 : Int)), x2, x3 ++ [IntKind.wrap IntKind.i64 (↑(BitVec.toNat (BitVec.ofInt (64 : Nat) x0 &&& BitVec.ofInt (64 : Nat) (1 : Int))) : Int) == (1 : Int)])) fun r => some r) (
      none)) (
    some (x3))

noncomputable def F41_58 (N : Nat) : Nat → (Int × Int × Int × (List Bool)) → Option ((List Bool))
  | 0, _ => none
  | k + 1, x => B41_58 N (F41_58 N k) x

noncomputable def C41_58 (N : Nat) (k : Nat) : Cut := ⟨[5, 1, 6, 0], X41_58, tellX I41_58 (F41_58 N k) O41_58⟩

theorem B41_58_eq (N : Nat) (f : (Int × Int × Int × (List Bool)) → Option ((List Bool))) (x0 : Int) (x1 : Int) (x2 : Int) (x3 : (List Bool)) : (roundEv (mkE Try.prog ownT (tab41 N) []) Try.f41.ntmps A41 (loopAt (bod Try.f41) 58) 58 ⟨[5, 1, 6, 0], X41_58, tellX I41_58 f O41_58⟩ (J41_58 (x0, x1, x2, x3))).run D41_58 = B41_58 N f (x0, x1, x2, x3) := by kernel_rfl

theorem C41_58_ok (N : Nat) (k : Nat) : ∀ c', At (bod Try.f41) 58 c' → CutOK Try.prog Try.f41.ntmps (idsL A41) c' (C41_58 N k) :=
  loop_ok (E := (mkE Try.prog ownT (tab41 N) [])) (mkE_ok mix (tab41_ok N)) (cutsIn_ok trivial) (fuel := 200) (by decide +kernel) (by kernel_rfl) I41_58_ok D41_58_ok (B41_58 N) (F41_58 N) (fun _ => rfl) (fun _ _ => rfl) (fun f x => match x with | (x0, x1, x2, x3) => B41_58_eq N f x0 x1 x2 x3) k

noncomputable def O41 (r : (List Bool)) : Tr (Pk) := .ret ⟨[.sl 0 (none)], [some (.row (Ty.bool) 4 (r))]⟩

noncomputable def D41 : Pk → Option ((List Bool))
  | ⟨[.sl 0 (none)], [some (.row (Ty.bool) 4 x0)]⟩ => some (x0)
  | _ => none

theorem D41_ok : ∀ y r, D41 y = some r → ∀ z, (O41 r).to z → y = z := by
  intro y r h
  unfold D41 at h
  split at h <;> first | (cases h; intro z hz; exact Option.some.inj hz) | cases h

noncomputable def F41 (N : Nat) : (Int × Int) → Option ((List Bool))
  | (x0, x1) =>
  Option.bind (F41_58 N N (x1, (0 : Int), x0, [])) fun y0 =>
  some (y0)

theorem F41_eq (N : Nat) (x0 : Int) (x1 : Int) : (fnEv (mkE Try.prog ownT (tab41 N) [(58, (C41_58 N N))]) Try.f41 (J41 (x0, x1))).run D41 = F41 N (x0, x1) := by kernel_rfl

noncomputable def T41 (N : Nat) : Pk → Tr Pk := tell I41 (F41 N) O41

theorem T41_ok (N : Nat) : FOK Try.prog 41 (T41 N) :=
  (tell_ok (E := (mkE Try.prog ownT (tab41 N) [(58, (C41_58 N N))])) (mkE_ok mix (tab41_ok N)) Try.func41 (show Try.f41.body = some (bod Try.f41) by kernel_rfl) (by decide +kernel) (F := F41 N) I41_ok D41_ok (args := A41) (fun _ => by kernel_rfl) (fun _ => by show 2 ≤ Try.f41.ntmps; exact of_decide_eq_true (by kernel_rfl)) (cutsIn_ok ⟨fun c' h => (C41_58_ok N N c' h), trivial⟩) (fun x => match x with | (x0, x1) => F41_eq N x0 x1))

/-! ## f21: mirador/miradorref02.All -/

noncomputable def I21 : Pk → Option (ByteArray)
  | ⟨[.v (.string x0)], []⟩ => some x0
  | _ => none

noncomputable def J21 (x : ByteArray) : Pk := ⟨[.v (.string (x))], []⟩

theorem I21_ok : ∀ pk x, I21 pk = some x → pk = J21 x := by
  intro pk x h
  unfold I21 at h
  split at h <;> first | (cases h; rfl) | cases h

noncomputable def A21 : List TV := []

noncomputable def tab21 (N : Nat) : List (Nat × (Pk → Tr Pk)) := [(41, T41 N)]

theorem tab21_ok (N : Nat) : TabOK Try.prog (tab21 N) := ⟨T41_ok N, trivial⟩

def X21_58 : Ex → List Nat
  | .ret => [2]
  | .exit 0 => [3]
  | _ => []

noncomputable def I21_58 : Pk → Option (Int × ByteArray × (List Bool))
  | ⟨[.sl 0 (none), .v (.int .i64 x0), .v (.string x1)], [some (.row (Ty.bool) 4 x2)]⟩ => some (x0, x1, x2)
  | _ => none

noncomputable def J21_58 (x : Int × ByteArray × (List Bool)) : Pk := ⟨[.sl 0 (none), .v (.int .i64 (x.1)), .v (.string (x.2.1))], [some (.row (Ty.bool) 4 (x.2.2))]⟩

theorem I21_58_ok : ∀ pk x, I21_58 pk = some x → pk = J21_58 x := by
  intro pk x h
  unfold I21_58 at h
  split at h <;> first | (cases h; rfl) | cases h

noncomputable def O21_58 (r : (List Bool)) : Tr (Ex × Pk) := .ret (.exit 0, ⟨[.sl 0 (none)], [some (.row (Ty.bool) 4 (r))]⟩)

noncomputable def D21_58 : Ex × Pk → Option ((List Bool))
  | (.exit 0, ⟨[.sl 0 (none)], [some (.row (Ty.bool) 4 x0)]⟩) => some (x0)
  | _ => none

theorem D21_58_ok : ∀ y r, D21_58 y = some r → ∀ z, (O21_58 r).to z → y = z := by
  intro y r h
  unfold D21_58 at h
  split at h <;> first | (cases h; intro z hz; exact Option.some.inj hz) | cases h

noncomputable def B21_58 (N : Nat) (f : (Int × ByteArray × (List Bool)) → Option ((List Bool))) : (Int × ByteArray × (List Bool)) → Option ((List Bool))
  | (x0, x1, x2) =>
  iteP (decide (x0 < (↑(ByteArray.size x1) : Int))) (
    iteP (decide ((0 : Int) ≤ x0)) (
      Option.bind (x1[Int.toNat x0]?) fun y0 =>
      Option.bind (F41 N ((8 : Int), IntKind.wrap IntKind.i64 (↑(UInt8.toNat y0) : Int))) fun y1 =>
      iteP (decide ((List.length x2 + List.length y1) * (1 : Nat) ≤ (140737488355328 : Nat) ∧ List.length x2 + List.length y1 ≤ (140737488355328 : Nat))) (
        Option.bind (f (IntKind.wrap IntKind.i64 (x0 + (1 : Int)), x1, x2 ++ y1)) fun r => some r) (
        none)) (
      none)) (
    some (x2))

noncomputable def F21_58 (N : Nat) : Nat → (Int × ByteArray × (List Bool)) → Option ((List Bool))
  | 0, _ => none
  | k + 1, x => B21_58 N (F21_58 N k) x

noncomputable def C21_58 (N : Nat) (k : Nat) : Cut := ⟨[3, 4, 0], X21_58, tellX I21_58 (F21_58 N k) O21_58⟩

theorem B21_58_eq (N : Nat) (f : (Int × ByteArray × (List Bool)) → Option ((List Bool))) (x0 : Int) (x1 : ByteArray) (x2 : (List Bool)) : (roundEv (mkE Try.prog ownT (tab21 N) []) Try.f21.ntmps A21 (loopAt (bod Try.f21) 58) 58 ⟨[3, 4, 0], X21_58, tellX I21_58 f O21_58⟩ (J21_58 (x0, x1, x2))).run D21_58 = B21_58 N f (x0, x1, x2) := by kernel_rfl

theorem C21_58_ok (N : Nat) (k : Nat) : ∀ c', At (bod Try.f21) 58 c' → CutOK Try.prog Try.f21.ntmps (idsL A21) c' (C21_58 N k) :=
  loop_ok (E := (mkE Try.prog ownT (tab21 N) [])) (mkE_ok mix (tab21_ok N)) (cutsIn_ok trivial) (fuel := 200) (by decide +kernel) (by kernel_rfl) I21_58_ok D21_58_ok (B21_58 N) (F21_58 N) (fun _ => rfl) (fun _ _ => rfl) (fun f x => match x with | (x0, x1, x2) => B21_58_eq N f x0 x1 x2) k

noncomputable def O21 (r : (List Bool)) : Tr (Pk) := .ret ⟨[.sl 0 (none)], [some (.row (Ty.bool) 4 (r))]⟩

noncomputable def D21 : Pk → Option ((List Bool))
  | ⟨[.sl 0 (none)], [some (.row (Ty.bool) 4 x0)]⟩ => some (x0)
  | _ => none

theorem D21_ok : ∀ y r, D21 y = some r → ∀ z, (O21 r).to z → y = z := by
  intro y r h
  unfold D21 at h
  split at h <;> first | (cases h; intro z hz; exact Option.some.inj hz) | cases h

noncomputable def F21 (N : Nat) : (ByteArray) → Option ((List Bool))
  | x0 =>
  Option.bind (F21_58 N N ((0 : Int), x0, [])) fun y0 =>
  some (y0)

theorem F21_eq (N : Nat) (x0 : ByteArray) : (fnEv (mkE Try.prog ownT (tab21 N) [(58, (C21_58 N N))]) Try.f21 (J21 x0)).run D21 = F21 N x0 := by kernel_rfl

noncomputable def T21 (N : Nat) : Pk → Tr Pk := tell I21 (F21 N) O21

theorem T21_ok (N : Nat) : FOK Try.prog 21 (T21 N) :=
  (tell_ok (E := (mkE Try.prog ownT (tab21 N) [(58, (C21_58 N N))])) (mkE_ok mix (tab21_ok N)) Try.func21 (show Try.f21.body = some (bod Try.f21) by kernel_rfl) (by decide +kernel) (F := F21 N) I21_ok D21_ok (args := A21) (fun _ => by kernel_rfl) (fun _ => by show 1 ≤ Try.f21.ntmps; exact of_decide_eq_true (by kernel_rfl)) (cutsIn_ok ⟨fun c' h => (C21_58_ok N N c' h), trivial⟩) (fun x => match x with | x0 => F21_eq N x0))

/-! ## f62: mirador/miradorref05.Bit -/

noncomputable def I62 : Pk → Option (Int × Int × Int)
  | ⟨[.agg [.v (.int .i64 x0), .v (.int .i64 x1)], .v (.int .i64 x2)], []⟩ => some (x0, x1, x2)
  | _ => none

noncomputable def J62 (x : Int × Int × Int) : Pk := ⟨[.agg [.v (.int .i64 (x.1)), .v (.int .i64 (x.2.1))], .v (.int .i64 (x.2.2))], []⟩

theorem I62_ok : ∀ pk x, I62 pk = some x → pk = J62 x := by
  intro pk x h
  unfold I62 at h
  split at h <;> first | (cases h; rfl) | cases h

noncomputable def A62 : List TV := []

noncomputable def tab62 (N : Nat) : List (Nat × (Pk → Tr Pk)) := [(37, T37 N)]

theorem tab62_ok (N : Nat) : TabOK Try.prog (tab62 N) := ⟨T37_ok N, trivial⟩

noncomputable def O62 (r : Bool) : Tr (Pk) := .ret ⟨[.v (.bool (r))], []⟩

noncomputable def D62 : Pk → Option (Bool)
  | ⟨[.v (.bool x0)], []⟩ => some (x0)
  | _ => none

theorem D62_ok : ∀ y r, D62 y = some r → ∀ z, (O62 r).to z → y = z := by
  intro y r h
  unfold D62 at h
  split at h <;> first | (cases h; intro z hz; exact Option.some.inj hz) | cases h

noncomputable def F62 (N : Nat) : (Int × Int × Int) → Option (Bool)
  | (x0, x1, x2) =>
  Option.bind (F37 N (IntKind.wrap IntKind.i64 (IntKind.wrap IntKind.i64 (x1 - (1 : Int)) - x2))) fun y0 =>
  iteP (decide (y0 = (0 : Int))) (
    none) (
    some (Int.tmod (IntKind.wrap IntKind.i64 (Int.tdiv x0 y0)) (2 : Int) == (1 : Int)))

theorem F62_eq (N : Nat) (x0 : Int) (x1 : Int) (x2 : Int) : (fnEv (mkE Try.prog ownT (tab62 N) []) Try.f62 (J62 (x0, x1, x2))).run D62 = F62 N (x0, x1, x2) := by kernel_rfl

noncomputable def T62 (N : Nat) : Pk → Tr Pk := tell I62 (F62 N) O62

theorem T62_ok (N : Nat) : FOK Try.prog 62 (T62 N) :=
  (tell_ok (E := (mkE Try.prog ownT (tab62 N) [])) (mkE_ok mix (tab62_ok N)) Try.func62 (show Try.f62.body = some (bod Try.f62) by kernel_rfl) (by decide +kernel) (F := F62 N) I62_ok D62_ok (args := A62) (fun _ => by kernel_rfl) (fun _ => by show 2 ≤ Try.f62.ntmps; exact of_decide_eq_true (by kernel_rfl)) (cutsIn_ok trivial) (fun x => match x with | (x0, x1, x2) => F62_eq N x0 x1 x2))

/-! ## f45: mirador/miradorref05.begins -/

noncomputable def I45 : Pk → Option (Int × Int × (List Bool))
  | ⟨[.agg [.v (.int .i64 x0), .v (.int .i64 x1)], .ro .bool x2], []⟩ => some (x0, x1, x2)
  | _ => none

noncomputable def J45 (x : Int × Int × (List Bool)) : Pk := ⟨[.agg [.v (.int .i64 (x.1)), .v (.int .i64 (x.2.1))], .ro .bool (x.2.2)], []⟩

theorem I45_ok : ∀ pk x, I45 pk = some x → pk = J45 x := by
  intro pk x h
  unfold I45 at h
  split at h <;> first | (cases h; rfl) | cases h

noncomputable def A45 : List TV := []

noncomputable def tab45 (N : Nat) : List (Nat × (Pk → Tr Pk)) := [(62, T62 N)]

theorem tab45_ok (N : Nat) : TabOK Try.prog (tab45 N) := ⟨T62_ok N, trivial⟩

def X45_58 : Ex → List Nat
  | .ret => [4]
  | .exit 0 => []
  | _ => []

noncomputable def I45_58 : Pk → Option ((List Bool) × Int × Int × Int)
  | ⟨[.adr 0 [], .ro (Ty.bool) x0, .v (.int .i64 x1)], [some (.var (.agg [.v (.int .i64 x2), .v (.int .i64 x3)]))]⟩ => some (x0, x1, x2, x3)
  | _ => none

noncomputable def J45_58 (x : (List Bool) × Int × Int × Int) : Pk := ⟨[.adr 0 [], .ro (Ty.bool) (x.1), .v (.int .i64 (x.2.1))], [some (.var (.agg [.v (.int .i64 (x.2.2.1)), .v (.int .i64 (x.2.2.2))]))]⟩

theorem I45_58_ok : ∀ pk x, I45_58 pk = some x → pk = J45_58 x := by
  intro pk x h
  unfold I45_58 at h
  split at h <;> first | (cases h; rfl) | cases h

noncomputable def O45_58 (r : ((Bool) ⊕ (Unit))) : Tr (Ex × Pk) := .sum _ _ r (fun u => .ret (.ret, ⟨[.v (.bool (u))], []⟩)) (fun v => .ret (.exit 0, ⟨[], []⟩))

noncomputable def D45_58 : Ex × Pk → Option (((Bool) ⊕ (Unit)))
  | (.ret, ⟨[.v (.bool x0)], []⟩) => some (.inl (x0))
  | (.exit 0, ⟨[], []⟩) => some (.inr (()))
  | _ => none

theorem D45_58_ok : ∀ y r, D45_58 y = some r → ∀ z, (O45_58 r).to z → y = z := by
  intro y r h
  unfold D45_58 at h
  split at h <;> first | (cases h; intro z hz; exact Option.some.inj hz) | cases h

noncomputable def B45_58 (N : Nat) (f : ((List Bool) × Int × Int × Int) → Option (((Bool) ⊕ (Unit)))) : ((List Bool) × Int × Int × Int) → Option (((Bool) ⊕ (Unit)))
  | (x0, x1, x2, x3) =>
  iteP (decide (x1 < (↑(List.length x0) : Int))) (
    Option.bind (F62 N (x2, x3, x1)) fun y0 =>
    iteP (within x1 (List.length x0)) (
      Option.bind (x0[Int.toNat x1]?) fun y1 =>
      iteP (!y0 == y1) (
        some (.inl (false))) (
        Option.bind (f (x0, IntKind.wrap IntKind.i64 (x1 + (1 : Int)), x2, x3)) fun r => match r with | .inl (y) => some (.inl (y)) | .inr (y) => some (.inr (y)))) (
      none)) (
    some (.inr (())))

noncomputable def F45_58 (N : Nat) : Nat → ((List Bool) × Int × Int × Int) → Option (((Bool) ⊕ (Unit)))
  | 0, _ => none
  | k + 1, x => B45_58 N (F45_58 N k) x

noncomputable def C45_58 (N : Nat) (k : Nat) : Cut := ⟨[2, 1, 5], X45_58, tellX I45_58 (F45_58 N k) O45_58⟩

theorem B45_58_eq (N : Nat) (f : ((List Bool) × Int × Int × Int) → Option (((Bool) ⊕ (Unit)))) (x0 : (List Bool)) (x1 : Int) (x2 : Int) (x3 : Int) : (roundEv (mkE Try.prog ownT (tab45 N) []) Try.f45.ntmps A45 (loopAt (bod Try.f45) 58) 58 ⟨[2, 1, 5], X45_58, tellX I45_58 f O45_58⟩ (J45_58 (x0, x1, x2, x3))).run D45_58 = B45_58 N f (x0, x1, x2, x3) := by kernel_rfl

theorem C45_58_ok (N : Nat) (k : Nat) : ∀ c', At (bod Try.f45) 58 c' → CutOK Try.prog Try.f45.ntmps (idsL A45) c' (C45_58 N k) :=
  loop_ok (E := (mkE Try.prog ownT (tab45 N) [])) (mkE_ok mix (tab45_ok N)) (cutsIn_ok trivial) (fuel := 200) (by decide +kernel) (by kernel_rfl) I45_58_ok D45_58_ok (B45_58 N) (F45_58 N) (fun _ => rfl) (fun _ _ => rfl) (fun f x => match x with | (x0, x1, x2, x3) => B45_58_eq N f x0 x1 x2 x3) k

noncomputable def O45 (r : Bool) : Tr (Pk) := .ret ⟨[.v (.bool (r))], []⟩

noncomputable def D45 : Pk → Option (Bool)
  | ⟨[.v (.bool x0)], []⟩ => some (x0)
  | _ => none

theorem D45_ok : ∀ y r, D45 y = some r → ∀ z, (O45 r).to z → y = z := by
  intro y r h
  unfold D45 at h
  split at h <;> first | (cases h; intro z hz; exact Option.some.inj hz) | cases h

noncomputable def F45 (N : Nat) : (Int × Int × (List Bool)) → Option (Bool)
  | (x0, x1, x2) =>
  iteP (decide (x1 < (↑(List.length x2) : Int))) (
    some (false)) (
    Option.bind (F45_58 N N (x2, (0 : Int), x0, x1)) fun y0 =>
    match y0 with
    | .inl y1 =>
      some (y1)
    | .inr y1 =>
      some (true))

theorem F45_eq (N : Nat) (x0 : Int) (x1 : Int) (x2 : (List Bool)) : (fnEv (mkE Try.prog ownT (tab45 N) [(58, (C45_58 N N))]) Try.f45 (J45 (x0, x1, x2))).run D45 = F45 N (x0, x1, x2) := by kernel_rfl

noncomputable def T45 (N : Nat) : Pk → Tr Pk := tell I45 (F45 N) O45

theorem T45_ok (N : Nat) : FOK Try.prog 45 (T45 N) :=
  (tell_ok (E := (mkE Try.prog ownT (tab45 N) [(58, (C45_58 N N))])) (mkE_ok mix (tab45_ok N)) Try.func45 (show Try.f45.body = some (bod Try.f45) by kernel_rfl) (by decide +kernel) (F := F45 N) I45_ok D45_ok (args := A45) (fun _ => by kernel_rfl) (fun _ => by show 2 ≤ Try.f45.ntmps; exact of_decide_eq_true (by kernel_rfl)) (cutsIn_ok ⟨fun c' h => (C45_58_ok N N c' h), trivial⟩) (fun x => match x with | (x0, x1, x2) => F45_eq N x0 x1 x2))


end Go.Proofs.Ytpjkklailofkjaa.Am

set_option linter.unusedVariables false
set_option maxRecDepth 100000
namespace Go.Proofs.Ytpjkklailofkjaa.Am
open Go.Am

/-! ## f24: mirador/miradorref05.Find -/

noncomputable def I24 : Pk → Option ((List (Int × (Int × Unit))) × (List Bool))
  | ⟨[.ro (.cons (.int .i64) (.cons (.int .i64) .unit)) x0, .ro .bool x1], []⟩ => some (x0, x1)
  | _ => none

noncomputable def J24 (x : (List (Int × (Int × Unit))) × (List Bool)) : Pk := ⟨[.ro (.cons (.int .i64) (.cons (.int .i64) .unit)) (x.1), .ro .bool (x.2)], []⟩

theorem I24_ok : ∀ pk x, I24 pk = some x → pk = J24 x := by
  intro pk x h
  unfold I24 at h
  split at h <;> first | (cases h; rfl) | cases h

noncomputable def A24 : List TV := []

noncomputable def tab24 (N : Nat) : List (Nat × (Pk → Tr Pk)) := [(45, T45 N)]

theorem tab24_ok (N : Nat) : TabOK Try.prog (tab24 N) := ⟨T45_ok N, trivial⟩

def X24_58 : Ex → List Nat
  | .ret => [4]
  | .exit 0 => [5]
  | _ => []

noncomputable def I24_58 : Pk → Option (Int × Int × (List Bool) × (List (Int × (Int × Unit))))
  | ⟨[.v (.int .i64 x0), .v (.int .i64 x1), .ro (Ty.bool) x2, .ro (Ty.cons (Ty.int IntKind.i64) (Ty.cons (Ty.int IntKind.i64) Ty.unit)) x3], []⟩ => some (x0, x1, x2, x3)
  | _ => none

noncomputable def J24_58 (x : Int × Int × (List Bool) × (List (Int × (Int × Unit)))) : Pk := ⟨[.v (.int .i64 (x.1)), .v (.int .i64 (x.2.1)), .ro (Ty.bool) (x.2.2.1), .ro (Ty.cons (Ty.int IntKind.i64) (Ty.cons (Ty.int IntKind.i64) Ty.unit)) (x.2.2.2)], []⟩

theorem I24_58_ok : ∀ pk x, I24_58 pk = some x → pk = J24_58 x := by
  intro pk x h
  unfold I24_58 at h
  split at h <;> first | (cases h; rfl) | cases h

noncomputable def O24_58 (r : ((Int) ⊕ (Int))) : Tr (Ex × Pk) := .sum _ _ r (fun u => .ret (.ret, ⟨[.v (.int .i64 (u))], []⟩)) (fun v => .ret (.exit 0, ⟨[.v (.int .i64 (v))], []⟩))

noncomputable def D24_58 : Ex × Pk → Option (((Int) ⊕ (Int)))
  | (.ret, ⟨[.v (.int .i64 x0)], []⟩) => some (.inl (x0))
  | (.exit 0, ⟨[.v (.int .i64 x0)], []⟩) => some (.inr (x0))
  | _ => none

theorem D24_58_ok : ∀ y r, D24_58 y = some r → ∀ z, (O24_58 r).to z → y = z := by
  intro y r h
  unfold D24_58 at h
  split at h <;> first | (cases h; intro z hz; exact Option.some.inj hz) | cases h

noncomputable def B24_58 (N : Nat) (f : (Int × Int × (List Bool) × (List (Int × (Int × Unit)))) → Option (((Int) ⊕ (Int)))) : (Int × Int × (List Bool) × (List (Int × (Int × Unit)))) → Option (((Int) ⊕ (Int)))
  | (x0, x1, x2, x3) =>
  iteP (decide (x0 < (↑(List.length x3) : Int))) (
    iteP (within x0 (List.length x3)) (
      Option.bind (x3[Int.toNat x0]?) fun y0 =>
      iteP (Prod.fst (Prod.snd y0) == (0 : Int)) (
        Option.bind (f (IntKind.wrap IntKind.i64 (x0 + (1 : Int)), x1, x2, x3)) fun r => match r with | .inl (y) => some (.inl (y)) | .inr (y) => some (.inr (y))) (
        iteP (within x0 (List.length x3)) (
          Option.bind (x3[Int.toNat x0]?) fun y1 =>
          Option.bind (F45 N (Prod.fst y1, Prod.fst (Prod.snd y1), x2)) fun y2 =>
          iteP (y2) (
            iteP (within x0 (List.length x3)) (
              Option.bind (x3[Int.toNat x0]?) fun y3 =>
              iteP (Prod.fst (Prod.snd y3) == (↑(List.length x2) : Int)) (
                some (.inl (x0))) (
                iteP (y2) (
                  Option.bind (f (IntKind.wrap IntKind.i64 (x0 + (1 : Int)), (-1 : Int), x2, x3)) fun r => match r with | .inl (y) => some (.inl (y)) | .inr (y) => some (.inr (y))) (
                  Option.bind (f (IntKind.wrap IntKind.i64 (x0 + (1 : Int)), x1, x2, x3)) fun r => match r with | .inl (y) => some (.inl (y)) | .inr (y) => some (.inr (y))))) (
              none)) (
            iteP (y2) (
              Option.bind (f (IntKind.wrap IntKind.i64 (x0 + (1 : Int)), (-1 : Int), x2, x3)) fun r => match r with | .inl (y) => some (.inl (y)) | .inr (y) => some (.inr (y))) (
              Option.bind (f (IntKind.wrap IntKind.i64 (x0 + (1 : Int)), x1, x2, x3)) fun r => match r with | .inl (y) => some (.inl (y)) | .inr (y) => some (.inr (y))))) (
          none))) (
      none)) (
    some (.inr (x1)))

noncomputable def F24_58 (N : Nat) : Nat → (Int × Int × (List Bool) × (List (Int × (Int × Unit)))) → Option (((Int) ⊕ (Int)))
  | 0, _ => none
  | k + 1, x => B24_58 N (F24_58 N k) x

noncomputable def C24_58 (N : Nat) (k : Nat) : Cut := ⟨[6, 5, 1, 0], X24_58, tellX I24_58 (F24_58 N k) O24_58⟩

theorem B24_58_eq (N : Nat) (f : (Int × Int × (List Bool) × (List (Int × (Int × Unit)))) → Option (((Int) ⊕ (Int)))) (x0 : Int) (x1 : Int) (x2 : (List Bool)) (x3 : (List (Int × (Int × Unit)))) : (roundEv (mkE Try.prog ownT (tab24 N) []) Try.f24.ntmps A24 (loopAt (bod Try.f24) 58) 58 ⟨[6, 5, 1, 0], X24_58, tellX I24_58 f O24_58⟩ (J24_58 (x0, x1, x2, x3))).run D24_58 = B24_58 N f (x0, x1, x2, x3) := by kernel_rfl

theorem C24_58_ok (N : Nat) (k : Nat) : ∀ c', At (bod Try.f24) 58 c' → CutOK Try.prog Try.f24.ntmps (idsL A24) c' (C24_58 N k) :=
  loop_ok (E := (mkE Try.prog ownT (tab24 N) [])) (mkE_ok mix (tab24_ok N)) (cutsIn_ok trivial) (fuel := 200) (by decide +kernel) (by kernel_rfl) I24_58_ok D24_58_ok (B24_58 N) (F24_58 N) (fun _ => rfl) (fun _ _ => rfl) (fun f x => match x with | (x0, x1, x2, x3) => B24_58_eq N f x0 x1 x2 x3) k

noncomputable def O24 (r : Int) : Tr (Pk) := .ret ⟨[.v (.int .i64 (r))], []⟩

noncomputable def D24 : Pk → Option (Int)
  | ⟨[.v (.int .i64 x0)], []⟩ => some (x0)
  | _ => none

theorem D24_ok : ∀ y r, D24 y = some r → ∀ z, (O24 r).to z → y = z := by
  intro y r h
  unfold D24 at h
  split at h <;> first | (cases h; intro z hz; exact Option.some.inj hz) | cases h

noncomputable def F24 (N : Nat) : ((List (Int × (Int × Unit))) × (List Bool)) → Option (Int)
  | (x0, x1) =>
  Option.bind (F24_58 N N ((0 : Int), (-2 : Int), x1, x0)) fun y0 =>
  match y0 with
  | .inl y1 =>
    some (y1)
  | .inr y1 =>
    some (y1)

theorem F24_eq (N : Nat) (x0 : (List (Int × (Int × Unit)))) (x1 : (List Bool)) : (fnEv (mkE Try.prog ownT (tab24 N) [(58, (C24_58 N N))]) Try.f24 (J24 (x0, x1))).run D24 = F24 N (x0, x1) := by kernel_rfl

noncomputable def T24 (N : Nat) : Pk → Tr Pk := tell I24 (F24 N) O24

theorem T24_ok (N : Nat) : FOK Try.prog 24 (T24 N) :=
  (tell_ok (E := (mkE Try.prog ownT (tab24 N) [(58, (C24_58 N N))])) (mkE_ok mix (tab24_ok N)) Try.func24 (show Try.f24.body = some (bod Try.f24) by kernel_rfl) (by decide +kernel) (F := F24 N) I24_ok D24_ok (args := A24) (fun _ => by kernel_rfl) (fun _ => by show 2 ≤ Try.f24.ntmps; exact of_decide_eq_true (by kernel_rfl)) (cutsIn_ok ⟨fun c' h => (C24_58_ok N N c' h), trivial⟩) (fun x => match x with | (x0, x1) => F24_eq N x0 x1))

/-! ## f25: (*mirador/bitio.Reader).At -/

noncomputable def I25 : Pk → Option ((ByteArray × (Int × (Int × Unit))))
  | ⟨[.radr (.cons .str (.cons (.int .i64) (.cons (.int .i64) .unit))) [x0] [.i 0 3]], []⟩ => some x0
  | _ => none

noncomputable def J25 (x : (ByteArray × (Int × (Int × Unit)))) : Pk := ⟨[.radr (.cons .str (.cons (.int .i64) (.cons (.int .i64) .unit))) [(x)] [.i 0 3]], []⟩

theorem I25_ok : ∀ pk x, I25 pk = some x → pk = J25 x := by
  intro pk x h
  unfold I25 at h
  split at h <;> first | (cases h; rfl) | cases h

noncomputable def A25 : List TV := []

noncomputable def tab25 (N : Nat) : List (Nat × (Pk → Tr Pk)) := []

theorem tab25_ok (N : Nat) : TabOK Try.prog (tab25 N) := trivial

noncomputable def O25 (r : Int) : Tr (Pk) := .ret ⟨[.v (.int .i64 (r))], []⟩

noncomputable def D25 : Pk → Option (Int)
  | ⟨[.v (.int .i64 x0)], []⟩ => some (x0)
  | _ => none

theorem D25_ok : ∀ y r, D25 y = some r → ∀ z, (O25 r).to z → y = z := by
  intro y r h
  unfold D25 at h
  split at h <;> first | (cases h; intro z hz; exact Option.some.inj hz) | cases h

noncomputable def F25 (N : Nat) : ((ByteArray × (Int × (Int × Unit)))) → Option (Int)
  | x0 =>
  some (Prod.fst (Prod.snd x0))

theorem F25_eq (N : Nat) (x0 : (ByteArray × (Int × (Int × Unit)))) : (fnEv (mkE Try.prog ownT (tab25 N) []) Try.f25 (J25 x0)).run D25 = F25 N x0 := by kernel_rfl

noncomputable def T25 (N : Nat) : Pk → Tr Pk := tell I25 (F25 N) O25

theorem T25_ok (N : Nat) : FOK Try.prog 25 (T25 N) :=
  (tell_ok (E := (mkE Try.prog ownT (tab25 N) [])) (mkE_ok mix (tab25_ok N)) Try.func25 (show Try.f25.body = some (bod Try.f25) by kernel_rfl) (by decide +kernel) (F := F25 N) I25_ok D25_ok (args := A25) (fun _ => by kernel_rfl) (fun _ => by show 1 ≤ Try.f25.ntmps; exact of_decide_eq_true (by kernel_rfl)) (cutsIn_ok trivial) (fun x => match x with | x0 => F25_eq N x0))

/-! ## f8: mirador/miradorlaw05.HuffmanReads -/

noncomputable def I8 : Pk → Option ((List Int) × ByteArray × Int)
  | ⟨[.ro (.int .i64) x0, .v (.string x1), .v (.int .i64 x2)], []⟩ => some (x0, x1, x2)
  | _ => none

noncomputable def J8 (x : (List Int) × ByteArray × Int) : Pk := ⟨[.ro (.int .i64) (x.1), .v (.string (x.2.1)), .v (.int .i64 (x.2.2))], []⟩

theorem I8_ok : ∀ pk x, I8 pk = some x → pk = J8 x := by
  intro pk x h
  unfold I8 at h
  split at h <;> first | (cases h; rfl) | cases h

noncomputable def A8 : List TV := []

noncomputable def tab8 (N : Nat) : List (Nat × (Pk → Tr Pk)) := [(11, T11 N), (20, T20 N), (13, T13 N), (16, T16 N), (21, T21 N), (22, T22 N), (23, T23 N), (24, T24 N), (25, T25 N)]

theorem tab8_ok (N : Nat) : TabOK Try.prog (tab8 N) := ⟨T11_ok N, ⟨T20_ok N, ⟨T13_ok N, ⟨T16_ok N, ⟨T21_ok N, ⟨T22_ok N, ⟨T23_ok N, ⟨T24_ok N, ⟨T25_ok N, trivial⟩⟩⟩⟩⟩⟩⟩⟩⟩

def X8_33551516 : Ex → List Nat
  | .ret => [6]
  | .exit 2 => [19, 13, 12, 15, 8, 2, 16, 20, 7, 17, 18]
  | .exit 1 => [16, 7, 2, 8, 15, 12, 13, 14]
  | .exit 0 => [7]
  | _ => []

def X8_65530 : Ex → List Nat
  | .ret => [6]
  | .exit 0 => [7]
  | _ => []

noncomputable def I8_65530 : Pk → Option (Bool × Int × Int × Int × ByteArray × Int × Int × (List (Int × (Int × Unit))) × (List Bool))
  | ⟨[.v (.bool x0), .v (.int .i64 x1), .v (.int .i64 x2), .v ((Value.pointer none)), .adr 0 [], .sl 1 (none), .sl 2 (none), .v (.int .i64 x3)], [some (.var (.agg [.v (.string x4), .v (.int .i64 x5), .v (.int .i64 x6)])), some (.row (Ty.cons (Ty.int IntKind.i64) (Ty.cons (Ty.int IntKind.i64) Ty.unit)) 34 x7), some (.row (Ty.bool) 4 x8)]⟩ => some (x0, x1, x2, x3, x4, x5, x6, x7, x8)
  | _ => none

noncomputable def J8_65530 (x : Bool × Int × Int × Int × ByteArray × Int × Int × (List (Int × (Int × Unit))) × (List Bool)) : Pk := ⟨[.v (.bool (x.1)), .v (.int .i64 (x.2.1)), .v (.int .i64 (x.2.2.1)), .v ((Value.pointer none)), .adr 0 [], .sl 1 (none), .sl 2 (none), .v (.int .i64 (x.2.2.2.1))], [some (.var (.agg [.v (.string (x.2.2.2.2.1)), .v (.int .i64 (x.2.2.2.2.2.1)), .v (.int .i64 (x.2.2.2.2.2.2.1))])), some (.row (Ty.cons (Ty.int IntKind.i64) (Ty.cons (Ty.int IntKind.i64) Ty.unit)) 34 (x.2.2.2.2.2.2.2.1)), some (.row (Ty.bool) 4 (x.2.2.2.2.2.2.2.2))]⟩

theorem I8_65530_ok : ∀ pk x, I8_65530 pk = some x → pk = J8_65530 x := by
  intro pk x h
  unfold I8_65530 at h
  split at h <;> first | (cases h; rfl) | cases h

noncomputable def O8_65530 (r : Bool) : Tr (Ex × Pk) := .ret (.exit 0, ⟨[.v (.bool (r))], []⟩)

noncomputable def D8_65530 : Ex × Pk → Option (Bool)
  | (.exit 0, ⟨[.v (.bool x0)], []⟩) => some (x0)
  | _ => none

theorem D8_65530_ok : ∀ y r, D8_65530 y = some r → ∀ z, (O8_65530 r).to z → y = z := by
  intro y r h
  unfold D8_65530 at h
  split at h <;> first | (cases h; intro z hz; exact Option.some.inj hz) | cases h

noncomputable def B8_65530 (N : Nat) (f : (Bool × Int × Int × Int × ByteArray × Int × Int × (List (Int × (Int × Unit))) × (List Bool)) → Option (Bool)) : (Bool × Int × Int × Int × ByteArray × Int × Int × (List (Int × (Int × Unit))) × (List Bool)) → Option (Bool)
  | (x0, x1, x2, x3, x4, x5, x6, x7, x8) =>
  iteP (decide (x1 < x2)) (
    none) (
    some (x0))

noncomputable def F8_65530 (N : Nat) : Nat → (Bool × Int × Int × Int × ByteArray × Int × Int × (List (Int × (Int × Unit))) × (List Bool)) → Option (Bool)
  | 0, _ => none
  | k + 1, x => B8_65530 N (F8_65530 N k) x

noncomputable def C8_65530 (N : Nat) (k : Nat) : Cut := ⟨[7, 16, 2, 8, 15, 12, 13, 14], X8_65530, tellX I8_65530 (F8_65530 N k) O8_65530⟩

theorem B8_65530_eq (N : Nat) (f : (Bool × Int × Int × Int × ByteArray × Int × Int × (List (Int × (Int × Unit))) × (List Bool)) → Option (Bool)) (x0 : Bool) (x1 : Int) (x2 : Int) (x3 : Int) (x4 : ByteArray) (x5 : Int) (x6 : Int) (x7 : (List (Int × (Int × Unit)))) (x8 : (List Bool)) : (roundEv (mkE Try.prog ownT (tab8 N) []) Try.f8.ntmps A8 (loopAt (bod Try.f8) 65530) 65530 ⟨[7, 16, 2, 8, 15, 12, 13, 14], X8_65530, tellX I8_65530 f O8_65530⟩ (J8_65530 (x0, x1, x2, x3, x4, x5, x6, x7, x8))).run D8_65530 = B8_65530 N f (x0, x1, x2, x3, x4, x5, x6, x7, x8) := by kernel_rfl

theorem C8_65530_ok (N : Nat) (k : Nat) : ∀ c', At (bod Try.f8) 65530 c' → CutOK Try.prog Try.f8.ntmps (idsL A8) c' (C8_65530 N k) :=
  loop_ok (E := (mkE Try.prog ownT (tab8 N) [])) (mkE_ok mix (tab8_ok N)) (cutsIn_ok trivial) (fuel := 200) (by decide +kernel) (by kernel_rfl) I8_65530_ok D8_65530_ok (B8_65530 N) (F8_65530 N) (fun _ => rfl) (fun _ _ => rfl) (fun f x => match x with | (x0, x1, x2, x3, x4, x5, x6, x7, x8) => B8_65530_eq N f x0 x1 x2 x3 x4 x5 x6 x7 x8) k

noncomputable def I8_65530b : Pk → Option (Bool × Int × Int × Int × (List Int) × Int × ByteArray × Int × Int × (List (Int × (Int × Unit))) × (List Bool) × (List Int))
  | ⟨[.v (.bool x0), .v (.int .i64 x1), .v (.int .i64 x2), .adr 0 [], .adr 1 [], .sl 2 (none), .sl 3 (none), .v (.int .i64 x3)], [some (.var (.agg [.arr (Ty.int IntKind.i64) 16 x4, .sl 4 (none), .v (.int .i64 x5)])), some (.var (.agg [.v (.string x6), .v (.int .i64 x7), .v (.int .i64 x8)])), some (.row (Ty.cons (Ty.int IntKind.i64) (Ty.cons (Ty.int IntKind.i64) Ty.unit)) 34 x9), some (.row (Ty.bool) 4 x10), some (.row (Ty.int IntKind.i64) 3 x11)]⟩ => some (x0, x1, x2, x3, x4, x5, x6, x7, x8, x9, x10, x11)
  | _ => none

noncomputable def J8_65530b (x : Bool × Int × Int × Int × (List Int) × Int × ByteArray × Int × Int × (List (Int × (Int × Unit))) × (List Bool) × (List Int)) : Pk := ⟨[.v (.bool (x.1)), .v (.int .i64 (x.2.1)), .v (.int .i64 (x.2.2.1)), .adr 0 [], .adr 1 [], .sl 2 (none), .sl 3 (none), .v (.int .i64 (x.2.2.2.1))], [some (.var (.agg [.arr (Ty.int IntKind.i64) 16 (x.2.2.2.2.1), .sl 4 (none), .v (.int .i64 (x.2.2.2.2.2.1))])), some (.var (.agg [.v (.string (x.2.2.2.2.2.2.1)), .v (.int .i64 (x.2.2.2.2.2.2.2.1)), .v (.int .i64 (x.2.2.2.2.2.2.2.2.1))])), some (.row (Ty.cons (Ty.int IntKind.i64) (Ty.cons (Ty.int IntKind.i64) Ty.unit)) 34 (x.2.2.2.2.2.2.2.2.2.1)), some (.row (Ty.bool) 4 (x.2.2.2.2.2.2.2.2.2.2.1)), some (.row (Ty.int IntKind.i64) 3 (x.2.2.2.2.2.2.2.2.2.2.2))]⟩

theorem I8_65530b_ok : ∀ pk x, I8_65530b pk = some x → pk = J8_65530b x := by
  intro pk x h
  unfold I8_65530b at h
  split at h <;> first | (cases h; rfl) | cases h

noncomputable def I8_33551516 : Pk → Option (Int × Int × Int × Int × Bool × Int × Int × Int × (List Int) × Int × ByteArray × Int × Int × (List (Int × (Int × Unit))) × (List Bool) × (List Int))
  | ⟨[.v (.int .i64 x0), .v (.int .i64 x1), .v (.int .i64 x2), .v (.int .i64 x3), .v (.bool x4), .v (.int .i64 x5), .v (.int .i64 x6), .adr 0 [], .adr 1 [], .sl 2 (none), .sl 3 (none), .v (.int .i64 x7)], [some (.var (.agg [.arr (Ty.int IntKind.i64) 16 x8, .sl 4 (none), .v (.int .i64 x9)])), some (.var (.agg [.v (.string x10), .v (.int .i64 x11), .v (.int .i64 x12)])), some (.row (Ty.cons (Ty.int IntKind.i64) (Ty.cons (Ty.int IntKind.i64) Ty.unit)) 34 x13), some (.row (Ty.bool) 4 x14), some (.row (Ty.int IntKind.i64) 3 x15)]⟩ => some (x0, x1, x2, x3, x4, x5, x6, x7, x8, x9, x10, x11, x12, x13, x14, x15)
  | _ => none

noncomputable def J8_33551516 (x : Int × Int × Int × Int × Bool × Int × Int × Int × (List Int) × Int × ByteArray × Int × Int × (List (Int × (Int × Unit))) × (List Bool) × (List Int)) : Pk := ⟨[.v (.int .i64 (x.1)), .v (.int .i64 (x.2.1)), .v (.int .i64 (x.2.2.1)), .v (.int .i64 (x.2.2.2.1)), .v (.bool (x.2.2.2.2.1)), .v (.int .i64 (x.2.2.2.2.2.1)), .v (.int .i64 (x.2.2.2.2.2.2.1)), .adr 0 [], .adr 1 [], .sl 2 (none), .sl 3 (none), .v (.int .i64 (x.2.2.2.2.2.2.2.1))], [some (.var (.agg [.arr (Ty.int IntKind.i64) 16 (x.2.2.2.2.2.2.2.2.1), .sl 4 (none), .v (.int .i64 (x.2.2.2.2.2.2.2.2.2.1))])), some (.var (.agg [.v (.string (x.2.2.2.2.2.2.2.2.2.2.1)), .v (.int .i64 (x.2.2.2.2.2.2.2.2.2.2.2.1)), .v (.int .i64 (x.2.2.2.2.2.2.2.2.2.2.2.2.1))])), some (.row (Ty.cons (Ty.int IntKind.i64) (Ty.cons (Ty.int IntKind.i64) Ty.unit)) 34 (x.2.2.2.2.2.2.2.2.2.2.2.2.2.1)), some (.row (Ty.bool) 4 (x.2.2.2.2.2.2.2.2.2.2.2.2.2.2.1)), some (.row (Ty.int IntKind.i64) 3 (x.2.2.2.2.2.2.2.2.2.2.2.2.2.2.2))]⟩

theorem I8_33551516_ok : ∀ pk x, I8_33551516 pk = some x → pk = J8_33551516 x := by
  intro pk x h
  unfold I8_33551516 at h
  split at h <;> first | (cases h; rfl) | cases h

noncomputable def O8_33551516 (r : Int × Int × Int × Int × Bool × Int × Int × (List Bool) × (List (Int × (Int × Unit))) × ByteArray × Int × Int × (List Int) × Int × (List Int)) : Tr (Ex × Pk) := .ret (.exit 2, ⟨[.v (.int .i64 (r.1)), .sl 0 (none), .sl 1 (none), .adr 2 [], .adr 3 [], .v (.int .i64 (r.2.1)), .v (.int .i64 (r.2.2.1)), .v (.int .i64 (r.2.2.2.1)), .v (.bool (r.2.2.2.2.1)), .v (.int .i64 (r.2.2.2.2.2.1)), .v (.int .i64 (r.2.2.2.2.2.2.1))], [some (.row (Ty.bool) 4 (r.2.2.2.2.2.2.2.1)), some (.row (Ty.cons (Ty.int IntKind.i64) (Ty.cons (Ty.int IntKind.i64) Ty.unit)) 34 (r.2.2.2.2.2.2.2.2.1)), some (.var (.agg [.v (.string (r.2.2.2.2.2.2.2.2.2.1)), .v (.int .i64 (r.2.2.2.2.2.2.2.2.2.2.1)), .v (.int .i64 (r.2.2.2.2.2.2.2.2.2.2.2.1))])), some (.var (.agg [.arr (Ty.int IntKind.i64) 16 (r.2.2.2.2.2.2.2.2.2.2.2.2.1), .sl 4 (none), .v (.int .i64 (r.2.2.2.2.2.2.2.2.2.2.2.2.2.1))])), some (.row (Ty.int IntKind.i64) 3 (r.2.2.2.2.2.2.2.2.2.2.2.2.2.2))]⟩)

noncomputable def D8_33551516 : Ex × Pk → Option (Int × Int × Int × Int × Bool × Int × Int × (List Bool) × (List (Int × (Int × Unit))) × ByteArray × Int × Int × (List Int) × Int × (List Int))
  | (.exit 2, ⟨[.v (.int .i64 x0), .sl 0 (none), .sl 1 (none), .adr 2 [], .adr 3 [], .v (.int .i64 x1), .v (.int .i64 x2), .v (.int .i64 x3), .v (.bool x4), .v (.int .i64 x5), .v (.int .i64 x6)], [some (.row (Ty.bool) 4 x7), some (.row (Ty.cons (Ty.int IntKind.i64) (Ty.cons (Ty.int IntKind.i64) Ty.unit)) 34 x8), some (.var (.agg [.v (.string x9), .v (.int .i64 x10), .v (.int .i64 x11)])), some (.var (.agg [.arr (Ty.int IntKind.i64) 16 x12, .sl 4 (none), .v (.int .i64 x13)])), some (.row (Ty.int IntKind.i64) 3 x14)]⟩) => some ((x0, x1, x2, x3, x4, x5, x6, x7, x8, x9, x10, x11, x12, x13, x14))
  | _ => none

theorem D8_33551516_ok : ∀ y r, D8_33551516 y = some r → ∀ z, (O8_33551516 r).to z → y = z := by
  intro y r h
  unfold D8_33551516 at h
  split at h <;> first | (cases h; intro z hz; exact Option.some.inj hz) | cases h

noncomputable def B8_33551516 (N : Nat) (f : (Int × Int × Int × Int × Bool × Int × Int × Int × (List Int) × Int × ByteArray × Int × Int × (List (Int × (Int × Unit))) × (List Bool) × (List Int)) → Option (Int × Int × Int × Int × Bool × Int × Int × (List Bool) × (List (Int × (Int × Unit))) × ByteArray × Int × Int × (List Int) × Int × (List Int))) : (Int × Int × Int × Int × Bool × Int × Int × Int × (List Int) × Int × ByteArray × Int × Int × (List (Int × (Int × Unit))) × (List Bool) × (List Int)) → Option (Int × Int × Int × Int × Bool × Int × Int × (List Bool) × (List (Int × (Int × Unit))) × ByteArray × Int × Int × (List Int) × Int × (List Int))
  | (x0, x1, x2, x3, x4, x5, x6, x7, x8, x9, x10, x11, x12, x13, x14, x15) =>
  iteP (x0 == (-1 : Int)) (
    iteP (decide (x1 < (↑(List.length x14) : Int))) (
      iteP (decide ((0 : Int) ≤ IntKind.wrap IntKind.i64 (x1 + (1 : Int)) ∧ IntKind.wrap IntKind.i64 (x1 + (1 : Int)) ≤ (↑(List.length x14) : Int))) (
        iteP (decide ((0 : Int) ≤ x7 ∧ x7 ≤ (↑(Int.toNat (IntKind.wrap IntKind.i64 (x1 + (1 : Int)))) : Int))) (
          Option.bind (F24 N (x13, List.take (Int.toNat (IntKind.wrap IntKind.i64 (x1 + (1 : Int))) - Int.toNat x7) (List.drop (Int.toNat x7) x14))) fun y0 =>
          Option.bind (f (y0, IntKind.wrap IntKind.i64 (x1 + (1 : Int)), x2, x3, x4, x5, x6, x7, x8, x9, x10, x11, x12, x13, x14, x15)) fun r => some r) (
          none)) (
        none)) (
      some ((x0, x6, x5, x1, x4, x3, x2, x14, x13, x10, x11, x12, x8, x9, x15)))) (
    some ((x0, x6, x5, x1, x4, x3, x2, x14, x13, x10, x11, x12, x8, x9, x15)))

noncomputable def F8_33551516 (N : Nat) : Nat → (Int × Int × Int × Int × Bool × Int × Int × Int × (List Int) × Int × ByteArray × Int × Int × (List (Int × (Int × Unit))) × (List Bool) × (List Int)) → Option (Int × Int × Int × Int × Bool × Int × Int × (List Bool) × (List (Int × (Int × Unit))) × ByteArray × Int × Int × (List Int) × Int × (List Int))
  | 0, _ => none
  | k + 1, x => B8_33551516 N (F8_33551516 N k) x

noncomputable def C8_33551516 (N : Nat) (k : Nat) : Cut := ⟨[19, 20, 18, 17, 7, 16, 2, 8, 15, 12, 13, 14], X8_33551516, tellX I8_33551516 (F8_33551516 N k) O8_33551516⟩

theorem B8_33551516_eq (N : Nat) (f : (Int × Int × Int × Int × Bool × Int × Int × Int × (List Int) × Int × ByteArray × Int × Int × (List (Int × (Int × Unit))) × (List Bool) × (List Int)) → Option (Int × Int × Int × Int × Bool × Int × Int × (List Bool) × (List (Int × (Int × Unit))) × ByteArray × Int × Int × (List Int) × Int × (List Int))) (x0 : Int) (x1 : Int) (x2 : Int) (x3 : Int) (x4 : Bool) (x5 : Int) (x6 : Int) (x7 : Int) (x8 : (List Int)) (x9 : Int) (x10 : ByteArray) (x11 : Int) (x12 : Int) (x13 : (List (Int × (Int × Unit)))) (x14 : (List Bool)) (x15 : (List Int)) : (roundEv (mkE Try.prog ownT (tab8 N) [(65530, (C8_65530 N N))]) Try.f8.ntmps A8 (loopAt (bod Try.f8) 33551516) 33551516 ⟨[19, 20, 18, 17, 7, 16, 2, 8, 15, 12, 13, 14], X8_33551516, tellX I8_33551516 f O8_33551516⟩ (J8_33551516 (x0, x1, x2, x3, x4, x5, x6, x7, x8, x9, x10, x11, x12, x13, x14, x15))).run D8_33551516 = B8_33551516 N f (x0, x1, x2, x3, x4, x5, x6, x7, x8, x9, x10, x11, x12, x13, x14, x15) := by kernel_rfl

theorem C8_33551516_ok (N : Nat) (k : Nat) : ∀ c', At (bod Try.f8) 33551516 c' → CutOK Try.prog Try.f8.ntmps (idsL A8) c' (C8_33551516 N k) :=
  loop_ok (E := (mkE Try.prog ownT (tab8 N) [(65530, (C8_65530 N N))])) (mkE_ok mix (tab8_ok N)) (cutsIn_ok ⟨fun c' h => (C8_65530_ok N N c' h), trivial⟩) (fuel := 200) (by decide +kernel) (by kernel_rfl) I8_33551516_ok D8_33551516_ok (B8_33551516 N) (F8_33551516 N) (fun _ => rfl) (fun _ _ => rfl) (fun f x => match x with | (x0, x1, x2, x3, x4, x5, x6, x7, x8, x9, x10, x11, x12, x13, x14, x15) => B8_33551516_eq N f x0 x1 x2 x3 x4 x5 x6 x7 x8 x9 x10 x11 x12 x13 x14 x15) k

noncomputable def O8_65530b (r : ((Bool) ⊕ (Bool))) : Tr (Ex × Pk) := .sum _ _ r (fun u => .ret (.ret, ⟨[.v (.bool (u))], []⟩)) (fun v => .ret (.exit 0, ⟨[.v (.bool (v))], []⟩))

noncomputable def D8_65530b : Ex × Pk → Option (((Bool) ⊕ (Bool)))
  | (.ret, ⟨[.v (.bool x0)], []⟩) => some (.inl (x0))
  | (.exit 0, ⟨[.v (.bool x0)], []⟩) => some (.inr (x0))
  | _ => none

theorem D8_65530b_ok : ∀ y r, D8_65530b y = some r → ∀ z, (O8_65530b r).to z → y = z := by
  intro y r h
  unfold D8_65530b at h
  split at h <;> first | (cases h; intro z hz; exact Option.some.inj hz) | cases h

noncomputable def B8_65530b (N : Nat) (f : (Bool × Int × Int × Int × (List Int) × Int × ByteArray × Int × Int × (List (Int × (Int × Unit))) × (List Bool) × (List Int)) → Option (((Bool) ⊕ (Bool)))) : (Bool × Int × Int × Int × (List Int) × Int × ByteArray × Int × Int × (List (Int × (Int × Unit))) × (List Bool) × (List Int)) → Option (((Bool) ⊕ (Bool)))
  | (x0, x1, x2, x3, x4, x5, x6, x7, x8, x9, x10, x11) =>
  iteP (decide (x1 < x2)) (
    Option.bind (F23 N (x4, x5, x6, x7, x8, x11)) fun y0 =>
    Option.bind (F24 N (x9, [])) fun y1 =>
    Option.bind (F8_33551516 N N (y1, x3, Prod.fst (Prod.snd y0), Prod.fst y0, x0, x1, x2, x3, Prod.fst (Prod.snd (Prod.snd y0)), Prod.fst (Prod.snd (Prod.snd (Prod.snd y0))), Prod.fst (Prod.snd (Prod.snd (Prod.snd (Prod.snd y0)))), Prod.fst (Prod.snd (Prod.snd (Prod.snd (Prod.snd (Prod.snd y0))))), Prod.fst (Prod.snd (Prod.snd (Prod.snd (Prod.snd (Prod.snd (Prod.snd y0)))))), x9, x10, Prod.snd (Prod.snd (Prod.snd (Prod.snd (Prod.snd (Prod.snd (Prod.snd y0)))))))) fun y2 =>
    iteP (Prod.fst y2 == (-1 : Int)) (
      iteP (Prod.fst (Prod.snd (Prod.snd (Prod.snd (Prod.snd y2))))) (
        iteP (Prod.fst (Prod.snd (Prod.snd (Prod.snd (Prod.snd (Prod.snd y2))))) == (0 : Int)) (
          some (.inl (Prod.fst (Prod.snd (Prod.snd (Prod.snd (Prod.snd (Prod.snd (Prod.snd y2)))))) == (2 : Int)))) (
          some (.inl (false)))) (
        some (.inl (false)))) (
      iteP (Prod.fst y2 == (-2 : Int)) (
        iteP (Prod.fst (Prod.snd (Prod.snd (Prod.snd (Prod.snd y2))))) (
          iteP (Prod.fst (Prod.snd (Prod.snd (Prod.snd (Prod.snd (Prod.snd y2))))) == (0 : Int)) (
            some (.inl (Prod.fst (Prod.snd (Prod.snd (Prod.snd (Prod.snd (Prod.snd (Prod.snd y2)))))) == (3 : Int)))) (
            some (.inl (false)))) (
          some (.inl (false)))) (
        iteP (Prod.fst (Prod.snd (Prod.snd (Prod.snd (Prod.snd (Prod.snd y2))))) != Prod.fst y2) (
          some (.inl (false))) (
          iteP (Prod.fst (Prod.snd (Prod.snd (Prod.snd (Prod.snd (Prod.snd (Prod.snd y2)))))) != (0 : Int)) (
            some (.inl (false))) (
            Option.bind (F25 N (Prod.fst (Prod.snd (Prod.snd (Prod.snd (Prod.snd (Prod.snd (Prod.snd (Prod.snd (Prod.snd (Prod.snd y2))))))))), Prod.fst (Prod.snd (Prod.snd (Prod.snd (Prod.snd (Prod.snd (Prod.snd (Prod.snd (Prod.snd (Prod.snd (Prod.snd y2)))))))))), Prod.fst (Prod.snd (Prod.snd (Prod.snd (Prod.snd (Prod.snd (Prod.snd (Prod.snd (Prod.snd (Prod.snd (Prod.snd (Prod.snd y2))))))))))), ())) fun y3 =>
            iteP (y3 != Prod.fst (Prod.snd (Prod.snd (Prod.snd y2)))) (
              some (.inl (false))) (
              Option.bind (f (Prod.fst (Prod.snd (Prod.snd (Prod.snd (Prod.snd y2)))), IntKind.wrap IntKind.i64 (Prod.fst (Prod.snd (Prod.snd y2)) + (1 : Int)), Prod.fst (Prod.snd y2), Prod.fst (Prod.snd (Prod.snd (Prod.snd y2))), Prod.fst (Prod.snd (Prod.snd (Prod.snd (Prod.snd (Prod.snd (Prod.snd (Prod.snd (Prod.snd (Prod.snd (Prod.snd (Prod.snd (Prod.snd y2)))))))))))), Prod.fst (Prod.snd (Prod.snd (Prod.snd (Prod.snd (Prod.snd (Prod.snd (Prod.snd (Prod.snd (Prod.snd (Prod.snd (Prod.snd (Prod.snd (Prod.snd y2))))))))))))), Prod.fst (Prod.snd (Prod.snd (Prod.snd (Prod.snd (Prod.snd (Prod.snd (Prod.snd (Prod.snd (Prod.snd y2))))))))), Prod.fst (Prod.snd (Prod.snd (Prod.snd (Prod.snd (Prod.snd (Prod.snd (Prod.snd (Prod.snd (Prod.snd (Prod.snd y2)))))))))), Prod.fst (Prod.snd (Prod.snd (Prod.snd (Prod.snd (Prod.snd (Prod.snd (Prod.snd (Prod.snd (Prod.snd (Prod.snd (Prod.snd y2))))))))))), Prod.fst (Prod.snd (Prod.snd (Prod.snd (Prod.snd (Prod.snd (Prod.snd (Prod.snd (Prod.snd y2)))))))), Prod.fst (Prod.snd (Prod.snd (Prod.snd (Prod.snd (Prod.snd (Prod.snd (Prod.snd y2))))))), Prod.snd (Prod.snd (Prod.snd (Prod.snd (Prod.snd (Prod.snd (Prod.snd (Prod.snd (Prod.snd (Prod.snd (Prod.snd (Prod.snd (Prod.snd (Prod.snd y2))))))))))))))) fun r => match r with | .inl (y) => some (.inl (y)) | .inr (y) => some (.inr (y)))))))) (
    some (.inr (x0)))

noncomputable def F8_65530b (N : Nat) : Nat → (Bool × Int × Int × Int × (List Int) × Int × ByteArray × Int × Int × (List (Int × (Int × Unit))) × (List Bool) × (List Int)) → Option (((Bool) ⊕ (Bool)))
  | 0, _ => none
  | k + 1, x => B8_65530b N (F8_65530b N k) x

noncomputable def C8_65530b (N : Nat) (k : Nat) : Cut := ⟨[7, 16, 2, 8, 15, 12, 13, 14], X8_65530, tellX I8_65530b (F8_65530b N k) O8_65530b⟩

theorem B8_65530b_eq (N : Nat) (f : (Bool × Int × Int × Int × (List Int) × Int × ByteArray × Int × Int × (List (Int × (Int × Unit))) × (List Bool) × (List Int)) → Option (((Bool) ⊕ (Bool)))) (x0 : Bool) (x1 : Int) (x2 : Int) (x3 : Int) (x4 : (List Int)) (x5 : Int) (x6 : ByteArray) (x7 : Int) (x8 : Int) (x9 : (List (Int × (Int × Unit)))) (x10 : (List Bool)) (x11 : (List Int)) : (roundEv (mkE Try.prog ownT (tab8 N) [(65530, (C8_65530 N N)), (33551516, (C8_33551516 N N))]) Try.f8.ntmps A8 (loopAt (bod Try.f8) 65530) 65530 ⟨[7, 16, 2, 8, 15, 12, 13, 14], X8_65530, tellX I8_65530b f O8_65530b⟩ (J8_65530b (x0, x1, x2, x3, x4, x5, x6, x7, x8, x9, x10, x11))).run D8_65530b = B8_65530b N f (x0, x1, x2, x3, x4, x5, x6, x7, x8, x9, x10, x11) := by kernel_rfl

theorem C8_65530b_ok (N : Nat) (k : Nat) : ∀ c', At (bod Try.f8) 65530 c' → CutOK Try.prog Try.f8.ntmps (idsL A8) c' (C8_65530b N k) :=
  loop_ok (E := (mkE Try.prog ownT (tab8 N) [(65530, (C8_65530 N N)), (33551516, (C8_33551516 N N))])) (mkE_ok mix (tab8_ok N)) (cutsIn_ok ⟨fun c' h => (C8_65530_ok N N c' h), ⟨fun c' h => (C8_33551516_ok N N c' h), trivial⟩⟩) (fuel := 200) (by decide +kernel) (by kernel_rfl) I8_65530b_ok D8_65530b_ok (B8_65530b N) (F8_65530b N) (fun _ => rfl) (fun _ _ => rfl) (fun f x => match x with | (x0, x1, x2, x3, x4, x5, x6, x7, x8, x9, x10, x11) => B8_65530b_eq N f x0 x1 x2 x3 x4 x5 x6 x7 x8 x9 x10 x11) k

noncomputable def O8 (r : Bool) : Tr (Pk) := .ret ⟨[.v (.bool (r))], []⟩

noncomputable def D8 : Pk → Option (Bool)
  | ⟨[.v (.bool x0)], []⟩ => some (x0)
  | _ => none

theorem D8_ok : ∀ y r, D8 y = some r → ∀ z, (O8 r).to z → y = z := by
  intro y r h
  unfold D8 at h
  split at h <;> first | (cases h; intro z hz; exact Option.some.inj hz) | cases h

noncomputable def F8 (N : Nat) : ((List Int) × ByteArray × Int) → Option (Bool)
  | (x0, x1, x2) =>
  Option.bind (F11 N ()) fun y0 =>
  iteP (!y0) (
    some (false)) (
    iteP (decide ((↑(List.length x0) : Int) > (340 : Int))) (
      some (y0)) (
      iteP (decide ((↑(ByteArray.size x1) : Int) > (40 : Int))) (
        some (y0)) (
        iteP (decide (x2 > (60 : Int))) (
          some (y0)) (
          Option.bind (F20 N x0) fun y1 =>
          match y1 with
          | .inl y2 =>
            Option.bind (F13 N x0) fun y3 =>
            iteP (y2 != Prod.snd y3) (
              some (false)) (
              iteP (!true == (Prod.snd y3 != (0 : Int))) (
                some (false)) (
                iteP (Prod.snd y3 != (0 : Int)) (
                  some (y0)) (
                  Option.bind (F16 N x0) fun y4 =>
                  Option.bind (F21 N x1) fun y5 =>
                  Option.bind (F22 N x1) fun y6 =>
                  Option.bind (F8_65530 N N (y0, (0 : Int), x2, (0 : Int), Prod.fst y6, Prod.fst (Prod.snd y6), Prod.snd (Prod.snd y6), y4, y5)) fun y7 =>
                  some (y7))))
          | .inr y2 =>
            Option.bind (F13 N x0) fun y8 =>
            iteP (Prod.fst y2 != Prod.snd y8) (
              some (false)) (
              iteP (!false == (Prod.snd y8 != (0 : Int))) (
                some (false)) (
                iteP (Prod.snd y8 != (0 : Int)) (
                  some (y0)) (
                  Option.bind (F16 N x0) fun y9 =>
                  Option.bind (F21 N x1) fun y10 =>
                  Option.bind (F22 N x1) fun y11 =>
                  Option.bind (F8_65530b N N (y0, (0 : Int), x2, (0 : Int), Prod.fst (Prod.snd y2), Prod.fst (Prod.snd (Prod.snd y2)), Prod.fst y11, Prod.fst (Prod.snd y11), Prod.snd (Prod.snd y11), y9, y10, Prod.snd (Prod.snd (Prod.snd y2)))) fun y12 =>
                  match y12 with
                  | .inl y13 =>
                    some (y13)
                  | .inr y13 =>
                    some (y13))))))))

theorem F8_eq (N : Nat) (x0 : (List Int)) (x1 : ByteArray) (x2 : Int) : (fnEv (mkE Try.prog ownT (tab8 N) [(65530, (orC I8_65530 (C8_65530 N N) (C8_65530b N N))), (33551516, (C8_33551516 N N))]) Try.f8 (J8 (x0, x1, x2))).run D8 = F8 N (x0, x1, x2) := by kernel_rfl

noncomputable def T8 (N : Nat) : Pk → Tr Pk := tell I8 (F8 N) O8

theorem T8_ok (N : Nat) : FOK Try.prog 8 (T8 N) :=
  (tell_ok (E := (mkE Try.prog ownT (tab8 N) [(65530, (orC I8_65530 (C8_65530 N N) (C8_65530b N N))), (33551516, (C8_33551516 N N))])) (mkE_ok mix (tab8_ok N)) Try.func8 (show Try.f8.body = some (bod Try.f8) by kernel_rfl) (by decide +kernel) (F := F8 N) I8_ok D8_ok (args := A8) (fun _ => by kernel_rfl) (fun _ => by show 3 ≤ Try.f8.ntmps; exact of_decide_eq_true (by kernel_rfl)) (cutsIn_ok ⟨fun c' h => (orC_ok (C8_65530_ok N N c' h) (C8_65530b_ok N N c' h) rfl rfl), ⟨fun c' h => (C8_33551516_ok N N c' h), trivial⟩⟩) (fun x => match x with | (x0, x1, x2) => F8_eq N x0 x1 x2))

/-! ## f63: mirador/bitio.low -/

noncomputable def I63 : Pk → Option (Int × Int)
  | ⟨[.v (.int .i64 x0), .v (.int .i64 x1)], []⟩ => some (x0, x1)
  | _ => none

noncomputable def J63 (x : Int × Int) : Pk := ⟨[.v (.int .i64 (x.1)), .v (.int .i64 (x.2))], []⟩

theorem I63_ok : ∀ pk x, I63 pk = some x → pk = J63 x := by
  intro pk x h
  unfold I63 at h
  split at h <;> first | (cases h; rfl) | cases h

noncomputable def A63 : List TV := []

noncomputable def tab63 (N : Nat) : List (Nat × (Pk → Tr Pk)) := []

theorem tab63_ok (N : Nat) : TabOK Try.prog (tab63 N) := trivial

noncomputable def O63 (r : Int) : Tr (Pk) := .ret ⟨[.v (.int .i64 (r))], []⟩

noncomputable def D63 : Pk → Option (Int)
  | ⟨[.v (.int .i64 x0)], []⟩ => some (x0)
  | _ => none

theorem D63_ok : ∀ y r, D63 y = some r → ∀ z, (O63 r).to z → y = z := by
  intro y r h
  unfold D63 at h
  split at h <;> first | (cases h; intro z hz; exact Option.some.inj hz) | cases h

noncomputable def F63 (N : Nat) : (Int × Int) → Option (Int)
  | (x0, x1) =>
  iteP (decide (x0 < (0 : Int))) (
    none) (
    some (IntKind.wrap IntKind.i64 (↑(BitVec.toNat (BitVec.ofInt (64 : Nat) x1 &&& BitVec.ofInt (64 : Nat) (IntKind.wrap IntKind.i64 (IntKind.wrap IntKind.i64 ((1 : Int) * (2 : Int) ^ min (Int.toNat x0) (64 : Nat)) - (1 : Int))))) : Int)))

theorem F63_eq (N : Nat) (x0 : Int) (x1 : Int) : (fnEv (mkE Try.prog ownT (tab63 N) []) Try.f63 (J63 (x0, x1))).run D63 = F63 N (x0, x1) := by kernel_rfl

noncomputable def T63 (N : Nat) : Pk → Tr Pk := tell I63 (F63 N) O63

theorem T63_ok (N : Nat) : FOK Try.prog 63 (T63 N) :=
  (tell_ok (E := (mkE Try.prog ownT (tab63 N) [])) (mkE_ok mix (tab63_ok N)) Try.func63 (show Try.f63.body = some (bod Try.f63) by kernel_rfl) (by decide +kernel) (F := F63 N) I63_ok D63_ok (args := A63) (fun _ => by kernel_rfl) (fun _ => by show 2 ≤ Try.f63.ntmps; exact of_decide_eq_true (by kernel_rfl)) (cutsIn_ok trivial) (fun x => match x with | (x0, x1) => F63_eq N x0 x1))

/-! ## f74: math/bits.ReverseBytes64 -/

noncomputable def I74 : Pk → Option (Int)
  | ⟨[.v (.int .u64 x0)], []⟩ => some x0
  | _ => none

noncomputable def J74 (x : Int) : Pk := ⟨[.v (.int .u64 (x))], []⟩

theorem I74_ok : ∀ pk x, I74 pk = some x → pk = J74 x := by
  intro pk x h
  unfold I74 at h
  split at h <;> first | (cases h; rfl) | cases h

noncomputable def A74 : List TV := []

noncomputable def tab74 (N : Nat) : List (Nat × (Pk → Tr Pk)) := []

theorem tab74_ok (N : Nat) : TabOK Try.prog (tab74 N) := trivial

noncomputable def O74 (r : Int) : Tr (Pk) := .ret ⟨[.v (.int .u64 (r))], []⟩

noncomputable def D74 : Pk → Option (Int)
  | ⟨[.v (.int .u64 x0)], []⟩ => some (x0)
  | _ => none

theorem D74_ok : ∀ y r, D74 y = some r → ∀ z, (O74 r).to z → y = z := by
  intro y r h
  unfold D74 at h
  split at h <;> first | (cases h; intro z hz; exact Option.some.inj hz) | cases h

noncomputable def F74 (N : Nat) : (Int) → Option (Int)
  | x0 =>
  some (IntKind.wrap IntKind.u64 (↑(BitVec.toNat (BitVec.ofInt (64 : Nat) (Int.fdiv (IntKind.wrap IntKind.u64 (↑(BitVec.toNat (BitVec.ofInt (64 : Nat) (IntKind.wrap IntKind.u64 (↑(BitVec.toNat (BitVec.ofInt (64 : Nat) (Int.fdiv (IntKind.wrap IntKind.u64 (↑(BitVec.toNat (BitVec.ofInt (64 : Nat) (IntKind.wrap IntKind.u64 (↑(BitVec.toNat (BitVec.ofInt (64 : Nat) (Int.fdiv x0 (256 : Int)) &&& BitVec.ofInt (64 : Nat) (71777214294589695 : Int))) : Int)) ||| BitVec.ofInt (64 : Nat) (IntKind.wrap IntKind.u64 (IntKind.wrap IntKind.u64 (↑(BitVec.toNat (BitVec.ofInt (64 : Nat) x0 &&& BitVec.ofInt (64 : Nat) (71777214294589695 : Int))) : Int) * (256 : Int))))) : Int)) (65536 : Int)) &&& BitVec.ofInt (64 : Nat) (281470681808895 : Int))) : Int)) ||| BitVec.ofInt (64 : Nat) (IntKind.wrap IntKind.u64 (IntKind.wrap IntKind.u64 (↑(BitVec.toNat (BitVec.ofInt (64 : Nat) (IntKind.wrap IntKind.u64 (↑(BitVec.toNat (BitVec.ofInt (64 : Nat) (IntKind.wrap IntKind.u64 (↑(BitVec.toNat (BitVec.ofInt (64 : Nat) (Int.fdiv x0 (256 : Int)) &&& BitVec.ofInt (64 : Nat) (71777214294589695 : Int))) : Int)) ||| BitVec.ofInt (64 : Nat) (IntKind.wrap IntKind.u64 (IntKind.wrap IntKind.u64 (↑(BitVec.toNat (BitVec.ofInt (64 : Nat) x0 &&& BitVec.ofInt (64 : Nat) (71777214294589695 : Int))) : Int) * (256 : Int))))) : Int)) &&& BitVec.ofInt (64 : Nat) (281470681808895 : Int))) : Int) * (65536 : Int))))) : Int)) (4294967296 : Int)) ||| BitVec.ofInt (64 : Nat) (IntKind.wrap IntKind.u64 (IntKind.wrap IntKind.u64 (↑(BitVec.toNat (BitVec.ofInt (64 : Nat) (IntKind.wrap IntKind.u64 (↑(BitVec.toNat (BitVec.ofInt (64 : Nat) (Int.fdiv (IntKind.wrap IntKind.u64 (↑(BitVec.toNat (BitVec.ofInt (64 : Nat) (IntKind.wrap IntKind.u64 (↑(BitVec.toNat (BitVec.ofInt (64 : Nat) (Int.fdiv x0 (256 : Int)) &&& BitVec.ofInt (64 : Nat) (71777214294589695 : Int))) : Int)) ||| BitVec.ofInt (64 : Nat) (IntKind.wrap IntKind.u64 (IntKind.wrap IntKind.u64 (↑(BitVec.toNat (BitVec.ofInt (64 : Nat) x0 &&& BitVec.ofInt (64 : Nat) (71777214294589695 : Int))) : Int) * (256 : Int))))) : Int)) (65536 : Int)) &&& BitVec.ofInt (64 : Nat) (281470681808895 : Int))) : Int)) ||| BitVec.ofInt (64 : Nat) (IntKind.wrap IntKind.u64 (IntKind.wrap IntKind.u64 (↑(BitVec.toNat (BitVec.ofInt (64 : Nat) (IntKind.wrap IntKind.u64 (↑(BitVec.toNat (BitVec.ofInt (64 : Nat) (IntKind.wrap IntKind.u64 (↑(BitVec.toNat (BitVec.ofInt (64 : Nat) (Int.fdiv x0 (256 : Int)) &&& BitVec.ofInt (64 : Nat) (71777214294589695 : Int))) : Int)) ||| BitVec.ofInt (64 : Nat) (IntKind.wrap IntKind.u64 (IntKind.wrap IntKind.u64 (↑(BitVec.toNat (BitVec.ofInt (64 : Nat) x0 &&& BitVec.ofInt (64 : Nat) (71777214294589695 : Int))) : Int) * (256 : Int))))) : Int)) &&& BitVec.ofInt (64 : Nat) (281470681808895 : Int))) : Int) * (65536 : Int))))) : Int) * (4294967296 : Int))))) : Int))

theorem F74_eq (N : Nat) (x0 : Int) : (fnEv (mkE Try.prog ownT (tab74 N) []) Try.f74 (J74 x0)).run D74 = F74 N x0 := by kernel_rfl

noncomputable def T74 (N : Nat) : Pk → Tr Pk := tell I74 (F74 N) O74

theorem T74_ok (N : Nat) : FOK Try.prog 74 (T74 N) :=
  (tell_ok (E := (mkE Try.prog ownT (tab74 N) [])) (mkE_ok mix (tab74_ok N)) Try.func74 (show Try.f74.body = some (bod Try.f74) by kernel_rfl) (by decide +kernel) (F := F74 N) I74_ok D74_ok (args := A74) (fun _ => by kernel_rfl) (fun _ => by show 1 ≤ Try.f74.ntmps; exact of_decide_eq_true (by kernel_rfl)) (cutsIn_ok trivial) (fun x => match x with | x0 => F74_eq N x0))


end Go.Proofs.Ytpjkklailofkjaa.Am

set_option linter.unusedVariables false
set_option maxRecDepth 100000
namespace Go.Proofs.Ytpjkklailofkjaa.Am
open Go.Am

/-! ## f64: math/bits.Reverse64 -/

noncomputable def I64 : Pk → Option (Int)
  | ⟨[.v (.int .u64 x0)], []⟩ => some x0
  | _ => none

noncomputable def J64 (x : Int) : Pk := ⟨[.v (.int .u64 (x))], []⟩

theorem I64_ok : ∀ pk x, I64 pk = some x → pk = J64 x := by
  intro pk x h
  unfold I64 at h
  split at h <;> first | (cases h; rfl) | cases h

noncomputable def A64 : List TV := []

noncomputable def tab64 (N : Nat) : List (Nat × (Pk → Tr Pk)) := [(74, T74 N)]

theorem tab64_ok (N : Nat) : TabOK Try.prog (tab64 N) := ⟨T74_ok N, trivial⟩

noncomputable def O64 (r : Int) : Tr (Pk) := .ret ⟨[.v (.int .u64 (r))], []⟩

noncomputable def D64 : Pk → Option (Int)
  | ⟨[.v (.int .u64 x0)], []⟩ => some (x0)
  | _ => none

theorem D64_ok : ∀ y r, D64 y = some r → ∀ z, (O64 r).to z → y = z := by
  intro y r h
  unfold D64 at h
  split at h <;> first | (cases h; intro z hz; exact Option.some.inj hz) | cases h

noncomputable def F64 (N : Nat) : (Int) → Option (Int)
  | x0 =>
  Option.bind (F74 N (IntKind.wrap IntKind.u64 (↑(BitVec.toNat (BitVec.ofInt (64 : Nat) (IntKind.wrap IntKind.u64 (↑(BitVec.toNat (BitVec.ofInt (64 : Nat) (Int.fdiv (IntKind.wrap IntKind.u64 (↑(BitVec.toNat (BitVec.ofInt (64 : Nat) (IntKind.wrap IntKind.u64 (↑(BitVec.toNat (BitVec.ofInt (64 : Nat) (Int.fdiv (IntKind.wrap IntKind.u64 (↑(BitVec.toNat (BitVec.ofInt (64 : Nat) (IntKind.wrap IntKind.u64 (↑(BitVec.toNat (BitVec.ofInt (64 : Nat) (Int.fdiv x0 (2 : Int)) &&& BitVec.ofInt (64 : Nat) (6148914691236517205 : Int))) : Int)) ||| BitVec.ofInt (64 : Nat) (IntKind.wrap IntKind.u64 (IntKind.wrap IntKind.u64 (↑(BitVec.toNat (BitVec.ofInt (64 : Nat) x0 &&& BitVec.ofInt (64 : Nat) (6148914691236517205 : Int))) : Int) * (2 : Int))))) : Int)) (4 : Int)) &&& BitVec.ofInt (64 : Nat) (3689348814741910323 : Int))) : Int)) ||| BitVec.ofInt (64 : Nat) (IntKind.wrap IntKind.u64 (IntKind.wrap IntKind.u64 (↑(BitVec.toNat (BitVec.ofInt (64 : Nat) (IntKind.wrap IntKind.u64 (↑(BitVec.toNat (BitVec.ofInt (64 : Nat) (IntKind.wrap IntKind.u64 (↑(BitVec.toNat (BitVec.ofInt (64 : Nat) (Int.fdiv x0 (2 : Int)) &&& BitVec.ofInt (64 : Nat) (6148914691236517205 : Int))) : Int)) ||| BitVec.ofInt (64 : Nat) (IntKind.wrap IntKind.u64 (IntKind.wrap IntKind.u64 (↑(BitVec.toNat (BitVec.ofInt (64 : Nat) x0 &&& BitVec.ofInt (64 : Nat) (6148914691236517205 : Int))) : Int) * (2 : Int))))) : Int)) &&& BitVec.ofInt (64 : Nat) (3689348814741910323 : Int))) : Int) * (4 : Int))))) : Int)) (16 : Int)) &&& BitVec.ofInt (64 : Nat) (1085102592571150095 : Int))) : Int)) ||| BitVec.ofInt (64 : Nat) (IntKind.wrap IntKind.u64 (IntKind.wrap IntKind.u64 (↑(BitVec.toNat (BitVec.ofInt (64 : Nat) (IntKind.wrap IntKind.u64 (↑(BitVec.toNat (BitVec.ofInt (64 : Nat) (IntKind.wrap IntKind.u64 (↑(BitVec.toNat (BitVec.ofInt (64 : Nat) (Int.fdiv (IntKind.wrap IntKind.u64 (↑(BitVec.toNat (BitVec.ofInt (64 : Nat) (IntKind.wrap IntKind.u64 (↑(BitVec.toNat (BitVec.ofInt (64 : Nat) (Int.fdiv x0 (2 : Int)) &&& BitVec.ofInt (64 : Nat) (6148914691236517205 : Int))) : Int)) ||| BitVec.ofInt (64 : Nat) (IntKind.wrap IntKind.u64 (IntKind.wrap IntKind.u64 (↑(BitVec.toNat (BitVec.ofInt (64 : Nat) x0 &&& BitVec.ofInt (64 : Nat) (6148914691236517205 : Int))) : Int) * (2 : Int))))) : Int)) (4 : Int)) &&& BitVec.ofInt (64 : Nat) (3689348814741910323 : Int))) : Int)) ||| BitVec.ofInt (64 : Nat) (IntKind.wrap IntKind.u64 (IntKind.wrap IntKind.u64 (↑(BitVec.toNat (BitVec.ofInt (64 : Nat) (IntKind.wrap IntKind.u64 (↑(BitVec.toNat (BitVec.ofInt (64 : Nat) (IntKind.wrap IntKind.u64 (↑(BitVec.toNat (BitVec.ofInt (64 : Nat) (Int.fdiv x0 (2 : Int)) &&& BitVec.ofInt (64 : Nat) (6148914691236517205 : Int))) : Int)) ||| BitVec.ofInt (64 : Nat) (IntKind.wrap IntKind.u64 (IntKind.wrap IntKind.u64 (↑(BitVec.toNat (BitVec.ofInt (64 : Nat) x0 &&& BitVec.ofInt (64 : Nat) (6148914691236517205 : Int))) : Int) * (2 : Int))))) : Int)) &&& BitVec.ofInt (64 : Nat) (3689348814741910323 : Int))) : Int) * (4 : Int))))) : Int)) &&& BitVec.ofInt (64 : Nat) (1085102592571150095 : Int))) : Int) * (16 : Int))))) : Int))) fun y0 =>
  some (y0)

theorem F64_eq (N : Nat) (x0 : Int) : (fnEv (mkE Try.prog ownT (tab64 N) []) Try.f64 (J64 x0)).run D64 = F64 N x0 := by kernel_rfl

noncomputable def T64 (N : Nat) : Pk → Tr Pk := tell I64 (F64 N) O64

theorem T64_ok (N : Nat) : FOK Try.prog 64 (T64 N) :=
  (tell_ok (E := (mkE Try.prog ownT (tab64 N) [])) (mkE_ok mix (tab64_ok N)) Try.func64 (show Try.f64.body = some (bod Try.f64) by kernel_rfl) (by decide +kernel) (F := F64 N) I64_ok D64_ok (args := A64) (fun _ => by kernel_rfl) (fun _ => by show 1 ≤ Try.f64.ntmps; exact of_decide_eq_true (by kernel_rfl)) (cutsIn_ok trivial) (fun x => match x with | x0 => F64_eq N x0))

/-! ## f47: mirador/bitio.Reverse -/

noncomputable def I47 : Pk → Option (Int × Int)
  | ⟨[.agg [.v (.int .i64 x0), .v (.int .i64 x1)]], []⟩ => some (x0, x1)
  | _ => none

noncomputable def J47 (x : Int × Int) : Pk := ⟨[.agg [.v (.int .i64 (x.1)), .v (.int .i64 (x.2))]], []⟩

theorem I47_ok : ∀ pk x, I47 pk = some x → pk = J47 x := by
  intro pk x h
  unfold I47 at h
  split at h <;> first | (cases h; rfl) | cases h

noncomputable def A47 : List TV := []

noncomputable def tab47 (N : Nat) : List (Nat × (Pk → Tr Pk)) := [(60, T60 N), (63, T63 N), (64, T64 N)]

theorem tab47_ok (N : Nat) : TabOK Try.prog (tab47 N) := ⟨T60_ok N, ⟨T63_ok N, ⟨T64_ok N, trivial⟩⟩⟩

noncomputable def O47 (r : Int) : Tr (Pk) := .ret ⟨[.v (.int .i64 (r))], []⟩

noncomputable def D47 : Pk → Option (Int)
  | ⟨[.v (.int .i64 x0)], []⟩ => some (x0)
  | _ => none

theorem D47_ok : ∀ y r, D47 y = some r → ∀ z, (O47 r).to z → y = z := by
  intro y r h
  unfold D47 at h
  split at h <;> first | (cases h; intro z hz; exact Option.some.inj hz) | cases h

noncomputable def F47 (N : Nat) : (Int × Int) → Option (Int)
  | (x0, x1) =>
  Option.bind (F60 N x1) fun y0 =>
  Option.bind (F63 N (y0, x0)) fun y1 =>
  Option.bind (F64 N (IntKind.wrap IntKind.u64 y1)) fun y2 =>
  iteP (decide (IntKind.wrap IntKind.i64 ((64 : Int) - y0) < (0 : Int))) (
    none) (
    some (IntKind.wrap IntKind.i64 (Int.fdiv y2 ((2 : Int) ^ min (Int.toNat (IntKind.wrap IntKind.i64 ((64 : Int) - y0))) (64 : Nat)))))

theorem F47_eq (N : Nat) (x0 : Int) (x1 : Int) : (fnEv (mkE Try.prog ownT (tab47 N) []) Try.f47 (J47 (x0, x1))).run D47 = F47 N (x0, x1) := by kernel_rfl

noncomputable def T47 (N : Nat) : Pk → Tr Pk := tell I47 (F47 N) O47

theorem T47_ok (N : Nat) : FOK Try.prog 47 (T47 N) :=
  (tell_ok (E := (mkE Try.prog ownT (tab47 N) [])) (mkE_ok mix (tab47_ok N)) Try.func47 (show Try.f47.body = some (bod Try.f47) by kernel_rfl) (by decide +kernel) (F := F47 N) I47_ok D47_ok (args := A47) (fun _ => by kernel_rfl) (fun _ => by show 1 ≤ Try.f47.ntmps; exact of_decide_eq_true (by kernel_rfl)) (cutsIn_ok trivial) (fun x => match x with | (x0, x1) => F47_eq N x0 x1))

/-! ## f46: (*mirador/bitio.Writer).Bits -/

noncomputable def I46 : Pk → Option (Int × Int × Int × Int × (List Int))
  | ⟨[.adr 0 [], .v (.int .i64 x0), .v (.int .i64 x1)], [some (.var (.agg [.sl 1 none, .v (.int .i64 x2), .v (.int .i64 x3)])), some (.row (.int .u8) 5 x4)]⟩ => some (x0, x1, x2, x3, x4)
  | _ => none

noncomputable def J46 (x : Int × Int × Int × Int × (List Int)) : Pk := ⟨[.adr 0 [], .v (.int .i64 (x.1)), .v (.int .i64 (x.2.1))], [some (.var (.agg [.sl 1 none, .v (.int .i64 (x.2.2.1)), .v (.int .i64 (x.2.2.2.1))])), some (.row (.int .u8) 5 (x.2.2.2.2))]⟩

theorem I46_ok : ∀ pk x, I46 pk = some x → pk = J46 x := by
  intro pk x h
  unfold I46 at h
  split at h <;> first | (cases h; rfl) | cases h

noncomputable def A46 : List TV := [.adr 0 []]

noncomputable def tab46 (N : Nat) : List (Nat × (Pk → Tr Pk)) := [(60, T60 N), (63, T63 N)]

theorem tab46_ok (N : Nat) : TabOK Try.prog (tab46 N) := ⟨T60_ok N, ⟨T63_ok N, trivial⟩⟩

def X46_30 : Ex → List Nat
  | .ret => []
  | .exit 0 => []
  | _ => []

noncomputable def I46_30 : Pk → Option (Int × Int × (List Int))
  | ⟨[.adr 0 []], [some (.var (.agg [.sl 1 (none), .v (.int .i64 x0), .v (.int .i64 x1)])), some (.row (Ty.int IntKind.u8) 5 x2)]⟩ => some (x0, x1, x2)
  | _ => none

noncomputable def J46_30 (x : Int × Int × (List Int)) : Pk := ⟨[.adr 0 []], [some (.var (.agg [.sl 1 (none), .v (.int .i64 (x.1)), .v (.int .i64 (x.2.1))])), some (.row (Ty.int IntKind.u8) 5 (x.2.2))]⟩

theorem I46_30_ok : ∀ pk x, I46_30 pk = some x → pk = J46_30 x := by
  intro pk x h
  unfold I46_30 at h
  split at h <;> first | (cases h; rfl) | cases h

noncomputable def O46_30 (r : Int × Int × (List Int)) : Tr (Ex × Pk) := .ret (.exit 0, ⟨[], [some (.var (.agg [.sl 1 (none), .v (.int .i64 (r.1)), .v (.int .i64 (r.2.1))])), some (.row (Ty.int IntKind.u8) 5 (r.2.2))]⟩)

noncomputable def D46_30 : Ex × Pk → Option (Int × Int × (List Int))
  | (.exit 0, ⟨[], [some (.var (.agg [.sl 1 (none), .v (.int .i64 x0), .v (.int .i64 x1)])), some (.row (Ty.int IntKind.u8) 5 x2)]⟩) => some ((x0, x1, x2))
  | _ => none

theorem D46_30_ok : ∀ y r, D46_30 y = some r → ∀ z, (O46_30 r).to z → y = z := by
  intro y r h
  unfold D46_30 at h
  split at h <;> first | (cases h; intro z hz; exact Option.some.inj hz) | cases h

noncomputable def B46_30 (N : Nat) (f : (Int × Int × (List Int)) → Option (Int × Int × (List Int))) : (Int × Int × (List Int)) → Option (Int × Int × (List Int))
  | (x0, x1, x2) =>
  iteP (decide (x1 ≥ (8 : Int))) (
    iteP (decide ((List.length x2 + List.length [IntKind.wrap IntKind.u8 x0]) * (1 : Nat) ≤ (140737488355328 : Nat) ∧ List.length x2 + List.length [IntKind.wrap IntKind.u8 x0] ≤ (140737488355328 : Nat))) (
      Option.bind (f (Int.fdiv x0 (256 : Int), IntKind.wrap IntKind.i64 (x1 - (8 : Int)), x2 ++ [IntKind.wrap IntKind.u8 x0])) fun r => some r) (
      none)) (
    some ((x0, x1, x2)))

noncomputable def F46_30 (N : Nat) : Nat → (Int × Int × (List Int)) → Option (Int × Int × (List Int))
  | 0, _ => none
  | k + 1, x => B46_30 N (F46_30 N k) x

noncomputable def C46_30 (N : Nat) (k : Nat) : Cut := ⟨[0], X46_30, tellX I46_30 (F46_30 N k) O46_30⟩

theorem B46_30_eq (N : Nat) (f : (Int × Int × (List Int)) → Option (Int × Int × (List Int))) (x0 : Int) (x1 : Int) (x2 : (List Int)) : (roundEv (mkE Try.prog ownT (tab46 N) []) Try.f46.ntmps A46 (loopAt (bod Try.f46) 30) 30 ⟨[0], X46_30, tellX I46_30 f O46_30⟩ (J46_30 (x0, x1, x2))).run D46_30 = B46_30 N f (x0, x1, x2) := by kernel_rfl

theorem C46_30_ok (N : Nat) (k : Nat) : ∀ c', At (bod Try.f46) 30 c' → CutOK Try.prog Try.f46.ntmps (idsL A46) c' (C46_30 N k) :=
  loop_ok (E := (mkE Try.prog ownT (tab46 N) [])) (mkE_ok mix (tab46_ok N)) (cutsIn_ok trivial) (fuel := 200) (by decide +kernel) (by kernel_rfl) I46_30_ok D46_30_ok (B46_30 N) (F46_30 N) (fun _ => rfl) (fun _ _ => rfl) (fun f x => match x with | (x0, x1, x2) => B46_30_eq N f x0 x1 x2) k

noncomputable def O46 (r : Int × Int × (List Int)) : Tr (Pk) := .ret ⟨[.tup []], [some (.var (.agg [.sl 1 (none), .v (.int .i64 (r.1)), .v (.int .i64 (r.2.1))])), some (.row (Ty.int IntKind.u8) 5 (r.2.2))]⟩

noncomputable def D46 : Pk → Option (Int × Int × (List Int))
  | ⟨[.tup []], [some (.var (.agg [.sl 1 (none), .v (.int .i64 x0), .v (.int .i64 x1)])), some (.row (Ty.int IntKind.u8) 5 x2)]⟩ => some ((x0, x1, x2))
  | _ => none

theorem D46_ok : ∀ y r, D46 y = some r → ∀ z, (O46 r).to z → y = z := by
  intro y r h
  unfold D46 at h
  split at h <;> first | (cases h; intro z hz; exact Option.some.inj hz) | cases h

noncomputable def F46 (N : Nat) : (Int × Int × Int × Int × (List Int)) → Option (Int × Int × (List Int))
  | (x0, x1, x2, x3, x4) =>
  Option.bind (F60 N x0) fun y0 =>
  Option.bind (F63 N (y0, x1)) fun y1 =>
  iteP (decide (x3 < (0 : Int))) (
    none) (
    Option.bind (F46_30 N N (IntKind.wrap IntKind.i64 (↑(BitVec.toNat (BitVec.ofInt (64 : Nat) x2 ||| BitVec.ofInt (64 : Nat) (IntKind.wrap IntKind.i64 (y1 * (2 : Int) ^ min (Int.toNat x3) (64 : Nat))))) : Int), IntKind.wrap IntKind.i64 (x3 + y0), x4)) fun y2 =>
    some ((Prod.fst y2, Prod.fst (Prod.snd y2), Prod.snd (Prod.snd y2))))

theorem F46_eq (N : Nat) (x0 : Int) (x1 : Int) (x2 : Int) (x3 : Int) (x4 : (List Int)) : (fnEv (mkE Try.prog ownT (tab46 N) [(30, (C46_30 N N))]) Try.f46 (J46 (x0, x1, x2, x3, x4))).run D46 = F46 N (x0, x1, x2, x3, x4) := by kernel_rfl

noncomputable def T46 (N : Nat) : Pk → Tr Pk := tell I46 (F46 N) O46

theorem T46_ok (N : Nat) : FOK Try.prog 46 (T46 N) :=
  (tell_ok (E := (mkE Try.prog ownT (tab46 N) [(30, (C46_30 N N))])) (mkE_ok mix (tab46_ok N)) Try.func46 (show Try.f46.body = some (bod Try.f46) by kernel_rfl) (by decide +kernel) (F := F46 N) I46_ok D46_ok (args := A46) (fun _ => by kernel_rfl) (fun _ => by show 3 ≤ Try.f46.ntmps; exact of_decide_eq_true (by kernel_rfl)) (cutsIn_ok ⟨fun c' h => (C46_30_ok N N c' h), trivial⟩) (fun x => match x with | (x0, x1, x2, x3, x4) => F46_eq N x0 x1 x2 x3 x4))

/-! ## f26: (*mirador/bitio.Writer).Code -/

noncomputable def I26 : Pk → Option (Int × Int × Int × Int × (List Int))
  | ⟨[.adr 0 [], .agg [.v (.int .i64 x0), .v (.int .i64 x1)]], [some (.var (.agg [.sl 1 none, .v (.int .i64 x2), .v (.int .i64 x3)])), some (.row (.int .u8) 5 x4)]⟩ => some (x0, x1, x2, x3, x4)
  | _ => none

noncomputable def J26 (x : Int × Int × Int × Int × (List Int)) : Pk := ⟨[.adr 0 [], .agg [.v (.int .i64 (x.1)), .v (.int .i64 (x.2.1))]], [some (.var (.agg [.sl 1 none, .v (.int .i64 (x.2.2.1)), .v (.int .i64 (x.2.2.2.1))])), some (.row (.int .u8) 5 (x.2.2.2.2))]⟩

theorem I26_ok : ∀ pk x, I26 pk = some x → pk = J26 x := by
  intro pk x h
  unfold I26 at h
  split at h <;> first | (cases h; rfl) | cases h

noncomputable def A26 : List TV := [.adr 0 []]

noncomputable def tab26 (N : Nat) : List (Nat × (Pk → Tr Pk)) := [(47, T47 N), (46, T46 N)]

theorem tab26_ok (N : Nat) : TabOK Try.prog (tab26 N) := ⟨T47_ok N, ⟨T46_ok N, trivial⟩⟩

noncomputable def O26 (r : Int × Int × (List Int)) : Tr (Pk) := .ret ⟨[.tup []], [some (.var (.agg [.sl 1 (none), .v (.int .i64 (r.1)), .v (.int .i64 (r.2.1))])), some (.row (Ty.int IntKind.u8) 5 (r.2.2))]⟩

noncomputable def D26 : Pk → Option (Int × Int × (List Int))
  | ⟨[.tup []], [some (.var (.agg [.sl 1 (none), .v (.int .i64 x0), .v (.int .i64 x1)])), some (.row (Ty.int IntKind.u8) 5 x2)]⟩ => some ((x0, x1, x2))
  | _ => none

theorem D26_ok : ∀ y r, D26 y = some r → ∀ z, (O26 r).to z → y = z := by
  intro y r h
  unfold D26 at h
  split at h <;> first | (cases h; intro z hz; exact Option.some.inj hz) | cases h

noncomputable def F26 (N : Nat) : (Int × Int × Int × Int × (List Int)) → Option (Int × Int × (List Int))
  | (x0, x1, x2, x3, x4) =>
  Option.bind (F47 N (x0, x1)) fun y0 =>
  Option.bind (F46 N (x1, y0, x2, x3, x4)) fun y1 =>
  some ((Prod.fst y1, Prod.fst (Prod.snd y1), Prod.snd (Prod.snd y1)))

theorem F26_eq (N : Nat) (x0 : Int) (x1 : Int) (x2 : Int) (x3 : Int) (x4 : (List Int)) : (fnEv (mkE Try.prog ownT (tab26 N) []) Try.f26 (J26 (x0, x1, x2, x3, x4))).run D26 = F26 N (x0, x1, x2, x3, x4) := by kernel_rfl

noncomputable def T26 (N : Nat) : Pk → Tr Pk := tell I26 (F26 N) O26

theorem T26_ok (N : Nat) : FOK Try.prog 26 (T26 N) :=
  (tell_ok (E := (mkE Try.prog ownT (tab26 N) [])) (mkE_ok mix (tab26_ok N)) Try.func26 (show Try.f26.body = some (bod Try.f26) by kernel_rfl) (by decide +kernel) (F := F26 N) I26_ok D26_ok (args := A26) (fun _ => by kernel_rfl) (fun _ => by show 2 ≤ Try.f26.ntmps; exact of_decide_eq_true (by kernel_rfl)) (cutsIn_ok trivial) (fun x => match x with | (x0, x1, x2, x3, x4) => F26_eq N x0 x1 x2 x3 x4))

/-! ## f27: (*mirador/bitio.Writer).String -/

noncomputable def I27 : Pk → Option (((List Int) × (Int × (Int × Unit))))
  | ⟨[.radr (.cons (.sl (.int .u8)) (.cons (.int .i64) (.cons (.int .i64) .unit))) [x0] [.i 0 3]], []⟩ => some x0
  | _ => none

noncomputable def J27 (x : ((List Int) × (Int × (Int × Unit)))) : Pk := ⟨[.radr (.cons (.sl (.int .u8)) (.cons (.int .i64) (.cons (.int .i64) .unit))) [(x)] [.i 0 3]], []⟩

theorem I27_ok : ∀ pk x, I27 pk = some x → pk = J27 x := by
  intro pk x h
  unfold I27 at h
  split at h <;> first | (cases h; rfl) | cases h

noncomputable def A27 : List TV := []

noncomputable def tab27 (N : Nat) : List (Nat × (Pk → Tr Pk)) := []

theorem tab27_ok (N : Nat) : TabOK Try.prog (tab27 N) := trivial

noncomputable def O27 (r : ByteArray) : Tr (Pk) := .ret ⟨[.v (.string (r))], []⟩

noncomputable def D27 : Pk → Option (ByteArray)
  | ⟨[.v (.string x0)], []⟩ => some (x0)
  | _ => none

theorem D27_ok : ∀ y r, D27 y = some r → ∀ z, (O27 r).to z → y = z := by
  intro y r h
  unfold D27 at h
  split at h <;> first | (cases h; intro z hz; exact Option.some.inj hz) | cases h

noncomputable def F27 (N : Nat) : (((List Int) × (Int × (Int × Unit)))) → Option (ByteArray)
  | x0 =>
  iteP (decide (Prod.fst (Prod.snd (Prod.snd x0)) > (0 : Int))) (
    iteP (decide ((↑(ByteArray.size (stringOf (Prod.fst x0)) + ByteArray.size (stringOf [IntKind.wrap IntKind.u8 (Prod.fst (Prod.snd x0))])) : Int) > (9223372036854775807 : Int))) (
      none) (
      some (stringOf (Prod.fst x0) ++ stringOf [IntKind.wrap IntKind.u8 (Prod.fst (Prod.snd x0))]))) (
    some (stringOf (Prod.fst x0)))

theorem F27_eq (N : Nat) (x0 : ((List Int) × (Int × (Int × Unit)))) : (fnEv (mkE Try.prog ownT (tab27 N) []) Try.f27 (J27 x0)).run D27 = F27 N x0 := by kernel_rfl

noncomputable def T27 (N : Nat) : Pk → Tr Pk := tell I27 (F27 N) O27

theorem T27_ok (N : Nat) : FOK Try.prog 27 (T27 N) :=
  (tell_ok (E := (mkE Try.prog ownT (tab27 N) [])) (mkE_ok mix (tab27_ok N)) Try.func27 (show Try.f27.body = some (bod Try.f27) by kernel_rfl) (by decide +kernel) (F := F27 N) I27_ok D27_ok (args := A27) (fun _ => by kernel_rfl) (fun _ => by show 1 ≤ Try.f27.ntmps; exact of_decide_eq_true (by kernel_rfl)) (cutsIn_ok trivial) (fun x => match x with | x0 => F27_eq N x0))

/-! ## f28: (*mirador/bitio.Writer).Len -/

noncomputable def I28 : Pk → Option (((List Int) × (Int × (Int × Unit))))
  | ⟨[.radr (.cons (.sl (.int .u8)) (.cons (.int .i64) (.cons (.int .i64) .unit))) [x0] [.i 0 3]], []⟩ => some x0
  | _ => none

noncomputable def J28 (x : ((List Int) × (Int × (Int × Unit)))) : Pk := ⟨[.radr (.cons (.sl (.int .u8)) (.cons (.int .i64) (.cons (.int .i64) .unit))) [(x)] [.i 0 3]], []⟩

theorem I28_ok : ∀ pk x, I28 pk = some x → pk = J28 x := by
  intro pk x h
  unfold I28 at h
  split at h <;> first | (cases h; rfl) | cases h

noncomputable def A28 : List TV := []

noncomputable def tab28 (N : Nat) : List (Nat × (Pk → Tr Pk)) := []

theorem tab28_ok (N : Nat) : TabOK Try.prog (tab28 N) := trivial

noncomputable def O28 (r : Int) : Tr (Pk) := .ret ⟨[.v (.int .i64 (r))], []⟩

noncomputable def D28 : Pk → Option (Int)
  | ⟨[.v (.int .i64 x0)], []⟩ => some (x0)
  | _ => none

theorem D28_ok : ∀ y r, D28 y = some r → ∀ z, (O28 r).to z → y = z := by
  intro y r h
  unfold D28 at h
  split at h <;> first | (cases h; intro z hz; exact Option.some.inj hz) | cases h

noncomputable def F28 (N : Nat) : (((List Int) × (Int × (Int × Unit)))) → Option (Int)
  | x0 =>
  some (IntKind.wrap IntKind.i64 (IntKind.wrap IntKind.i64 ((8 : Int) * (↑(List.length (Prod.fst x0)) : Int)) + Prod.fst (Prod.snd (Prod.snd x0))))

theorem F28_eq (N : Nat) (x0 : ((List Int) × (Int × (Int × Unit)))) : (fnEv (mkE Try.prog ownT (tab28 N) []) Try.f28 (J28 x0)).run D28 = F28 N x0 := by kernel_rfl

noncomputable def T28 (N : Nat) : Pk → Tr Pk := tell I28 (F28 N) O28

theorem T28_ok (N : Nat) : FOK Try.prog 28 (T28 N) :=
  (tell_ok (E := (mkE Try.prog ownT (tab28 N) [])) (mkE_ok mix (tab28_ok N)) Try.func28 (show Try.f28.body = some (bod Try.f28) by kernel_rfl) (by decide +kernel) (F := F28 N) I28_ok D28_ok (args := A28) (fun _ => by kernel_rfl) (fun _ => by show 1 ≤ Try.f28.ntmps; exact of_decide_eq_true (by kernel_rfl)) (cutsIn_ok trivial) (fun x => match x with | x0 => F28_eq N x0))

/-! ## f9: mirador/miradorlaw05.HuffmanBack -/

noncomputable def I9 : Pk → Option ((List Int) × (List Int))
  | ⟨[.ro (.int .i64) x0, .ro (.int .i64) x1], []⟩ => some (x0, x1)
  | _ => none

noncomputable def J9 (x : (List Int) × (List Int)) : Pk := ⟨[.ro (.int .i64) (x.1), .ro (.int .i64) (x.2)], []⟩

theorem I9_ok : ∀ pk x, I9 pk = some x → pk = J9 x := by
  intro pk x h
  unfold I9 at h
  split at h <;> first | (cases h; rfl) | cases h

noncomputable def A9 : List TV := []

noncomputable def tab9 (N : Nat) : List (Nat × (Pk → Tr Pk)) := [(11, T11 N), (14, T14 N), (20, T20 N), (26, T26 N), (27, T27 N), (22, T22 N), (23, T23 N), (25, T25 N), (28, T28 N)]

theorem tab9_ok (N : Nat) : TabOK Try.prog (tab9 N) := ⟨T11_ok N, ⟨T14_ok N, ⟨T20_ok N, ⟨T26_ok N, ⟨T27_ok N, ⟨T22_ok N, ⟨T23_ok N, ⟨T25_ok N, ⟨T28_ok N, trivial⟩⟩⟩⟩⟩⟩⟩⟩⟩

def X9_4090 : Ex → List Nat
  | .ret => [4]
  | .exit 0 => [10, 5, 8, 1]
  | _ => []

def X9_16378 : Ex → List Nat
  | .ret => [4]
  | .exit 2 => [5, 12, 10]
  | _ => []

noncomputable def I9_4090 : Pk → Option ((List Int) × (List Int) × Int × Bool × (List Int) × Int × (List (Int × (Int × Unit))) × Int × Int × (List Int) × (List Int))
  | ⟨[.adr 0 [], .ro (Ty.int IntKind.i64) x0, .ro (Ty.int IntKind.i64) x1, .sl 1 (none), .adr 2 [], .v (.int .i64 x2), .v (.bool x3)], [some (.var (.agg [.arr (Ty.int IntKind.i64) 16 x4, .sl 3 (none), .v (.int .i64 x5)])), some (.row (Ty.cons (Ty.int IntKind.i64) (Ty.cons (Ty.int IntKind.i64) Ty.unit)) 34 x6), some (.var (.agg [.sl 4 (none), .v (.int .i64 x7), .v (.int .i64 x8)])), some (.row (Ty.int IntKind.i64) 3 x9), some (.row (Ty.int IntKind.u8) 5 x10)]⟩ => some (x0, x1, x2, x3, x4, x5, x6, x7, x8, x9, x10)
  | _ => none

noncomputable def J9_4090 (x : (List Int) × (List Int) × Int × Bool × (List Int) × Int × (List (Int × (Int × Unit))) × Int × Int × (List Int) × (List Int)) : Pk := ⟨[.adr 0 [], .ro (Ty.int IntKind.i64) (x.1), .ro (Ty.int IntKind.i64) (x.2.1), .sl 1 (none), .adr 2 [], .v (.int .i64 (x.2.2.1)), .v (.bool (x.2.2.2.1))], [some (.var (.agg [.arr (Ty.int IntKind.i64) 16 (x.2.2.2.2.1), .sl 3 (none), .v (.int .i64 (x.2.2.2.2.2.1))])), some (.row (Ty.cons (Ty.int IntKind.i64) (Ty.cons (Ty.int IntKind.i64) Ty.unit)) 34 (x.2.2.2.2.2.2.1)), some (.var (.agg [.sl 4 (none), .v (.int .i64 (x.2.2.2.2.2.2.2.1)), .v (.int .i64 (x.2.2.2.2.2.2.2.2.1))])), some (.row (Ty.int IntKind.i64) 3 (x.2.2.2.2.2.2.2.2.2.1)), some (.row (Ty.int IntKind.u8) 5 (x.2.2.2.2.2.2.2.2.2.2))]⟩

theorem I9_4090_ok : ∀ pk x, I9_4090 pk = some x → pk = J9_4090 x := by
  intro pk x h
  unfold I9_4090 at h
  split at h <;> first | (cases h; rfl) | cases h

noncomputable def O9_4090 (r : ((Bool) ⊕ (Bool × (List Int) × Int × Int × (List Int) × Int × (List Int) × (List Int)))) : Tr (Ex × Pk) := .sum _ _ r (fun u => .ret (.ret, ⟨[.v (.bool (u))], []⟩)) (fun v => .ret (.exit 0, ⟨[.adr 0 [], .v (.bool (v.1)), .adr 1 [], .ro (Ty.int IntKind.i64) (v.2.1)], [some (.var (.agg [.sl 2 (none), .v (.int .i64 (v.2.2.1)), .v (.int .i64 (v.2.2.2.1))])), some (.var (.agg [.arr (Ty.int IntKind.i64) 16 (v.2.2.2.2.1), .sl 3 (none), .v (.int .i64 (v.2.2.2.2.2.1))])), some (.row (Ty.int IntKind.u8) 5 (v.2.2.2.2.2.2.1)), some (.row (Ty.int IntKind.i64) 3 (v.2.2.2.2.2.2.2))]⟩))

noncomputable def D9_4090 : Ex × Pk → Option (((Bool) ⊕ (Bool × (List Int) × Int × Int × (List Int) × Int × (List Int) × (List Int))))
  | (.ret, ⟨[.v (.bool x0)], []⟩) => some (.inl (x0))
  | (.exit 0, ⟨[.adr 0 [], .v (.bool x0), .adr 1 [], .ro (Ty.int IntKind.i64) x1], [some (.var (.agg [.sl 2 (none), .v (.int .i64 x2), .v (.int .i64 x3)])), some (.var (.agg [.arr (Ty.int IntKind.i64) 16 x4, .sl 3 (none), .v (.int .i64 x5)])), some (.row (Ty.int IntKind.u8) 5 x6), some (.row (Ty.int IntKind.i64) 3 x7)]⟩) => some (.inr ((x0, x1, x2, x3, x4, x5, x6, x7)))
  | _ => none

theorem D9_4090_ok : ∀ y r, D9_4090 y = some r → ∀ z, (O9_4090 r).to z → y = z := by
  intro y r h
  unfold D9_4090 at h
  split at h <;> first | (cases h; intro z hz; exact Option.some.inj hz) | cases h

noncomputable def B9_4090 (N : Nat) (f : ((List Int) × (List Int) × Int × Bool × (List Int) × Int × (List (Int × (Int × Unit))) × Int × Int × (List Int) × (List Int)) → Option (((Bool) ⊕ (Bool × (List Int) × Int × Int × (List Int) × Int × (List Int) × (List Int))))) : ((List Int) × (List Int) × Int × Bool × (List Int) × Int × (List (Int × (Int × Unit))) × Int × Int × (List Int) × (List Int)) → Option (((Bool) ⊕ (Bool × (List Int) × Int × Int × (List Int) × Int × (List Int) × (List Int))))
  | (x0, x1, x2, x3, x4, x5, x6, x7, x8, x9, x10) =>
  iteP (decide (x2 < (↑(List.length x1) : Int))) (
    iteP (within x2 (List.length x1)) (
      Option.bind (x1[Int.toNat x2]?) fun y0 =>
      iteP (decide (y0 < (0 : Int))) (
        some (.inl (x3))) (
        iteP (within x2 (List.length x1)) (
          Option.bind (x1[Int.toNat x2]?) fun y1 =>
          iteP (decide (y1 ≥ (↑(List.length x6) : Int))) (
            some (.inl (x3))) (
            iteP (within x2 (List.length x1)) (
              Option.bind (x1[Int.toNat x2]?) fun y2 =>
              iteP (within y2 (List.length x0)) (
                Option.bind (x0[Int.toNat y2]?) fun y3 =>
                iteP (y3 == (0 : Int)) (
                  some (.inl (x3))) (
                  iteP (within x2 (List.length x1)) (
                    Option.bind (x1[Int.toNat x2]?) fun y4 =>
                    iteP (within y4 (List.length x6)) (
                      Option.bind (x6[Int.toNat y4]?) fun y5 =>
                      Option.bind (F26 N (Prod.fst y5, Prod.fst (Prod.snd y5), x7, x8, x10)) fun y6 =>
                      Option.bind (f (x0, x1, IntKind.wrap IntKind.i64 (x2 + (1 : Int)), x3, x4, x5, x6, Prod.fst y6, Prod.fst (Prod.snd y6), x9, Prod.snd (Prod.snd y6))) fun r => match r with | .inl (y) => some (.inl (y)) | .inr (y) => some (.inr (y))) (
                      none)) (
                    none))) (
                none)) (
              none))) (
          none))) (
      none)) (
    some (.inr ((x3, x1, x7, x8, x4, x5, x10, x9))))

noncomputable def F9_4090 (N : Nat) : Nat → ((List Int) × (List Int) × Int × Bool × (List Int) × Int × (List (Int × (Int × Unit))) × Int × Int × (List Int) × (List Int)) → Option (((Bool) ⊕ (Bool × (List Int) × Int × Int × (List Int) × Int × (List Int) × (List Int))))
  | 0, _ => none
  | k + 1, x => B9_4090 N (F9_4090 N k) x

noncomputable def C9_4090 (N : Nat) (k : Nat) : Cut := ⟨[8, 0, 1, 6, 10, 11, 5], X9_4090, tellX I9_4090 (F9_4090 N k) O9_4090⟩

theorem B9_4090_eq (N : Nat) (f : ((List Int) × (List Int) × Int × Bool × (List Int) × Int × (List (Int × (Int × Unit))) × Int × Int × (List Int) × (List Int)) → Option (((Bool) ⊕ (Bool × (List Int) × Int × Int × (List Int) × Int × (List Int) × (List Int))))) (x0 : (List Int)) (x1 : (List Int)) (x2 : Int) (x3 : Bool) (x4 : (List Int)) (x5 : Int) (x6 : (List (Int × (Int × Unit)))) (x7 : Int) (x8 : Int) (x9 : (List Int)) (x10 : (List Int)) : (roundEv (mkE Try.prog ownT (tab9 N) []) Try.f9.ntmps A9 (loopAt (bod Try.f9) 4090) 4090 ⟨[8, 0, 1, 6, 10, 11, 5], X9_4090, tellX I9_4090 f O9_4090⟩ (J9_4090 (x0, x1, x2, x3, x4, x5, x6, x7, x8, x9, x10))).run D9_4090 = B9_4090 N f (x0, x1, x2, x3, x4, x5, x6, x7, x8, x9, x10) := by kernel_rfl

theorem C9_4090_ok (N : Nat) (k : Nat) : ∀ c', At (bod Try.f9) 4090 c' → CutOK Try.prog Try.f9.ntmps (idsL A9) c' (C9_4090 N k) :=
  loop_ok (E := (mkE Try.prog ownT (tab9 N) [])) (mkE_ok mix (tab9_ok N)) (cutsIn_ok trivial) (fuel := 200) (by decide +kernel) (by kernel_rfl) I9_4090_ok D9_4090_ok (B9_4090 N) (F9_4090 N) (fun _ => rfl) (fun _ _ => rfl) (fun f x => match x with | (x0, x1, x2, x3, x4, x5, x6, x7, x8, x9, x10) => B9_4090_eq N f x0 x1 x2 x3 x4 x5 x6 x7 x8 x9 x10) k

noncomputable def I9_16378 : Pk → Option (Bool × (List Int) × Int × Int × Int × (List Int) × Int × ByteArray × Int × Int × (List Int) × (List Int))
  | ⟨[.adr 0 [], .v (.bool x0), .adr 1 [], .adr 2 [], .ro (Ty.int IntKind.i64) x1, .v (.int .i64 x2)], [some (.var (.agg [.sl 3 (none), .v (.int .i64 x3), .v (.int .i64 x4)])), some (.var (.agg [.arr (Ty.int IntKind.i64) 16 x5, .sl 4 (none), .v (.int .i64 x6)])), some (.var (.agg [.v (.string x7), .v (.int .i64 x8), .v (.int .i64 x9)])), some (.row (Ty.int IntKind.u8) 5 x10), some (.row (Ty.int IntKind.i64) 3 x11)]⟩ => some (x0, x1, x2, x3, x4, x5, x6, x7, x8, x9, x10, x11)
  | _ => none

noncomputable def J9_16378 (x : Bool × (List Int) × Int × Int × Int × (List Int) × Int × ByteArray × Int × Int × (List Int) × (List Int)) : Pk := ⟨[.adr 0 [], .v (.bool (x.1)), .adr 1 [], .adr 2 [], .ro (Ty.int IntKind.i64) (x.2.1), .v (.int .i64 (x.2.2.1))], [some (.var (.agg [.sl 3 (none), .v (.int .i64 (x.2.2.2.1)), .v (.int .i64 (x.2.2.2.2.1))])), some (.var (.agg [.arr (Ty.int IntKind.i64) 16 (x.2.2.2.2.2.1), .sl 4 (none), .v (.int .i64 (x.2.2.2.2.2.2.1))])), some (.var (.agg [.v (.string (x.2.2.2.2.2.2.2.1)), .v (.int .i64 (x.2.2.2.2.2.2.2.2.1)), .v (.int .i64 (x.2.2.2.2.2.2.2.2.2.1))])), some (.row (Ty.int IntKind.u8) 5 (x.2.2.2.2.2.2.2.2.2.2.1)), some (.row (Ty.int IntKind.i64) 3 (x.2.2.2.2.2.2.2.2.2.2.2))]⟩

theorem I9_16378_ok : ∀ pk x, I9_16378 pk = some x → pk = J9_16378 x := by
  intro pk x h
  unfold I9_16378 at h
  split at h <;> first | (cases h; rfl) | cases h

noncomputable def O9_16378 (r : ((Bool) ⊕ (Bool × ByteArray × Int × Int × Int × Int × (List Int)))) : Tr (Ex × Pk) := .sum _ _ r (fun u => .ret (.ret, ⟨[.v (.bool (u))], []⟩)) (fun v => .ret (.exit 2, ⟨[.v (.bool (v.1)), .adr 0 [], .adr 1 []], [some (.var (.agg [.v (.string (v.2.1)), .v (.int .i64 (v.2.2.1)), .v (.int .i64 (v.2.2.2.1))])), some (.var (.agg [.sl 2 (none), .v (.int .i64 (v.2.2.2.2.1)), .v (.int .i64 (v.2.2.2.2.2.1))])), some (.row (Ty.int IntKind.u8) 5 (v.2.2.2.2.2.2))]⟩))

noncomputable def D9_16378 : Ex × Pk → Option (((Bool) ⊕ (Bool × ByteArray × Int × Int × Int × Int × (List Int))))
  | (.ret, ⟨[.v (.bool x0)], []⟩) => some (.inl (x0))
  | (.exit 2, ⟨[.v (.bool x0), .adr 0 [], .adr 1 []], [some (.var (.agg [.v (.string x1), .v (.int .i64 x2), .v (.int .i64 x3)])), some (.var (.agg [.sl 2 (none), .v (.int .i64 x4), .v (.int .i64 x5)])), some (.row (Ty.int IntKind.u8) 5 x6)]⟩) => some (.inr ((x0, x1, x2, x3, x4, x5, x6)))
  | _ => none

theorem D9_16378_ok : ∀ y r, D9_16378 y = some r → ∀ z, (O9_16378 r).to z → y = z := by
  intro y r h
  unfold D9_16378 at h
  split at h <;> first | (cases h; intro z hz; exact Option.some.inj hz) | cases h

noncomputable def B9_16378 (N : Nat) (f : (Bool × (List Int) × Int × Int × Int × (List Int) × Int × ByteArray × Int × Int × (List Int) × (List Int)) → Option (((Bool) ⊕ (Bool × ByteArray × Int × Int × Int × Int × (List Int))))) : (Bool × (List Int) × Int × Int × Int × (List Int) × Int × ByteArray × Int × Int × (List Int) × (List Int)) → Option (((Bool) ⊕ (Bool × ByteArray × Int × Int × Int × Int × (List Int))))
  | (x0, x1, x2, x3, x4, x5, x6, x7, x8, x9, x10, x11) =>
  iteP (decide (x2 < (↑(List.length x1) : Int))) (
    Option.bind (F23 N (x5, x6, x7, x8, x9, x11)) fun y0 =>
    iteP (within x2 (List.length x1)) (
      Option.bind (x1[Int.toNat x2]?) fun y1 =>
      iteP (Prod.fst y0 != y1) (
        some (.inl (false))) (
        iteP (Prod.fst (Prod.snd y0) != (0 : Int)) (
          some (.inl (false))) (
          Option.bind (f (x0, x1, IntKind.wrap IntKind.i64 (x2 + (1 : Int)), x3, x4, Prod.fst (Prod.snd (Prod.snd y0)), Prod.fst (Prod.snd (Prod.snd (Prod.snd y0))), Prod.fst (Prod.snd (Prod.snd (Prod.snd (Prod.snd y0)))), Prod.fst (Prod.snd (Prod.snd (Prod.snd (Prod.snd (Prod.snd y0))))), Prod.fst (Prod.snd (Prod.snd (Prod.snd (Prod.snd (Prod.snd (Prod.snd y0)))))), x10, Prod.snd (Prod.snd (Prod.snd (Prod.snd (Prod.snd (Prod.snd (Prod.snd y0)))))))) fun r => match r with | .inl (y) => some (.inl (y)) | .inr (y) => some (.inr (y))))) (
      none)) (
    some (.inr ((x0, x7, x8, x9, x3, x4, x10))))

noncomputable def F9_16378 (N : Nat) : Nat → (Bool × (List Int) × Int × Int × Int × (List Int) × Int × ByteArray × Int × Int × (List Int) × (List Int)) → Option (((Bool) ⊕ (Bool × ByteArray × Int × Int × Int × Int × (List Int))))
  | 0, _ => none
  | k + 1, x => B9_16378 N (F9_16378 N k) x

noncomputable def C9_16378 (N : Nat) (k : Nat) : Cut := ⟨[10, 5, 8, 12, 1, 13], X9_16378, tellX I9_16378 (F9_16378 N k) O9_16378⟩

theorem B9_16378_eq (N : Nat) (f : (Bool × (List Int) × Int × Int × Int × (List Int) × Int × ByteArray × Int × Int × (List Int) × (List Int)) → Option (((Bool) ⊕ (Bool × ByteArray × Int × Int × Int × Int × (List Int))))) (x0 : Bool) (x1 : (List Int)) (x2 : Int) (x3 : Int) (x4 : Int) (x5 : (List Int)) (x6 : Int) (x7 : ByteArray) (x8 : Int) (x9 : Int) (x10 : (List Int)) (x11 : (List Int)) : (roundEv (mkE Try.prog ownT (tab9 N) [(4090, (C9_4090 N N))]) Try.f9.ntmps A9 (loopAt (bod Try.f9) 16378) 16378 ⟨[10, 5, 8, 12, 1, 13], X9_16378, tellX I9_16378 f O9_16378⟩ (J9_16378 (x0, x1, x2, x3, x4, x5, x6, x7, x8, x9, x10, x11))).run D9_16378 = B9_16378 N f (x0, x1, x2, x3, x4, x5, x6, x7, x8, x9, x10, x11) := by kernel_rfl

theorem C9_16378_ok (N : Nat) (k : Nat) : ∀ c', At (bod Try.f9) 16378 c' → CutOK Try.prog Try.f9.ntmps (idsL A9) c' (C9_16378 N k) :=
  loop_ok (E := (mkE Try.prog ownT (tab9 N) [(4090, (C9_4090 N N))])) (mkE_ok mix (tab9_ok N)) (cutsIn_ok ⟨fun c' h => (C9_4090_ok N N c' h), trivial⟩) (fuel := 200) (by decide +kernel) (by kernel_rfl) I9_16378_ok D9_16378_ok (B9_16378 N) (F9_16378 N) (fun _ => rfl) (fun _ _ => rfl) (fun f x => match x with | (x0, x1, x2, x3, x4, x5, x6, x7, x8, x9, x10, x11) => B9_16378_eq N f x0 x1 x2 x3 x4 x5 x6 x7 x8 x9 x10 x11) k

noncomputable def O9 (r : Bool) : Tr (Pk) := .ret ⟨[.v (.bool (r))], []⟩

noncomputable def D9 : Pk → Option (Bool)
  | ⟨[.v (.bool x0)], []⟩ => some (x0)
  | _ => none

theorem D9_ok : ∀ y r, D9 y = some r → ∀ z, (O9 r).to z → y = z := by
  intro y r h
  unfold D9 at h
  split at h <;> first | (cases h; intro z hz; exact Option.some.inj hz) | cases h

noncomputable def F9 (N : Nat) : ((List Int) × (List Int)) → Option (Bool)
  | (x0, x1) =>
  Option.bind (F11 N ()) fun y0 =>
  iteP (!y0) (
    some (false)) (
    iteP (decide ((↑(List.length x0) : Int) > (340 : Int))) (
      some (y0)) (
      iteP (decide ((↑(List.length x1) : Int) > (340 : Int))) (
        some (y0)) (
        Option.bind (F14 N x0) fun y1 =>
        Option.bind (F20 N x0) fun y2 =>
        match y2 with
        | .inl y3 =>
          iteP (Prod.fst y1 != (0 : Int)) (
            iteP (y0) (
              iteP (Prod.fst y1 == y3) (
                some (true)) (
                some (false))) (
              some (false))) (
            iteP (y3 != (0 : Int)) (
              iteP (y0) (
                iteP (Prod.fst y1 == y3) (
                  some (true)) (
                  some (false))) (
                some (false))) (
              iteP (y0) (
                iteP (Prod.fst y1 == y3) (
                  some (true)) (
                  some (false))) (
                some (false))))
        | .inr y3 =>
          iteP (Prod.fst y1 != (0 : Int)) (
            iteP (y0) (
              iteP (Prod.fst y1 == Prod.fst y3) (
                some (false)) (
                some (false))) (
              some (false))) (
            iteP (Prod.fst y3 != (0 : Int)) (
              iteP (y0) (
                iteP (Prod.fst y1 == Prod.fst y3) (
                  some (false)) (
                  some (false))) (
                some (false))) (
              Option.bind (F9_4090 N N (x0, x1, (0 : Int), y0, Prod.fst (Prod.snd y3), Prod.fst (Prod.snd (Prod.snd y3)), Prod.snd y1, (0 : Int), (0 : Int), Prod.snd (Prod.snd (Prod.snd y3)), [])) fun y4 =>
              match y4 with
              | .inl y5 =>
                some (y5)
              | .inr y5 =>
                Option.bind (F27 N (Prod.fst (Prod.snd (Prod.snd (Prod.snd (Prod.snd (Prod.snd (Prod.snd y5)))))), Prod.fst (Prod.snd (Prod.snd y5)), Prod.fst (Prod.snd (Prod.snd (Prod.snd y5))), ())) fun y6 =>
                Option.bind (F22 N y6) fun y7 =>
                Option.bind (F9_16378 N N (Prod.fst y5, Prod.fst (Prod.snd y5), (0 : Int), Prod.fst (Prod.snd (Prod.snd y5)), Prod.fst (Prod.snd (Prod.snd (Prod.snd y5))), Prod.fst (Prod.snd (Prod.snd (Prod.snd (Prod.snd y5)))), Prod.fst (Prod.snd (Prod.snd (Prod.snd (Prod.snd (Prod.snd y5))))), Prod.fst y7, Prod.fst (Prod.snd y7), Prod.snd (Prod.snd y7), Prod.fst (Prod.snd (Prod.snd (Prod.snd (Prod.snd (Prod.snd (Prod.snd y5)))))), Prod.snd (Prod.snd (Prod.snd (Prod.snd (Prod.snd (Prod.snd (Prod.snd y5)))))))) fun y8 =>
                match y8 with
                | .inl y9 =>
                  some (y9)
                | .inr y9 =>
                  iteP (Prod.fst y9) (
                    Option.bind (F25 N (Prod.fst (Prod.snd y9), Prod.fst (Prod.snd (Prod.snd y9)), Prod.fst (Prod.snd (Prod.snd (Prod.snd y9))), ())) fun y10 =>
                    Option.bind (F28 N (Prod.snd (Prod.snd (Prod.snd (Prod.snd (Prod.snd (Prod.snd y9))))), Prod.fst (Prod.snd (Prod.snd (Prod.snd (Prod.snd y9)))), Prod.fst (Prod.snd (Prod.snd (Prod.snd (Prod.snd (Prod.snd y9))))), ())) fun y11 =>
                    some (y10 == y11)) (
                    some (false)))))))

theorem F9_eq (N : Nat) (x0 : (List Int)) (x1 : (List Int)) : (fnEv (mkE Try.prog ownT (tab9 N) [(4090, (C9_4090 N N)), (16378, (C9_16378 N N))]) Try.f9 (J9 (x0, x1))).run D9 = F9 N (x0, x1) := by kernel_rfl

noncomputable def T9 (N : Nat) : Pk → Tr Pk := tell I9 (F9 N) O9

theorem T9_ok (N : Nat) : FOK Try.prog 9 (T9 N) :=
  (tell_ok (E := (mkE Try.prog ownT (tab9 N) [(4090, (C9_4090 N N)), (16378, (C9_16378 N N))])) (mkE_ok mix (tab9_ok N)) Try.func9 (show Try.f9.body = some (bod Try.f9) by kernel_rfl) (by decide +kernel) (F := F9 N) I9_ok D9_ok (args := A9) (fun _ => by kernel_rfl) (fun _ => by show 2 ≤ Try.f9.ntmps; exact of_decide_eq_true (by kernel_rfl)) (cutsIn_ok ⟨fun c' h => (C9_4090_ok N N c' h), ⟨fun c' h => (C9_16378_ok N N c' h), trivial⟩⟩) (fun x => match x with | (x0, x1) => F9_eq N x0 x1))


end Go.Proofs.Ytpjkklailofkjaa.Am
