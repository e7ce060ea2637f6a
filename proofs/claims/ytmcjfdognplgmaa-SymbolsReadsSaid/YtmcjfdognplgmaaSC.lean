/- The seat's Go functions come to the Lean functions written here, wherever these give an answer (third part). -/
import Derived.Test.YtmcjfdognplgmaaSB
set_option linter.unusedVariables false
set_option maxRecDepth 100000
namespace Go.Proofs.Ytmcjfdognplgmaa.Am
open Go.Am

/-! ## f44: mirador/miradorref02.Count -/

noncomputable def I44 : Pk → Option (Int)
  | ⟨[.v (.int .i64 x0)], []⟩ => some x0
  | _ => none

noncomputable def J44 (x : Int) : Pk := ⟨[.v (.int .i64 (x))], []⟩

theorem I44_ok : ∀ pk x, I44 pk = some x → pk = J44 x := by
  intro pk x h
  unfold I44 at h
  split at h <;> first | (cases h; rfl) | cases h

noncomputable def A44 : List TV := []

noncomputable def tab44 (N : Nat) : List (Nat × (Pk → Tr Pk)) := []

theorem tab44_ok (N : Nat) : TabOK Try.prog (tab44 N) := trivial

noncomputable def O44 (r : Int) : Tr (Pk) := .ret ⟨[.v (.int .i64 (r))], []⟩

noncomputable def D44 : Pk → Option (Int)
  | ⟨[.v (.int .i64 x0)], []⟩ => some (x0)
  | _ => none

theorem D44_ok : ∀ y r, D44 y = some r → ∀ z, (O44 r).to z → y = z := by
  intro y r h
  unfold D44 at h
  split at h <;> first | (cases h; intro z hz; exact Option.some.inj hz) | cases h

noncomputable def F44 (N : Nat) : (Int) → Option (Int)
  | x0 =>
  some (if (32 : Int) < if (0 : Int) > x0 then (0 : Int) else x0 then (32 : Int) else if (0 : Int) > x0 then (0 : Int) else x0)

theorem F44_eq (N : Nat) (x0 : Int) : (fnEv (mkE Try.prog ownT (tab44 N) []) Try.f44 (J44 x0)).run D44 = F44 N x0 := by kernel_rfl

noncomputable def T44 (N : Nat) : Pk → Tr Pk := tell I44 (F44 N) O44

theorem T44_ok (N : Nat) : FOK Try.prog 44 (T44 N) :=
  tell_ok (E := (mkE Try.prog ownT (tab44 N) [])) (mkE_ok mix (tab44_ok N)) Try.func44 (show Try.f44.body = some (bod Try.f44) by kernel_rfl) (by decide +kernel) I44_ok D44_ok (args := A44) (fun _ => by kernel_rfl) (fun _ => by show 1 ≤ Try.f44.ntmps; exact of_decide_eq_true (by kernel_rfl)) (cutsIn_ok trivial) (fun x => match x with | x0 => F44_eq N x0)

/-! ## f24: mirador/miradorref02.Of -/

noncomputable def I24 : Pk → Option (Int × Int)
  | ⟨[.v (.int .i64 x0), .v (.int .i64 x1)], []⟩ => some (x0, x1)
  | _ => none

noncomputable def J24 (x : Int × Int) : Pk := ⟨[.v (.int .i64 (x.1)), .v (.int .i64 (x.2))], []⟩

theorem I24_ok : ∀ pk x, I24 pk = some x → pk = J24 x := by
  intro pk x h
  unfold I24 at h
  split at h <;> first | (cases h; rfl) | cases h

noncomputable def A24 : List TV := []

noncomputable def tab24 (N : Nat) : List (Nat × (Pk → Tr Pk)) := [(44, T44 N)]

theorem tab24_ok (N : Nat) : TabOK Try.prog (tab24 N) := ⟨T44_ok N, trivial⟩

def X24_58 : Ex → List Nat
  | .ret => [4]
  | .exit 0 => [5]
  | _ => []

noncomputable def I24_58 : Pk → Option (Int × Int × Int × (List Bool))
  | ⟨[.sl 0 (none), .v (.int .i64 x0), .v (.int .i64 x1), .v (.int .i64 x2)], [some (.row (Ty.bool) 4 x3)]⟩ => some (x0, x1, x2, x3)
  | _ => none

noncomputable def J24_58 (x : Int × Int × Int × (List Bool)) : Pk := ⟨[.sl 0 (none), .v (.int .i64 (x.1)), .v (.int .i64 (x.2.1)), .v (.int .i64 (x.2.2.1))], [some (.row (Ty.bool) 4 (x.2.2.2))]⟩

theorem I24_58_ok : ∀ pk x, I24_58 pk = some x → pk = J24_58 x := by
  intro pk x h
  unfold I24_58 at h
  split at h <;> first | (cases h; rfl) | cases h

noncomputable def O24_58 (r : (List Bool)) : Tr (Ex × Pk) := .ret (.exit 0, ⟨[.sl 0 (none)], [some (.row (Ty.bool) 4 (r))]⟩)

noncomputable def D24_58 : Ex × Pk → Option ((List Bool))
  | (.exit 0, ⟨[.sl 0 (none)], [some (.row (Ty.bool) 4 x0)]⟩) => some (x0)
  | _ => none

theorem D24_58_ok : ∀ y r, D24_58 y = some r → ∀ z, (O24_58 r).to z → y = z := by
  intro y r h
  unfold D24_58 at h
  split at h <;> first | (cases h; intro z hz; exact Option.some.inj hz) | cases h

noncomputable def B24_58 (N : Nat) (f : (Int × Int × Int × (List Bool)) → Option ((List Bool))) : (Int × Int × Int × (List Bool)) → Option ((List Bool))
  | (x0, x1, x2, x3) =>
  Option.bind (F44 N x2) fun y0 =>
  if (decide (x1 < y0)) = true then
    if (decide ((List.length x3 + List.length [IntKind.wrap IntKind.i64 (↑(BitVec.toNat (BitVec.ofInt (64 : Nat) x0 &&& BitVec.ofInt (64 : Nat) (1 : Int))) : Int) == (1 : Int)]) * (1 : Nat) ≤ (140737488355328 : Nat) ∧ List.length x3 + List.length [IntKind.wrap IntKind.i64 (↑(BitVec.toNat (BitVec.ofInt (64 : Nat) x0 &&& BitVec.ofInt (64 : Nat) (1 : Int))) : Int) == (1 : Int)] ≤ (140737488355328 : Nat))) = true then
      Option.bind (f (Int.fdiv x0 (2 : Int), IntKind.wrap IntKind.i64 (x1 + (1 : Int)), x2, x3 ++ [IntKind.wrap IntKind.i64 (↑(BitVec.toNat (BitVec.ofInt (64 : Nat) x0 &&& BitVec.ofInt (64 : Nat) (1 : Int))) : Int) == (1 : Int)])) fun r => some r
    else
      none
  else
    some (x3)

noncomputable def F24_58 (N : Nat) : Nat → (Int × Int × Int × (List Bool)) → Option ((List Bool))
  | 0, _ => none
  | k + 1, x => B24_58 N (F24_58 N k) x

noncomputable def C24_58 (N k : Nat) : Cut := ⟨[5, 1, 6, 0], X24_58, tellX I24_58 (F24_58 N k) O24_58⟩

theorem B24_58_eq (N : Nat) (f : (Int × Int × Int × (List Bool)) → Option ((List Bool))) (x0 : Int) (x1 : Int) (x2 : Int) (x3 : (List Bool)) : (roundEv (mkE Try.prog ownT (tab24 N) []) Try.f24.ntmps A24 (loopAt (bod Try.f24) 58) 58 ⟨[5, 1, 6, 0], X24_58, tellX I24_58 f O24_58⟩ (J24_58 (x0, x1, x2, x3))).run D24_58 = B24_58 N f (x0, x1, x2, x3) := by kernel_rfl

theorem C24_58_ok (N k : Nat) : ∀ c', At (bod Try.f24) 58 c' → CutOK Try.prog Try.f24.ntmps (idsL A24) c' (C24_58 N k) :=
  loop_ok (E := (mkE Try.prog ownT (tab24 N) [])) (mkE_ok mix (tab24_ok N)) (cutsIn_ok trivial) (fuel := 200) (by decide +kernel) (by kernel_rfl) I24_58_ok D24_58_ok (B24_58 N) (F24_58 N) (fun _ => rfl) (fun _ _ => rfl) (fun f x => match x with | (x0, x1, x2, x3) => B24_58_eq N f x0 x1 x2 x3) k

noncomputable def O24 (r : (List Bool)) : Tr (Pk) := .ret ⟨[.sl 0 (none)], [some (.row (Ty.bool) 4 (r))]⟩

noncomputable def D24 : Pk → Option ((List Bool))
  | ⟨[.sl 0 (none)], [some (.row (Ty.bool) 4 x0)]⟩ => some (x0)
  | _ => none

theorem D24_ok : ∀ y r, D24 y = some r → ∀ z, (O24 r).to z → y = z := by
  intro y r h
  unfold D24 at h
  split at h <;> first | (cases h; intro z hz; exact Option.some.inj hz) | cases h

noncomputable def F24 (N : Nat) : (Int × Int) → Option ((List Bool))
  | (x0, x1) =>
  Option.bind (F24_58 N N (x1, (0 : Int), x0, [])) fun y0 =>
  some (y0)

theorem F24_eq (N : Nat) (x0 : Int) (x1 : Int) : (fnEv (mkE Try.prog ownT (tab24 N) [(58, (C24_58 N N))]) Try.f24 (J24 (x0, x1))).run D24 = F24 N (x0, x1) := by kernel_rfl

noncomputable def T24 (N : Nat) : Pk → Tr Pk := tell I24 (F24 N) O24

theorem T24_ok (N : Nat) : FOK Try.prog 24 (T24 N) :=
  tell_ok (E := (mkE Try.prog ownT (tab24 N) [(58, (C24_58 N N))])) (mkE_ok mix (tab24_ok N)) Try.func24 (show Try.f24.body = some (bod Try.f24) by kernel_rfl) (by decide +kernel) I24_ok D24_ok (args := A24) (fun _ => by kernel_rfl) (fun _ => by show 2 ≤ Try.f24.ntmps; exact of_decide_eq_true (by kernel_rfl)) (cutsIn_ok ⟨fun c' h => (C24_58_ok N N c' h), trivial⟩) (fun x => match x with | (x0, x1) => F24_eq N x0 x1)

/-! ## f63: mirador/miradorref05.Power -/

noncomputable def I63 : Pk → Option (Int)
  | ⟨[.v (.int .i64 x0)], []⟩ => some x0
  | _ => none

noncomputable def J63 (x : Int) : Pk := ⟨[.v (.int .i64 (x))], []⟩

theorem I63_ok : ∀ pk x, I63 pk = some x → pk = J63 x := by
  intro pk x h
  unfold I63 at h
  split at h <;> first | (cases h; rfl) | cases h

noncomputable def A63 : List TV := []

noncomputable def tab63 (N : Nat) : List (Nat × (Pk → Tr Pk)) := []

theorem tab63_ok (N : Nat) : TabOK Try.prog (tab63 N) := trivial

def X63_58 : Ex → List Nat
  | .ret => [2]
  | .exit 0 => [3]
  | _ => []

noncomputable def I63_58 : Pk → Option (Int × Int × Int)
  | ⟨[.v (.int .i64 x0), .v (.int .i64 x1), .v (.int .i64 x2)], []⟩ => some (x0, x1, x2)
  | _ => none

noncomputable def J63_58 (x : Int × Int × Int) : Pk := ⟨[.v (.int .i64 (x.1)), .v (.int .i64 (x.2.1)), .v (.int .i64 (x.2.2))], []⟩

theorem I63_58_ok : ∀ pk x, I63_58 pk = some x → pk = J63_58 x := by
  intro pk x h
  unfold I63_58 at h
  split at h <;> first | (cases h; rfl) | cases h

noncomputable def O63_58 (r : Int) : Tr (Ex × Pk) := .ret (.exit 0, ⟨[.v (.int .i64 (r))], []⟩)

noncomputable def D63_58 : Ex × Pk → Option (Int)
  | (.exit 0, ⟨[.v (.int .i64 x0)], []⟩) => some (x0)
  | _ => none

theorem D63_58_ok : ∀ y r, D63_58 y = some r → ∀ z, (O63_58 r).to z → y = z := by
  intro y r h
  unfold D63_58 at h
  split at h <;> first | (cases h; intro z hz; exact Option.some.inj hz) | cases h

noncomputable def B63_58 (N : Nat) (f : (Int × Int × Int) → Option (Int)) : (Int × Int × Int) → Option (Int)
  | (x0, x1, x2) =>
  if (decide (x1 < x2)) = true then
    Option.bind (f (IntKind.wrap IntKind.i64 (x0 * (2 : Int)), IntKind.wrap IntKind.i64 (x1 + (1 : Int)), x2)) fun r => some r
  else
    some (x0)

noncomputable def F63_58 (N : Nat) : Nat → (Int × Int × Int) → Option (Int)
  | 0, _ => none
  | k + 1, x => B63_58 N (F63_58 N k) x

noncomputable def C63_58 (N k : Nat) : Cut := ⟨[3, 4, 0], X63_58, tellX I63_58 (F63_58 N k) O63_58⟩

theorem B63_58_eq (N : Nat) (f : (Int × Int × Int) → Option (Int)) (x0 : Int) (x1 : Int) (x2 : Int) : (roundEv (mkE Try.prog ownT (tab63 N) []) Try.f63.ntmps A63 (loopAt (bod Try.f63) 58) 58 ⟨[3, 4, 0], X63_58, tellX I63_58 f O63_58⟩ (J63_58 (x0, x1, x2))).run D63_58 = B63_58 N f (x0, x1, x2) := by kernel_rfl

theorem C63_58_ok (N k : Nat) : ∀ c', At (bod Try.f63) 58 c' → CutOK Try.prog Try.f63.ntmps (idsL A63) c' (C63_58 N k) :=
  loop_ok (E := (mkE Try.prog ownT (tab63 N) [])) (mkE_ok mix (tab63_ok N)) (cutsIn_ok trivial) (fuel := 200) (by decide +kernel) (by kernel_rfl) I63_58_ok D63_58_ok (B63_58 N) (F63_58 N) (fun _ => rfl) (fun _ _ => rfl) (fun f x => match x with | (x0, x1, x2) => B63_58_eq N f x0 x1 x2) k

noncomputable def O63 (r : Int) : Tr (Pk) := .ret ⟨[.v (.int .i64 (r))], []⟩

noncomputable def D63 : Pk → Option (Int)
  | ⟨[.v (.int .i64 x0)], []⟩ => some (x0)
  | _ => none

theorem D63_ok : ∀ y r, D63 y = some r → ∀ z, (O63 r).to z → y = z := by
  intro y r h
  unfold D63 at h
  split at h <;> first | (cases h; intro z hz; exact Option.some.inj hz) | cases h

noncomputable def F63 (N : Nat) : (Int) → Option (Int)
  | x0 =>
  Option.bind (F63_58 N N ((1 : Int), (0 : Int), x0)) fun y0 =>
  some (y0)

theorem F63_eq (N : Nat) (x0 : Int) : (fnEv (mkE Try.prog ownT (tab63 N) [(58, (C63_58 N N))]) Try.f63 (J63 x0)).run D63 = F63 N x0 := by kernel_rfl

noncomputable def T63 (N : Nat) : Pk → Tr Pk := tell I63 (F63 N) O63

theorem T63_ok (N : Nat) : FOK Try.prog 63 (T63 N) :=
  tell_ok (E := (mkE Try.prog ownT (tab63 N) [(58, (C63_58 N N))])) (mkE_ok mix (tab63_ok N)) Try.func63 (show Try.f63.body = some (bod Try.f63) by kernel_rfl) (by decide +kernel) I63_ok D63_ok (args := A63) (fun _ => by kernel_rfl) (fun _ => by show 1 ≤ Try.f63.ntmps; exact of_decide_eq_true (by kernel_rfl)) (cutsIn_ok ⟨fun c' h => (C63_58_ok N N c' h), trivial⟩) (fun x => match x with | x0 => F63_eq N x0)

/-! ## f48: mirador/miradorref05.Check -/

noncomputable def I48 : Pk → Option ((List Int))
  | ⟨[.ro (.int .i64) x0], []⟩ => some x0
  | _ => none

noncomputable def J48 (x : (List Int)) : Pk := ⟨[.ro (.int .i64) (x)], []⟩

theorem I48_ok : ∀ pk x, I48 pk = some x → pk = J48 x := by
  intro pk x h
  unfold I48 at h
  split at h <;> first | (cases h; rfl) | cases h

noncomputable def A48 : List TV := []

noncomputable def tab48 (N : Nat) : List (Nat × (Pk → Tr Pk)) := [(63, T63 N)]

theorem tab48_ok (N : Nat) : TabOK Try.prog (tab48 N) := ⟨T63_ok N, trivial⟩

def X48_122 : Ex → List Nat
  | .ret => [2, 3]
  | .exit 0 => [4]
  | _ => []

noncomputable def I48_122 : Pk → Option ((List Int) × Int × Int)
  | ⟨[.ro (Ty.int IntKind.i64) x0, .v (.int .i64 x1), .v (.int .i64 x2)], []⟩ => some (x0, x1, x2)
  | _ => none

noncomputable def J48_122 (x : (List Int) × Int × Int) : Pk := ⟨[.ro (Ty.int IntKind.i64) (x.1), .v (.int .i64 (x.2.1)), .v (.int .i64 (x.2.2))], []⟩

theorem I48_122_ok : ∀ pk x, I48_122 pk = some x → pk = J48_122 x := by
  intro pk x h
  unfold I48_122 at h
  split at h <;> first | (cases h; rfl) | cases h

noncomputable def O48_122 (r : ((Int × Int) ⊕ (Int))) : Tr (Ex × Pk) := .sum _ _ r (fun u => .ret (.ret, ⟨[.v (.int .i64 (u.1)), .v (.int .i64 (u.2))], []⟩)) (fun v => .ret (.exit 0, ⟨[.v (.int .i64 (v))], []⟩))

noncomputable def D48_122 : Ex × Pk → Option (((Int × Int) ⊕ (Int)))
  | (.ret, ⟨[.v (.int .i64 x0), .v (.int .i64 x1)], []⟩) => some (.inl ((x0, x1)))
  | (.exit 0, ⟨[.v (.int .i64 x0)], []⟩) => some (.inr (x0))
  | _ => none

theorem D48_122_ok : ∀ y r, D48_122 y = some r → ∀ z, (O48_122 r).to z → y = z := by
  intro y r h
  unfold D48_122 at h
  split at h <;> first | (cases h; intro z hz; exact Option.some.inj hz) | cases h

noncomputable def B48_122 (N : Nat) (f : ((List Int) × Int × Int) → Option (((Int × Int) ⊕ (Int)))) : ((List Int) × Int × Int) → Option (((Int × Int) ⊕ (Int)))
  | (x0, x1, x2) =>
  if (decide (x1 < (↑(List.length x0) : Int))) = true then
    if (within x1 (List.length x0)) = true then
      Option.bind (x0[Int.toNat x1]?) fun y0 =>
      if (decide (y0 < (0 : Int))) = true then
        some (.inl (((0 : Int), (50 : Int))))
      else
        if (within x1 (List.length x0)) = true then
          Option.bind (x0[Int.toNat x1]?) fun y1 =>
          if (decide (y1 > (15 : Int))) = true then
            some (.inl (((0 : Int), (50 : Int))))
          else
            if (within x1 (List.length x0)) = true then
              Option.bind (x0[Int.toNat x1]?) fun y2 =>
              if (decide (y2 > (0 : Int))) = true then
                if (within x1 (List.length x0)) = true then
                  Option.bind (x0[Int.toNat x1]?) fun y3 =>
                  Option.bind (F63 N (IntKind.wrap IntKind.i64 ((15 : Int) - y3))) fun y4 =>
                  Option.bind (f (x0, IntKind.wrap IntKind.i64 (x1 + (1 : Int)), IntKind.wrap IntKind.i64 (x2 - y4))) fun r => match r with | .inl (y) => some (.inl (y)) | .inr (y) => some (.inr (y))
                else
                  none
              else
                Option.bind (f (x0, IntKind.wrap IntKind.i64 (x1 + (1 : Int)), x2)) fun r => match r with | .inl (y) => some (.inl (y)) | .inr (y) => some (.inr (y))
            else
              none
        else
          none
    else
      none
  else
    some (.inr (x2))

noncomputable def F48_122 (N : Nat) : Nat → ((List Int) × Int × Int) → Option (((Int × Int) ⊕ (Int)))
  | 0, _ => none
  | k + 1, x => B48_122 N (F48_122 N k) x

noncomputable def C48_122 (N k : Nat) : Cut := ⟨[0, 5, 4], X48_122, tellX I48_122 (F48_122 N k) O48_122⟩

theorem B48_122_eq (N : Nat) (f : ((List Int) × Int × Int) → Option (((Int × Int) ⊕ (Int)))) (x0 : (List Int)) (x1 : Int) (x2 : Int) : (roundEv (mkE Try.prog ownT (tab48 N) []) Try.f48.ntmps A48 (loopAt (bod Try.f48) 122) 122 ⟨[0, 5, 4], X48_122, tellX I48_122 f O48_122⟩ (J48_122 (x0, x1, x2))).run D48_122 = B48_122 N f (x0, x1, x2) := by kernel_rfl

theorem C48_122_ok (N k : Nat) : ∀ c', At (bod Try.f48) 122 c' → CutOK Try.prog Try.f48.ntmps (idsL A48) c' (C48_122 N k) :=
  loop_ok (E := (mkE Try.prog ownT (tab48 N) [])) (mkE_ok mix (tab48_ok N)) (cutsIn_ok trivial) (fuel := 200) (by decide +kernel) (by kernel_rfl) I48_122_ok D48_122_ok (B48_122 N) (F48_122 N) (fun _ => rfl) (fun _ _ => rfl) (fun f x => match x with | (x0, x1, x2) => B48_122_eq N f x0 x1 x2) k

noncomputable def O48 (r : Int × Int) : Tr (Pk) := .ret ⟨[.tup [.v (.int .i64 (r.1)), .v (.int .i64 (r.2))]], []⟩

noncomputable def D48 : Pk → Option (Int × Int)
  | ⟨[.tup [.v (.int .i64 x0), .v (.int .i64 x1)]], []⟩ => some ((x0, x1))
  | _ => none

theorem D48_ok : ∀ y r, D48 y = some r → ∀ z, (O48 r).to z → y = z := by
  intro y r h
  unfold D48 at h
  split at h <;> first | (cases h; intro z hz; exact Option.some.inj hz) | cases h

noncomputable def F48 (N : Nat) : ((List Int)) → Option (Int × Int)
  | x0 =>
  if (decide ((↑(List.length x0) : Int) > (320 : Int))) = true then
    some (((0 : Int), (50 : Int)))
  else
    Option.bind (F48_122 N N (x0, (0 : Int), (32768 : Int))) fun y0 =>
    match y0 with
    | .inl y1 =>
      some ((Prod.fst y1, Prod.snd y1))
    | .inr y1 =>
      if (decide (y1 < (0 : Int))) = true then
        some (((0 : Int), (50 : Int)))
      else
        some ((y1, (0 : Int)))

theorem F48_eq (N : Nat) (x0 : (List Int)) : (fnEv (mkE Try.prog ownT (tab48 N) [(122, (C48_122 N N))]) Try.f48 (J48 x0)).run D48 = F48 N x0 := by kernel_rfl

noncomputable def T48 (N : Nat) : Pk → Tr Pk := tell I48 (F48 N) O48

theorem T48_ok (N : Nat) : FOK Try.prog 48 (T48 N) :=
  tell_ok (E := (mkE Try.prog ownT (tab48 N) [(122, (C48_122 N N))])) (mkE_ok mix (tab48_ok N)) Try.func48 (show Try.f48.body = some (bod Try.f48) by kernel_rfl) (by decide +kernel) I48_ok D48_ok (args := A48) (fun _ => by kernel_rfl) (fun _ => by show 1 ≤ Try.f48.ntmps; exact of_decide_eq_true (by kernel_rfl)) (cutsIn_ok ⟨fun c' h => (C48_122_ok N N c' h), trivial⟩) (fun x => match x with | x0 => F48_eq N x0)

/-! ## f49: mirador/miradorref05.Codes -/

noncomputable def I49 : Pk → Option ((List Int))
  | ⟨[.ro (.int .i64) x0], []⟩ => some x0
  | _ => none

noncomputable def J49 (x : (List Int)) : Pk := ⟨[.ro (.int .i64) (x)], []⟩

theorem I49_ok : ∀ pk x, I49 pk = some x → pk = J49 x := by
  intro pk x h
  unfold I49 at h
  split at h <;> first | (cases h; rfl) | cases h

noncomputable def A49 : List TV := []

noncomputable def tab49 (N : Nat) : List (Nat × (Pk → Tr Pk)) := []

theorem tab49_ok (N : Nat) : TabOK Try.prog (tab49 N) := trivial

def X49_15654 : Ex → List Nat
  | .ret => [2]
  | .exit 2 => [5, 4, 0, 3]
  | .exit 1 => [5, 4, 0, 3]
  | .exit 0 => [3]
  | _ => []

def X49_122 : Ex → List Nat
  | .ret => [2]
  | .exit 0 => [3]
  | _ => []

noncomputable def I49_122 : Pk → Option (Int × (List Int) × Int × (List (Int × (Int × Unit))))
  | ⟨[.v (.int .i64 x0), .ro (Ty.int IntKind.i64) x1, .sl 0 (none), .v (.int .i64 x2)], [some (.row (Ty.cons (Ty.int IntKind.i64) (Ty.cons (Ty.int IntKind.i64) Ty.unit)) 78 x3)]⟩ => some (x0, x1, x2, x3)
  | _ => none

noncomputable def J49_122 (x : Int × (List Int) × Int × (List (Int × (Int × Unit)))) : Pk := ⟨[.v (.int .i64 (x.1)), .ro (Ty.int IntKind.i64) (x.2.1), .sl 0 (none), .v (.int .i64 (x.2.2.1))], [some (.row (Ty.cons (Ty.int IntKind.i64) (Ty.cons (Ty.int IntKind.i64) Ty.unit)) 78 (x.2.2.2))]⟩

theorem I49_122_ok : ∀ pk x, I49_122 pk = some x → pk = J49_122 x := by
  intro pk x h
  unfold I49_122 at h
  split at h <;> first | (cases h; rfl) | cases h

noncomputable def I49_15654 : Pk → Option (Int × Int × (List Int) × Int × (List (Int × (Int × Unit))))
  | ⟨[.v (.int .i64 x0), .v (.int .i64 x1), .ro (Ty.int IntKind.i64) x2, .sl 0 (none), .v (.int .i64 x3)], [some (.row (Ty.cons (Ty.int IntKind.i64) (Ty.cons (Ty.int IntKind.i64) Ty.unit)) 78 x4)]⟩ => some (x0, x1, x2, x3, x4)
  | _ => none

noncomputable def J49_15654 (x : Int × Int × (List Int) × Int × (List (Int × (Int × Unit)))) : Pk := ⟨[.v (.int .i64 (x.1)), .v (.int .i64 (x.2.1)), .ro (Ty.int IntKind.i64) (x.2.2.1), .sl 0 (none), .v (.int .i64 (x.2.2.2.1))], [some (.row (Ty.cons (Ty.int IntKind.i64) (Ty.cons (Ty.int IntKind.i64) Ty.unit)) 78 (x.2.2.2.2))]⟩

theorem I49_15654_ok : ∀ pk x, I49_15654 pk = some x → pk = J49_15654 x := by
  intro pk x h
  unfold I49_15654 at h
  split at h <;> first | (cases h; rfl) | cases h

noncomputable def O49_15654 (r : Int × Int × (List Int) × (List (Int × (Int × Unit)))) : Tr (Ex × Pk) := .ret (.exit 2, ⟨[.v (.int .i64 (r.1)), .v (.int .i64 (r.2.1)), .ro (Ty.int IntKind.i64) (r.2.2.1), .sl 0 (none)], [some (.row (Ty.cons (Ty.int IntKind.i64) (Ty.cons (Ty.int IntKind.i64) Ty.unit)) 78 (r.2.2.2))]⟩)

noncomputable def D49_15654 : Ex × Pk → Option (Int × Int × (List Int) × (List (Int × (Int × Unit))))
  | (.exit 2, ⟨[.v (.int .i64 x0), .v (.int .i64 x1), .ro (Ty.int IntKind.i64) x2, .sl 0 (none)], [some (.row (Ty.cons (Ty.int IntKind.i64) (Ty.cons (Ty.int IntKind.i64) Ty.unit)) 78 x3)]⟩) => some ((x0, x1, x2, x3))
  | _ => none

theorem D49_15654_ok : ∀ y r, D49_15654 y = some r → ∀ z, (O49_15654 r).to z → y = z := by
  intro y r h
  unfold D49_15654 at h
  split at h <;> first | (cases h; intro z hz; exact Option.some.inj hz) | cases h

noncomputable def B49_15654 (N : Nat) (f : (Int × Int × (List Int) × Int × (List (Int × (Int × Unit)))) → Option (Int × Int × (List Int) × (List (Int × (Int × Unit))))) : (Int × Int × (List Int) × Int × (List (Int × (Int × Unit)))) → Option (Int × Int × (List Int) × (List (Int × (Int × Unit))))
  | (x0, x1, x2, x3, x4) =>
  if (decide (x1 < (↑(List.length x2) : Int))) = true then
    if (within x1 (List.length x2)) = true then
      Option.bind (x2[Int.toNat x1]?) fun y0 =>
      if (y0 == x3) = true then
        if (within x1 (List.length x4)) = true then
          Option.bind (x4[Int.toNat x1]?) fun y1 =>
          Option.bind (f (IntKind.wrap IntKind.i64 (x0 + (1 : Int)), IntKind.wrap IntKind.i64 (x1 + (1 : Int)), x2, x3, List.set x4 (Int.toNat x1) (x0, x3, ()))) fun r => some r
        else
          none
      else
        Option.bind (f (x0, IntKind.wrap IntKind.i64 (x1 + (1 : Int)), x2, x3, x4)) fun r => some r
    else
      none
  else
    some ((x3, x0, x2, x4))

noncomputable def F49_15654 (N : Nat) : Nat → (Int × Int × (List Int) × Int × (List (Int × (Int × Unit)))) → Option (Int × Int × (List Int) × (List (Int × (Int × Unit))))
  | 0, _ => none
  | k + 1, x => B49_15654 N (F49_15654 N k) x

noncomputable def C49_15654 (N k : Nat) : Cut := ⟨[4, 6, 0, 3, 5], X49_15654, tellX I49_15654 (F49_15654 N k) O49_15654⟩

theorem B49_15654_eq (N : Nat) (f : (Int × Int × (List Int) × Int × (List (Int × (Int × Unit)))) → Option (Int × Int × (List Int) × (List (Int × (Int × Unit))))) (x0 : Int) (x1 : Int) (x2 : (List Int)) (x3 : Int) (x4 : (List (Int × (Int × Unit)))) : (roundEv (mkE Try.prog ownT (tab49 N) []) Try.f49.ntmps A49 (loopAt (bod Try.f49) 15654) 15654 ⟨[4, 6, 0, 3, 5], X49_15654, tellX I49_15654 f O49_15654⟩ (J49_15654 (x0, x1, x2, x3, x4))).run D49_15654 = B49_15654 N f (x0, x1, x2, x3, x4) := by kernel_rfl

theorem C49_15654_ok (N k : Nat) : ∀ c', At (bod Try.f49) 15654 c' → CutOK Try.prog Try.f49.ntmps (idsL A49) c' (C49_15654 N k) :=
  loop_ok (E := (mkE Try.prog ownT (tab49 N) [])) (mkE_ok mix (tab49_ok N)) (cutsIn_ok trivial) (fuel := 200) (by decide +kernel) (by kernel_rfl) I49_15654_ok D49_15654_ok (B49_15654 N) (F49_15654 N) (fun _ => rfl) (fun _ _ => rfl) (fun f x => match x with | (x0, x1, x2, x3, x4) => B49_15654_eq N f x0 x1 x2 x3 x4) k

noncomputable def O49_122 (r : (List (Int × (Int × Unit)))) : Tr (Ex × Pk) := .ret (.exit 0, ⟨[.sl 0 (none)], [some (.row (Ty.cons (Ty.int IntKind.i64) (Ty.cons (Ty.int IntKind.i64) Ty.unit)) 78 (r))]⟩)

noncomputable def D49_122 : Ex × Pk → Option ((List (Int × (Int × Unit))))
  | (.exit 0, ⟨[.sl 0 (none)], [some (.row (Ty.cons (Ty.int IntKind.i64) (Ty.cons (Ty.int IntKind.i64) Ty.unit)) 78 x0)]⟩) => some (x0)
  | _ => none

theorem D49_122_ok : ∀ y r, D49_122 y = some r → ∀ z, (O49_122 r).to z → y = z := by
  intro y r h
  unfold D49_122 at h
  split at h <;> first | (cases h; intro z hz; exact Option.some.inj hz) | cases h

noncomputable def B49_122 (N : Nat) (f : (Int × (List Int) × Int × (List (Int × (Int × Unit)))) → Option ((List (Int × (Int × Unit))))) : (Int × (List Int) × Int × (List (Int × (Int × Unit)))) → Option ((List (Int × (Int × Unit))))
  | (x0, x1, x2, x3) =>
  if (decide (x2 ≤ (15 : Int))) = true then
    Option.bind (F49_15654 N N (IntKind.wrap IntKind.i64 (x0 * (2 : Int)), (0 : Int), x1, x2, x3)) fun y0 =>
    Option.bind (f (Prod.fst (Prod.snd y0), Prod.fst (Prod.snd (Prod.snd y0)), IntKind.wrap IntKind.i64 (Prod.fst y0 + (1 : Int)), Prod.snd (Prod.snd (Prod.snd y0)))) fun r => some r
  else
    some (x3)

noncomputable def F49_122 (N : Nat) : Nat → (Int × (List Int) × Int × (List (Int × (Int × Unit)))) → Option ((List (Int × (Int × Unit))))
  | 0, _ => none
  | k + 1, x => B49_122 N (F49_122 N k) x

noncomputable def C49_122 (N k : Nat) : Cut := ⟨[4, 0, 3, 5], X49_122, tellX I49_122 (F49_122 N k) O49_122⟩

theorem B49_122_eq (N : Nat) (f : (Int × (List Int) × Int × (List (Int × (Int × Unit)))) → Option ((List (Int × (Int × Unit))))) (x0 : Int) (x1 : (List Int)) (x2 : Int) (x3 : (List (Int × (Int × Unit)))) : (roundEv (mkE Try.prog ownT (tab49 N) [(15654, (C49_15654 N N))]) Try.f49.ntmps A49 (loopAt (bod Try.f49) 122) 122 ⟨[4, 0, 3, 5], X49_122, tellX I49_122 f O49_122⟩ (J49_122 (x0, x1, x2, x3))).run D49_122 = B49_122 N f (x0, x1, x2, x3) := by kernel_rfl

theorem C49_122_ok (N k : Nat) : ∀ c', At (bod Try.f49) 122 c' → CutOK Try.prog Try.f49.ntmps (idsL A49) c' (C49_122 N k) :=
  loop_ok (E := (mkE Try.prog ownT (tab49 N) [(15654, (C49_15654 N N))])) (mkE_ok mix (tab49_ok N)) (cutsIn_ok ⟨fun c' h => (C49_15654_ok N N c' h), trivial⟩) (fuel := 200) (by decide +kernel) (by kernel_rfl) I49_122_ok D49_122_ok (B49_122 N) (F49_122 N) (fun _ => rfl) (fun _ _ => rfl) (fun f x => match x with | (x0, x1, x2, x3) => B49_122_eq N f x0 x1 x2 x3) k

noncomputable def O49 (r : (List (Int × (Int × Unit)))) : Tr (Pk) := .ret ⟨[.sl 0 (none)], [some (.row (Ty.cons (Ty.int IntKind.i64) (Ty.cons (Ty.int IntKind.i64) Ty.unit)) 78 (r))]⟩

noncomputable def D49 : Pk → Option ((List (Int × (Int × Unit))))
  | ⟨[.sl 0 (none)], [some (.row (Ty.cons (Ty.int IntKind.i64) (Ty.cons (Ty.int IntKind.i64) Ty.unit)) 78 x0)]⟩ => some (x0)
  | _ => none

theorem D49_ok : ∀ y r, D49 y = some r → ∀ z, (O49 r).to z → y = z := by
  intro y r h
  unfold D49 at h
  split at h <;> first | (cases h; intro z hz; exact Option.some.inj hz) | cases h

noncomputable def F49 (N : Nat) : ((List Int)) → Option ((List (Int × (Int × Unit))))
  | x0 =>
  if (decide ((0 : Int) ≤ (↑(List.length x0) : Int) ∧ (↑(List.length x0) : Int) ≤ (↑(List.length x0) : Int) ∧ (↑(List.length x0) : Int) * (16 : Int) ≤ (140737488355328 : Int) ∧ (↑(List.length x0) : Int) ≤ (140737488355328 : Int))) = true then
    Option.bind (F49_122 N N ((0 : Int), x0, (1 : Int), List.replicate (Int.toNat (↑(List.length x0) : Int)) ((0 : Int), (0 : Int), ()))) fun y0 =>
    some (y0)
  else
    none

theorem F49_eq (N : Nat) (x0 : (List Int)) : (fnEv (mkE Try.prog ownT (tab49 N) [(15654, (C49_15654 N N)), (122, (C49_122 N N))]) Try.f49 (J49 x0)).run D49 = F49 N x0 := by kernel_rfl

noncomputable def T49 (N : Nat) : Pk → Tr Pk := tell I49 (F49 N) O49

theorem T49_ok (N : Nat) : FOK Try.prog 49 (T49 N) :=
  tell_ok (E := (mkE Try.prog ownT (tab49 N) [(15654, (C49_15654 N N)), (122, (C49_122 N N))])) (mkE_ok mix (tab49_ok N)) Try.func49 (show Try.f49.body = some (bod Try.f49) by kernel_rfl) (by decide +kernel) I49_ok D49_ok (args := A49) (fun _ => by kernel_rfl) (fun _ => by show 1 ≤ Try.f49.ntmps; exact of_decide_eq_true (by kernel_rfl)) (cutsIn_ok ⟨fun c' h => (C49_15654_ok N N c' h), ⟨fun c' h => (C49_122_ok N N c' h), trivial⟩⟩) (fun x => match x with | x0 => F49_eq N x0)

/-! ## f52: mirador/miradorref02.Number -/

noncomputable def I52 : Pk → Option ((List Bool))
  | ⟨[.ro .bool x0], []⟩ => some x0
  | _ => none

noncomputable def J52 (x : (List Bool)) : Pk := ⟨[.ro .bool (x)], []⟩

theorem I52_ok : ∀ pk x, I52 pk = some x → pk = J52 x := by
  intro pk x h
  unfold I52 at h
  split at h <;> first | (cases h; rfl) | cases h

noncomputable def A52 : List TV := []

noncomputable def tab52 (N : Nat) : List (Nat × (Pk → Tr Pk)) := []

theorem tab52_ok (N : Nat) : TabOK Try.prog (tab52 N) := trivial

def X52_58 : Ex → List Nat
  | .ret => [2]
  | .exit 0 => [3]
  | _ => []

noncomputable def I52_58 : Pk → Option (Int × Int × (List Bool))
  | ⟨[.v (.int .i64 x0), .v (.int .i64 x1), .ro (Ty.bool) x2], []⟩ => some (x0, x1, x2)
  | _ => none

noncomputable def J52_58 (x : Int × Int × (List Bool)) : Pk := ⟨[.v (.int .i64 (x.1)), .v (.int .i64 (x.2.1)), .ro (Ty.bool) (x.2.2)], []⟩

theorem I52_58_ok : ∀ pk x, I52_58 pk = some x → pk = J52_58 x := by
  intro pk x h
  unfold I52_58 at h
  split at h <;> first | (cases h; rfl) | cases h

noncomputable def O52_58 (r : Int) : Tr (Ex × Pk) := .ret (.exit 0, ⟨[.v (.int .i64 (r))], []⟩)

noncomputable def D52_58 : Ex × Pk → Option (Int)
  | (.exit 0, ⟨[.v (.int .i64 x0)], []⟩) => some (x0)
  | _ => none

theorem D52_58_ok : ∀ y r, D52_58 y = some r → ∀ z, (O52_58 r).to z → y = z := by
  intro y r h
  unfold D52_58 at h
  split at h <;> first | (cases h; intro z hz; exact Option.some.inj hz) | cases h

noncomputable def B52_58 (N : Nat) (f : (Int × Int × (List Bool)) → Option (Int)) : (Int × Int × (List Bool)) → Option (Int)
  | (x0, x1, x2) =>
  if (decide (x1 ≥ (0 : Int))) = true then
    if (within x1 (List.length x2)) = true then
      Option.bind (x2[Int.toNat x1]?) fun y0 =>
      if (y0) = true then
        Option.bind (f (IntKind.wrap IntKind.i64 (IntKind.wrap IntKind.i64 (x0 * (2 : Int)) + (1 : Int)), IntKind.wrap IntKind.i64 (x1 - (1 : Int)), x2)) fun r => some r
      else
        Option.bind (f (IntKind.wrap IntKind.i64 (x0 * (2 : Int)), IntKind.wrap IntKind.i64 (x1 - (1 : Int)), x2)) fun r => some r
    else
      none
  else
    some (x0)

noncomputable def F52_58 (N : Nat) : Nat → (Int × Int × (List Bool)) → Option (Int)
  | 0, _ => none
  | k + 1, x => B52_58 N (F52_58 N k) x

noncomputable def C52_58 (N k : Nat) : Cut := ⟨[3, 4, 0], X52_58, tellX I52_58 (F52_58 N k) O52_58⟩

theorem B52_58_eq (N : Nat) (f : (Int × Int × (List Bool)) → Option (Int)) (x0 : Int) (x1 : Int) (x2 : (List Bool)) : (roundEv (mkE Try.prog ownT (tab52 N) []) Try.f52.ntmps A52 (loopAt (bod Try.f52) 58) 58 ⟨[3, 4, 0], X52_58, tellX I52_58 f O52_58⟩ (J52_58 (x0, x1, x2))).run D52_58 = B52_58 N f (x0, x1, x2) := by kernel_rfl

theorem C52_58_ok (N k : Nat) : ∀ c', At (bod Try.f52) 58 c' → CutOK Try.prog Try.f52.ntmps (idsL A52) c' (C52_58 N k) :=
  loop_ok (E := (mkE Try.prog ownT (tab52 N) [])) (mkE_ok mix (tab52_ok N)) (cutsIn_ok trivial) (fuel := 200) (by decide +kernel) (by kernel_rfl) I52_58_ok D52_58_ok (B52_58 N) (F52_58 N) (fun _ => rfl) (fun _ _ => rfl) (fun f x => match x with | (x0, x1, x2) => B52_58_eq N f x0 x1 x2) k

noncomputable def O52 (r : Int) : Tr (Pk) := .ret ⟨[.v (.int .i64 (r))], []⟩

noncomputable def D52 : Pk → Option (Int)
  | ⟨[.v (.int .i64 x0)], []⟩ => some (x0)
  | _ => none

theorem D52_ok : ∀ y r, D52 y = some r → ∀ z, (O52 r).to z → y = z := by
  intro y r h
  unfold D52 at h
  split at h <;> first | (cases h; intro z hz; exact Option.some.inj hz) | cases h

noncomputable def F52 (N : Nat) : ((List Bool)) → Option (Int)
  | x0 =>
  Option.bind (F52_58 N N ((0 : Int), IntKind.wrap IntKind.i64 ((↑(List.length x0) : Int) - (1 : Int)), x0)) fun y0 =>
  some (y0)

theorem F52_eq (N : Nat) (x0 : (List Bool)) : (fnEv (mkE Try.prog ownT (tab52 N) [(58, (C52_58 N N))]) Try.f52 (J52 x0)).run D52 = F52 N x0 := by kernel_rfl

noncomputable def T52 (N : Nat) : Pk → Tr Pk := tell I52 (F52 N) O52

theorem T52_ok (N : Nat) : FOK Try.prog 52 (T52 N) :=
  tell_ok (E := (mkE Try.prog ownT (tab52 N) [(58, (C52_58 N N))])) (mkE_ok mix (tab52_ok N)) Try.func52 (show Try.f52.body = some (bod Try.f52) by kernel_rfl) (by decide +kernel) I52_ok D52_ok (args := A52) (fun _ => by kernel_rfl) (fun _ => by show 1 ≤ Try.f52.ntmps; exact of_decide_eq_true (by kernel_rfl)) (cutsIn_ok ⟨fun c' h => (C52_58_ok N N c' h), trivial⟩) (fun x => match x with | x0 => F52_eq N x0)

/-! ## f64: mirador/miradorref02.Reverse -/

noncomputable def I64 : Pk → Option (Int × Int)
  | ⟨[.agg [.v (.int .i64 x0), .v (.int .i64 x1)]], []⟩ => some (x0, x1)
  | _ => none

noncomputable def J64 (x : Int × Int) : Pk := ⟨[.agg [.v (.int .i64 (x.1)), .v (.int .i64 (x.2))]], []⟩

theorem I64_ok : ∀ pk x, I64 pk = some x → pk = J64 x := by
  intro pk x h
  unfold I64 at h
  split at h <;> first | (cases h; rfl) | cases h

noncomputable def A64 : List TV := []

noncomputable def tab64 (N : Nat) : List (Nat × (Pk → Tr Pk)) := [(24, T24 N), (52, T52 N)]

theorem tab64_ok (N : Nat) : TabOK Try.prog (tab64 N) := ⟨T24_ok N, ⟨T52_ok N, trivial⟩⟩

def X64_122 : Ex → List Nat
  | .ret => [2]
  | .exit 0 => [4]
  | _ => []

noncomputable def I64_122 : Pk → Option (Int × (List Bool) × (List Bool))
  | ⟨[.sl 0 (none), .v (.int .i64 x0), .sl 1 (none)], [some (.row (Ty.bool) 4 x1), some (.row (Ty.bool) 4 x2)]⟩ => some (x0, x1, x2)
  | _ => none

noncomputable def J64_122 (x : Int × (List Bool) × (List Bool)) : Pk := ⟨[.sl 0 (none), .v (.int .i64 (x.1)), .sl 1 (none)], [some (.row (Ty.bool) 4 (x.2.1)), some (.row (Ty.bool) 4 (x.2.2))]⟩

theorem I64_122_ok : ∀ pk x, I64_122 pk = some x → pk = J64_122 x := by
  intro pk x h
  unfold I64_122 at h
  split at h <;> first | (cases h; rfl) | cases h

noncomputable def O64_122 (r : (List Bool)) : Tr (Ex × Pk) := .ret (.exit 0, ⟨[.sl 0 (none)], [some (.row (Ty.bool) 4 (r))]⟩)

noncomputable def D64_122 : Ex × Pk → Option ((List Bool))
  | (.exit 0, ⟨[.sl 0 (none)], [some (.row (Ty.bool) 4 x0)]⟩) => some (x0)
  | _ => none

theorem D64_122_ok : ∀ y r, D64_122 y = some r → ∀ z, (O64_122 r).to z → y = z := by
  intro y r h
  unfold D64_122 at h
  split at h <;> first | (cases h; intro z hz; exact Option.some.inj hz) | cases h

noncomputable def B64_122 (N : Nat) (f : (Int × (List Bool) × (List Bool)) → Option ((List Bool))) : (Int × (List Bool) × (List Bool)) → Option ((List Bool))
  | (x0, x1, x2) =>
  if (decide (x0 ≥ (0 : Int))) = true then
    if (within x0 (List.length x2)) = true then
      Option.bind (x2[Int.toNat x0]?) fun y0 =>
      if (decide ((List.length x1 + List.length [y0]) * (1 : Nat) ≤ (140737488355328 : Nat) ∧ List.length x1 + List.length [y0] ≤ (140737488355328 : Nat))) = true then
        Option.bind (f (IntKind.wrap IntKind.i64 (x0 - (1 : Int)), x1 ++ [y0], x2)) fun r => some r
      else
        none
    else
      none
  else
    some (x1)

noncomputable def F64_122 (N : Nat) : Nat → (Int × (List Bool) × (List Bool)) → Option ((List Bool))
  | 0, _ => none
  | k + 1, x => B64_122 N (F64_122 N k) x

noncomputable def C64_122 (N k : Nat) : Cut := ⟨[4, 5, 3], X64_122, tellX I64_122 (F64_122 N k) O64_122⟩

theorem B64_122_eq (N : Nat) (f : (Int × (List Bool) × (List Bool)) → Option ((List Bool))) (x0 : Int) (x1 : (List Bool)) (x2 : (List Bool)) : (roundEv (mkE Try.prog ownT (tab64 N) []) Try.f64.ntmps A64 (loopAt (bod Try.f64) 122) 122 ⟨[4, 5, 3], X64_122, tellX I64_122 f O64_122⟩ (J64_122 (x0, x1, x2))).run D64_122 = B64_122 N f (x0, x1, x2) := by kernel_rfl

theorem C64_122_ok (N k : Nat) : ∀ c', At (bod Try.f64) 122 c' → CutOK Try.prog Try.f64.ntmps (idsL A64) c' (C64_122 N k) :=
  loop_ok (E := (mkE Try.prog ownT (tab64 N) [])) (mkE_ok mix (tab64_ok N)) (cutsIn_ok trivial) (fuel := 200) (by decide +kernel) (by kernel_rfl) I64_122_ok D64_122_ok (B64_122 N) (F64_122 N) (fun _ => rfl) (fun _ _ => rfl) (fun f x => match x with | (x0, x1, x2) => B64_122_eq N f x0 x1 x2) k

noncomputable def O64 (r : Int) : Tr (Pk) := .ret ⟨[.v (.int .i64 (r))], []⟩

noncomputable def D64 : Pk → Option (Int)
  | ⟨[.v (.int .i64 x0)], []⟩ => some (x0)
  | _ => none

theorem D64_ok : ∀ y r, D64 y = some r → ∀ z, (O64 r).to z → y = z := by
  intro y r h
  unfold D64 at h
  split at h <;> first | (cases h; intro z hz; exact Option.some.inj hz) | cases h

noncomputable def F64 (N : Nat) : (Int × Int) → Option (Int)
  | (x0, x1) =>
  Option.bind (F24 N (x1, x0)) fun y0 =>
  Option.bind (F64_122 N N (IntKind.wrap IntKind.i64 ((↑(List.length y0) : Int) - (1 : Int)), [], y0)) fun y1 =>
  Option.bind (F52 N y1) fun y2 =>
  some (y2)

theorem F64_eq (N : Nat) (x0 : Int) (x1 : Int) : (fnEv (mkE Try.prog ownT (tab64 N) [(122, (C64_122 N N))]) Try.f64 (J64 (x0, x1))).run D64 = F64 N (x0, x1) := by kernel_rfl

noncomputable def T64 (N : Nat) : Pk → Tr Pk := tell I64 (F64 N) O64

theorem T64_ok (N : Nat) : FOK Try.prog 64 (T64 N) :=
  tell_ok (E := (mkE Try.prog ownT (tab64 N) [(122, (C64_122 N N))])) (mkE_ok mix (tab64_ok N)) Try.func64 (show Try.f64.body = some (bod Try.f64) by kernel_rfl) (by decide +kernel) I64_ok D64_ok (args := A64) (fun _ => by kernel_rfl) (fun _ => by show 1 ≤ Try.f64.ntmps; exact of_decide_eq_true (by kernel_rfl)) (cutsIn_ok ⟨fun c' h => (C64_122_ok N N c' h), trivial⟩) (fun x => match x with | (x0, x1) => F64_eq N x0 x1)

/-! ## f50: mirador/miradorref07.code -/

noncomputable def I50 : Pk → Option ((List (Int × (Int × Unit))) × Int)
  | ⟨[.ro (.cons (.int .i64) (.cons (.int .i64) .unit)) x0, .v (.int .i64 x1)], []⟩ => some (x0, x1)
  | _ => none

noncomputable def J50 (x : (List (Int × (Int × Unit))) × Int) : Pk := ⟨[.ro (.cons (.int .i64) (.cons (.int .i64) .unit)) (x.1), .v (.int .i64 (x.2))], []⟩

theorem I50_ok : ∀ pk x, I50 pk = some x → pk = J50 x := by
  intro pk x h
  unfold I50 at h
  split at h <;> first | (cases h; rfl) | cases h

noncomputable def A50 : List TV := []

noncomputable def tab50 (N : Nat) : List (Nat × (Pk → Tr Pk)) := [(64, T64 N), (24, T24 N)]

theorem tab50_ok (N : Nat) : TabOK Try.prog (tab50 N) := ⟨T64_ok N, ⟨T24_ok N, trivial⟩⟩

noncomputable def O50 (r : Bool × (List Bool)) : Tr (Pk) := .ret ⟨[.tup [.sl 0 (none), .v (.bool (r.1))]], [some (.row (Ty.bool) 4 (r.2))]⟩

noncomputable def D50 : Pk → Option (Bool × (List Bool))
  | ⟨[.tup [.sl 0 (none), .v (.bool x0)]], [some (.row (Ty.bool) 4 x1)]⟩ => some ((x0, x1))
  | _ => none

theorem D50_ok : ∀ y r, D50 y = some r → ∀ z, (O50 r).to z → y = z := by
  intro y r h
  unfold D50 at h
  split at h <;> first | (cases h; intro z hz; exact Option.some.inj hz) | cases h

noncomputable def F50 (N : Nat) : ((List (Int × (Int × Unit))) × Int) → Option (Bool × (List Bool))
  | (x0, x1) =>
  if (decide (x1 ≥ (↑(List.length x0) : Int))) = true then
    some ((false, []))
  else
    if (within x1 (List.length x0)) = true then
      Option.bind (x0[Int.toNat x1]?) fun y0 =>
      if (Prod.fst (Prod.snd y0) == (0 : Int)) = true then
        some ((false, []))
      else
        if (within x1 (List.length x0)) = true then
          Option.bind (x0[Int.toNat x1]?) fun y1 =>
          if (within x1 (List.length x0)) = true then
            Option.bind (x0[Int.toNat x1]?) fun y2 =>
            Option.bind (F64 N (Prod.fst y2, Prod.fst (Prod.snd y2))) fun y3 =>
            Option.bind (F24 N (Prod.fst (Prod.snd y1), y3)) fun y4 =>
            some ((true, y4))
          else
            none
        else
          none
    else
      none

theorem F50_eq (N : Nat) (x0 : (List (Int × (Int × Unit)))) (x1 : Int) : (fnEv (mkE Try.prog ownT (tab50 N) []) Try.f50 (J50 (x0, x1))).run D50 = F50 N (x0, x1) := by kernel_rfl

noncomputable def T50 (N : Nat) : Pk → Tr Pk := tell I50 (F50 N) O50

theorem T50_ok (N : Nat) : FOK Try.prog 50 (T50 N) :=
  tell_ok (E := (mkE Try.prog ownT (tab50 N) [])) (mkE_ok mix (tab50_ok N)) Try.func50 (show Try.f50.body = some (bod Try.f50) by kernel_rfl) (by decide +kernel) I50_ok D50_ok (args := A50) (fun _ => by kernel_rfl) (fun _ => by show 2 ≤ Try.f50.ntmps; exact of_decide_eq_true (by kernel_rfl)) (cutsIn_ok trivial) (fun x => match x with | (x0, x1) => F50_eq N x0 x1)


end Go.Proofs.Ytmcjfdognplgmaa.Am

set_option linter.unusedVariables false
set_option maxRecDepth 100000
namespace Go.Proofs.Ytmcjfdognplgmaa.Am
open Go.Am

/-! ## f26: mirador/miradorref07.Write -/

noncomputable def I26 : Pk → Option ((List Int) × (List Int) × (List (Int × (Int × (Int × Unit)))))
  | ⟨[.ro (.int .i64) x0, .ro (.int .i64) x1, .ro (.cons (.int .i64) (.cons (.int .i64) (.cons (.int .i64) .unit))) x2], []⟩ => some (x0, x1, x2)
  | _ => none

noncomputable def J26 (x : (List Int) × (List Int) × (List (Int × (Int × (Int × Unit))))) : Pk := ⟨[.ro (.int .i64) (x.1), .ro (.int .i64) (x.2.1), .ro (.cons (.int .i64) (.cons (.int .i64) (.cons (.int .i64) .unit))) (x.2.2)], []⟩

theorem I26_ok : ∀ pk x, I26 pk = some x → pk = J26 x := by
  intro pk x h
  unfold I26 at h
  split at h <;> first | (cases h; rfl) | cases h

noncomputable def A26 : List TV := []

noncomputable def tab26 (N : Nat) : List (Nat × (Pk → Tr Pk)) := [(40, T40 N), (48, T48 N), (49, T49 N), (10, T10 N), (50, T50 N), (24, T24 N), (12, T12 N)]

theorem tab26_ok (N : Nat) : TabOK Try.prog (tab26 N) := ⟨T40_ok N, ⟨T48_ok N, ⟨T49_ok N, ⟨T10_ok N, ⟨T50_ok N, ⟨T24_ok N, ⟨T12_ok N, trivial⟩⟩⟩⟩⟩⟩⟩

def X26_58 : Ex → List Nat
  | .ret => [6, 7]
  | .exit 0 => [8, 2, 1, 0]
  | _ => []

def X26_4090 : Ex → List Nat
  | .ret => [6, 7]
  | .exit 2 => [15, 8]
  | _ => []

noncomputable def I26_58 : Pk → Option ((List Int) × (List Int) × (List (Int × (Int × (Int × Unit)))) × Int × (List Bool))
  | ⟨[.ro (Ty.int IntKind.i64) x0, .ro (Ty.int IntKind.i64) x1, .sl 0 (none), .ro (Ty.cons (Ty.int IntKind.i64) (Ty.cons (Ty.int IntKind.i64) (Ty.cons (Ty.int IntKind.i64) Ty.unit))) x2, .v (.int .i64 x3)], [some (.row (Ty.bool) 4 x4)]⟩ => some (x0, x1, x2, x3, x4)
  | _ => none

noncomputable def J26_58 (x : (List Int) × (List Int) × (List (Int × (Int × (Int × Unit)))) × Int × (List Bool)) : Pk := ⟨[.ro (Ty.int IntKind.i64) (x.1), .ro (Ty.int IntKind.i64) (x.2.1), .sl 0 (none), .ro (Ty.cons (Ty.int IntKind.i64) (Ty.cons (Ty.int IntKind.i64) (Ty.cons (Ty.int IntKind.i64) Ty.unit))) (x.2.2.1), .v (.int .i64 (x.2.2.2.1))], [some (.row (Ty.bool) 4 (x.2.2.2.2))]⟩

theorem I26_58_ok : ∀ pk x, I26_58 pk = some x → pk = J26_58 x := by
  intro pk x h
  unfold I26_58 at h
  split at h <;> first | (cases h; rfl) | cases h

noncomputable def O26_58 (r : ((Int × (List Bool)) ⊕ ((List (Int × (Int × (Int × Unit)))) × (List Int) × (List Int) × (List Bool)))) : Tr (Ex × Pk) := .sum _ _ r (fun u => .ret (.ret, ⟨[.sl 0 (none), .v (.int .i64 (u.1))], [some (.row (Ty.bool) 4 (u.2))]⟩)) (fun v => .ret (.exit 0, ⟨[.sl 0 (none), .ro (Ty.cons (Ty.int IntKind.i64) (Ty.cons (Ty.int IntKind.i64) (Ty.cons (Ty.int IntKind.i64) Ty.unit))) (v.1), .ro (Ty.int IntKind.i64) (v.2.1), .ro (Ty.int IntKind.i64) (v.2.2.1)], [some (.row (Ty.bool) 4 (v.2.2.2))]⟩))

noncomputable def D26_58 : Ex × Pk → Option (((Int × (List Bool)) ⊕ ((List (Int × (Int × (Int × Unit)))) × (List Int) × (List Int) × (List Bool))))
  | (.ret, ⟨[.sl 0 (none), .v (.int .i64 x0)], [some (.row (Ty.bool) 4 x1)]⟩) => some (.inl ((x0, x1)))
  | (.exit 0, ⟨[.sl 0 (none), .ro (Ty.cons (Ty.int IntKind.i64) (Ty.cons (Ty.int IntKind.i64) (Ty.cons (Ty.int IntKind.i64) Ty.unit))) x0, .ro (Ty.int IntKind.i64) x1, .ro (Ty.int IntKind.i64) x2], [some (.row (Ty.bool) 4 x3)]⟩) => some (.inr ((x0, x1, x2, x3)))
  | _ => none

theorem D26_58_ok : ∀ y r, D26_58 y = some r → ∀ z, (O26_58 r).to z → y = z := by
  intro y r h
  unfold D26_58 at h
  split at h <;> first | (cases h; intro z hz; exact Option.some.inj hz) | cases h

noncomputable def B26_58 (N : Nat) (f : ((List Int) × (List Int) × (List (Int × (Int × (Int × Unit)))) × Int × (List Bool)) → Option (((Int × (List Bool)) ⊕ ((List (Int × (Int × (Int × Unit)))) × (List Int) × (List Int) × (List Bool))))) : ((List Int) × (List Int) × (List (Int × (Int × (Int × Unit)))) × Int × (List Bool)) → Option (((Int × (List Bool)) ⊕ ((List (Int × (Int × (Int × Unit)))) × (List Int) × (List Int) × (List Bool))))
  | (x0, x1, x2, x3, x4) =>
  if (decide (x3 < (↑(List.length x2) : Int))) = true then
    if (within x3 (List.length x2)) = true then
      Option.bind (x2[Int.toNat x3]?) fun y0 =>
      Option.bind (F40 N (Prod.fst y0, Prod.fst (Prod.snd y0), Prod.fst (Prod.snd (Prod.snd y0)))) fun y1 =>
      if (!y1) = true then
        some (.inl (((1 : Int), [])))
      else
        Option.bind (f (x0, x1, x2, IntKind.wrap IntKind.i64 (x3 + (1 : Int)), x4)) fun r => match r with | .inl (y) => some (.inl (y)) | .inr (y) => some (.inr (y))
    else
      none
  else
    some (.inr ((x2, x1, x0, x4)))

noncomputable def F26_58 (N : Nat) : Nat → ((List Int) × (List Int) × (List (Int × (Int × (Int × Unit)))) × Int × (List Bool)) → Option (((Int × (List Bool)) ⊕ ((List (Int × (Int × (Int × Unit)))) × (List Int) × (List Int) × (List Bool))))
  | 0, _ => none
  | k + 1, x => B26_58 N (F26_58 N k) x

noncomputable def C26_58 (N k : Nat) : Cut := ⟨[0, 1, 8, 2, 9], X26_58, tellX I26_58 (F26_58 N k) O26_58⟩

theorem B26_58_eq (N : Nat) (f : ((List Int) × (List Int) × (List (Int × (Int × (Int × Unit)))) × Int × (List Bool)) → Option (((Int × (List Bool)) ⊕ ((List (Int × (Int × (Int × Unit)))) × (List Int) × (List Int) × (List Bool))))) (x0 : (List Int)) (x1 : (List Int)) (x2 : (List (Int × (Int × (Int × Unit))))) (x3 : Int) (x4 : (List Bool)) : (roundEv (mkE Try.prog ownT (tab26 N) []) Try.f26.ntmps A26 (loopAt (bod Try.f26) 58) 58 ⟨[0, 1, 8, 2, 9], X26_58, tellX I26_58 f O26_58⟩ (J26_58 (x0, x1, x2, x3, x4))).run D26_58 = B26_58 N f (x0, x1, x2, x3, x4) := by kernel_rfl

theorem C26_58_ok (N k : Nat) : ∀ c', At (bod Try.f26) 58 c' → CutOK Try.prog Try.f26.ntmps (idsL A26) c' (C26_58 N k) :=
  loop_ok (E := (mkE Try.prog ownT (tab26 N) [])) (mkE_ok mix (tab26_ok N)) (cutsIn_ok trivial) (fuel := 200) (by decide +kernel) (by kernel_rfl) I26_58_ok D26_58_ok (B26_58 N) (F26_58 N) (fun _ => rfl) (fun _ _ => rfl) (fun f x => match x with | (x0, x1, x2, x3, x4) => B26_58_eq N f x0 x1 x2 x3 x4) k

noncomputable def I26_4090 : Pk → Option ((List (Int × (Int × (Int × Unit)))) × Int × (List (Int × (Int × Unit))) × (List (Int × (Int × Unit))) × (List Bool))
  | ⟨[.sl 0 (none), .ro (Ty.cons (Ty.int IntKind.i64) (Ty.cons (Ty.int IntKind.i64) (Ty.cons (Ty.int IntKind.i64) Ty.unit))) x0, .sl 1 (none), .v (.int .i64 x1), .sl 2 (none)], [some (.row (Ty.cons (Ty.int IntKind.i64) (Ty.cons (Ty.int IntKind.i64) Ty.unit)) 78 x2), some (.row (Ty.cons (Ty.int IntKind.i64) (Ty.cons (Ty.int IntKind.i64) Ty.unit)) 78 x3), some (.row (Ty.bool) 4 x4)]⟩ => some (x0, x1, x2, x3, x4)
  | _ => none

noncomputable def J26_4090 (x : (List (Int × (Int × (Int × Unit)))) × Int × (List (Int × (Int × Unit))) × (List (Int × (Int × Unit))) × (List Bool)) : Pk := ⟨[.sl 0 (none), .ro (Ty.cons (Ty.int IntKind.i64) (Ty.cons (Ty.int IntKind.i64) (Ty.cons (Ty.int IntKind.i64) Ty.unit))) (x.1), .sl 1 (none), .v (.int .i64 (x.2.1)), .sl 2 (none)], [some (.row (Ty.cons (Ty.int IntKind.i64) (Ty.cons (Ty.int IntKind.i64) Ty.unit)) 78 (x.2.2.1)), some (.row (Ty.cons (Ty.int IntKind.i64) (Ty.cons (Ty.int IntKind.i64) Ty.unit)) 78 (x.2.2.2.1)), some (.row (Ty.bool) 4 (x.2.2.2.2))]⟩

theorem I26_4090_ok : ∀ pk x, I26_4090 pk = some x → pk = J26_4090 x := by
  intro pk x h
  unfold I26_4090 at h
  split at h <;> first | (cases h; rfl) | cases h

noncomputable def O26_4090 (r : ((Int × (List Bool)) ⊕ ((List (Int × (Int × Unit))) × (List Bool)))) : Tr (Ex × Pk) := .sum _ _ r (fun u => .ret (.ret, ⟨[.sl 0 (none), .v (.int .i64 (u.1))], [some (.row (Ty.bool) 4 (u.2))]⟩)) (fun v => .ret (.exit 2, ⟨[.sl 0 (none), .sl 1 (none)], [some (.row (Ty.cons (Ty.int IntKind.i64) (Ty.cons (Ty.int IntKind.i64) Ty.unit)) 78 (v.1)), some (.row (Ty.bool) 4 (v.2))]⟩))

noncomputable def D26_4090 : Ex × Pk → Option (((Int × (List Bool)) ⊕ ((List (Int × (Int × Unit))) × (List Bool))))
  | (.ret, ⟨[.sl 0 (none), .v (.int .i64 x0)], [some (.row (Ty.bool) 4 x1)]⟩) => some (.inl ((x0, x1)))
  | (.exit 2, ⟨[.sl 0 (none), .sl 1 (none)], [some (.row (Ty.cons (Ty.int IntKind.i64) (Ty.cons (Ty.int IntKind.i64) Ty.unit)) 78 x0), some (.row (Ty.bool) 4 x1)]⟩) => some (.inr ((x0, x1)))
  | _ => none

theorem D26_4090_ok : ∀ y r, D26_4090 y = some r → ∀ z, (O26_4090 r).to z → y = z := by
  intro y r h
  unfold D26_4090 at h
  split at h <;> first | (cases h; intro z hz; exact Option.some.inj hz) | cases h

noncomputable def B26_4090 (N : Nat) (f : ((List (Int × (Int × (Int × Unit)))) × Int × (List (Int × (Int × Unit))) × (List (Int × (Int × Unit))) × (List Bool)) → Option (((Int × (List Bool)) ⊕ ((List (Int × (Int × Unit))) × (List Bool))))) : ((List (Int × (Int × (Int × Unit)))) × Int × (List (Int × (Int × Unit))) × (List (Int × (Int × Unit))) × (List Bool)) → Option (((Int × (List Bool)) ⊕ ((List (Int × (Int × Unit))) × (List Bool))))
  | (x0, x1, x2, x3, x4) =>
  if (decide (x1 < (↑(List.length x0) : Int))) = true then
    if (within x1 (List.length x0)) = true then
      Option.bind (x0[Int.toNat x1]?) fun y0 =>
      if (within x1 (List.length x0)) = true then
        Option.bind (x0[Int.toNat x1]?) fun y1 =>
        if (decide (Prod.fst (Prod.snd y1) > (0 : Int))) = true then
          if (within x1 (List.length x0)) = true then
            Option.bind (x0[Int.toNat x1]?) fun y2 =>
            Option.bind (F10 N (Prod.fst (Prod.snd y2))) fun y3 =>
            Option.bind (F50 N (x2, Prod.fst y3)) fun y4 =>
            if (!Prod.fst y4) = true then
              some (.inl (((50 : Int), [])))
            else
              if (decide ((List.length x4 + List.length (Prod.snd y4)) * (1 : Nat) ≤ (140737488355328 : Nat) ∧ List.length x4 + List.length (Prod.snd y4) ≤ (140737488355328 : Nat))) = true then
                Option.bind (F24 N (Prod.snd (Prod.snd y3), Prod.fst (Prod.snd y3))) fun y5 =>
                if (decide ((List.length (x4 ++ Prod.snd y4) + List.length y5) * (1 : Nat) ≤ (140737488355328 : Nat) ∧ List.length (x4 ++ Prod.snd y4) + List.length y5 ≤ (140737488355328 : Nat))) = true then
                  if (within x1 (List.length x0)) = true then
                    Option.bind (x0[Int.toNat x1]?) fun y6 =>
                    if (Prod.fst (Prod.snd y6) == (0 : Int)) = true then
                      Option.bind (f (x0, IntKind.wrap IntKind.i64 (x1 + (1 : Int)), x2, x3, x4 ++ Prod.snd y4 ++ y5)) fun r => match r with | .inl (y) => some (.inl (y)) | .inr (y) => some (.inr (y))
                    else
                      if (within x1 (List.length x0)) = true then
                        Option.bind (x0[Int.toNat x1]?) fun y7 =>
                        Option.bind (F12 N (Prod.fst (Prod.snd (Prod.snd y7)))) fun y8 =>
                        Option.bind (F50 N (x3, Prod.fst y8)) fun y9 =>
                        if (!Prod.fst y9) = true then
                          some (.inl (((50 : Int), [])))
                        else
                          if (decide ((List.length (x4 ++ Prod.snd y4 ++ y5) + List.length (Prod.snd y9)) * (1 : Nat) ≤ (140737488355328 : Nat) ∧ List.length (x4 ++ Prod.snd y4 ++ y5) + List.length (Prod.snd y9) ≤ (140737488355328 : Nat))) = true then
                            Option.bind (F24 N (Prod.snd (Prod.snd y8), Prod.fst (Prod.snd y8))) fun y10 =>
                            if (decide ((List.length (x4 ++ Prod.snd y4 ++ y5 ++ Prod.snd y9) + List.length y10) * (1 : Nat) ≤ (140737488355328 : Nat) ∧ List.length (x4 ++ Prod.snd y4 ++ y5 ++ Prod.snd y9) + List.length y10 ≤ (140737488355328 : Nat))) = true then
                              Option.bind (f (x0, IntKind.wrap IntKind.i64 (x1 + (1 : Int)), x2, x3, x4 ++ Prod.snd y4 ++ y5 ++ Prod.snd y9 ++ y10)) fun r => match r with | .inl (y) => some (.inl (y)) | .inr (y) => some (.inr (y))
                            else
                              none
                          else
                            none
                      else
                        none
                  else
                    none
                else
                  none
              else
                none
          else
            none
        else
          Option.bind (F50 N (x2, Prod.fst y0)) fun y11 =>
          if (!Prod.fst y11) = true then
            some (.inl (((50 : Int), [])))
          else
            if (decide ((List.length x4 + List.length (Prod.snd y11)) * (1 : Nat) ≤ (140737488355328 : Nat) ∧ List.length x4 + List.length (Prod.snd y11) ≤ (140737488355328 : Nat))) = true then
              Option.bind (F24 N ((0 : Int), (0 : Int))) fun y12 =>
              if (decide ((List.length (x4 ++ Prod.snd y11) + List.length y12) * (1 : Nat) ≤ (140737488355328 : Nat) ∧ List.length (x4 ++ Prod.snd y11) + List.length y12 ≤ (140737488355328 : Nat))) = true then
                if (within x1 (List.length x0)) = true then
                  Option.bind (x0[Int.toNat x1]?) fun y13 =>
                  if (Prod.fst (Prod.snd y13) == (0 : Int)) = true then
                    Option.bind (f (x0, IntKind.wrap IntKind.i64 (x1 + (1 : Int)), x2, x3, x4 ++ Prod.snd y11 ++ y12)) fun r => match r with | .inl (y) => some (.inl (y)) | .inr (y) => some (.inr (y))
                  else
                    if (within x1 (List.length x0)) = true then
                      Option.bind (x0[Int.toNat x1]?) fun y14 =>
                      Option.bind (F12 N (Prod.fst (Prod.snd (Prod.snd y14)))) fun y15 =>
                      Option.bind (F50 N (x3, Prod.fst y15)) fun y16 =>
                      if (!Prod.fst y16) = true then
                        some (.inl (((50 : Int), [])))
                      else
                        if (decide ((List.length (x4 ++ Prod.snd y11 ++ y12) + List.length (Prod.snd y16)) * (1 : Nat) ≤ (140737488355328 : Nat) ∧ List.length (x4 ++ Prod.snd y11 ++ y12) + List.length (Prod.snd y16) ≤ (140737488355328 : Nat))) = true then
                          Option.bind (F24 N (Prod.snd (Prod.snd y15), Prod.fst (Prod.snd y15))) fun y17 =>
                          if (decide ((List.length (x4 ++ Prod.snd y11 ++ y12 ++ Prod.snd y16) + List.length y17) * (1 : Nat) ≤ (140737488355328 : Nat) ∧ List.length (x4 ++ Prod.snd y11 ++ y12 ++ Prod.snd y16) + List.length y17 ≤ (140737488355328 : Nat))) = true then
                            Option.bind (f (x0, IntKind.wrap IntKind.i64 (x1 + (1 : Int)), x2, x3, x4 ++ Prod.snd y11 ++ y12 ++ Prod.snd y16 ++ y17)) fun r => match r with | .inl (y) => some (.inl (y)) | .inr (y) => some (.inr (y))
                          else
                            none
                        else
                          none
                    else
                      none
                else
                  none
              else
                none
            else
              none
      else
        none
    else
      none
  else
    some (.inr ((x2, x4)))

noncomputable def F26_4090 (N : Nat) : Nat → ((List (Int × (Int × (Int × Unit)))) × Int × (List (Int × (Int × Unit))) × (List (Int × (Int × Unit))) × (List Bool)) → Option (((Int × (List Bool)) ⊕ ((List (Int × (Int × Unit))) × (List Bool))))
  | 0, _ => none
  | k + 1, x => B26_4090 N (F26_4090 N k) x

noncomputable def C26_4090 (N k : Nat) : Cut := ⟨[15, 2, 16, 17, 8], X26_4090, tellX I26_4090 (F26_4090 N k) O26_4090⟩

theorem B26_4090_eq (N : Nat) (f : ((List (Int × (Int × (Int × Unit)))) × Int × (List (Int × (Int × Unit))) × (List (Int × (Int × Unit))) × (List Bool)) → Option (((Int × (List Bool)) ⊕ ((List (Int × (Int × Unit))) × (List Bool))))) (x0 : (List (Int × (Int × (Int × Unit))))) (x1 : Int) (x2 : (List (Int × (Int × Unit)))) (x3 : (List (Int × (Int × Unit)))) (x4 : (List Bool)) : (roundEv (mkE Try.prog ownT (tab26 N) [(58, (C26_58 N N))]) Try.f26.ntmps A26 (loopAt (bod Try.f26) 4090) 4090 ⟨[15, 2, 16, 17, 8], X26_4090, tellX I26_4090 f O26_4090⟩ (J26_4090 (x0, x1, x2, x3, x4))).run D26_4090 = B26_4090 N f (x0, x1, x2, x3, x4) := by kernel_rfl

theorem C26_4090_ok (N k : Nat) : ∀ c', At (bod Try.f26) 4090 c' → CutOK Try.prog Try.f26.ntmps (idsL A26) c' (C26_4090 N k) :=
  loop_ok (E := (mkE Try.prog ownT (tab26 N) [(58, (C26_58 N N))])) (mkE_ok mix (tab26_ok N)) (cutsIn_ok ⟨fun c' h => (C26_58_ok N N c' h), trivial⟩) (fuel := 200) (by decide +kernel) (by kernel_rfl) I26_4090_ok D26_4090_ok (B26_4090 N) (F26_4090 N) (fun _ => rfl) (fun _ _ => rfl) (fun f x => match x with | (x0, x1, x2, x3, x4) => B26_4090_eq N f x0 x1 x2 x3 x4) k

noncomputable def O26 (r : Int × (List Bool)) : Tr (Pk) := .ret ⟨[.tup [.sl 0 (none), .v (.int .i64 (r.1))]], [some (.row (Ty.bool) 4 (r.2))]⟩

noncomputable def D26 : Pk → Option (Int × (List Bool))
  | ⟨[.tup [.sl 0 (none), .v (.int .i64 x0)]], [some (.row (Ty.bool) 4 x1)]⟩ => some ((x0, x1))
  | _ => none

theorem D26_ok : ∀ y r, D26 y = some r → ∀ z, (O26 r).to z → y = z := by
  intro y r h
  unfold D26 at h
  split at h <;> first | (cases h; intro z hz; exact Option.some.inj hz) | cases h

noncomputable def F26 (N : Nat) : ((List Int) × (List Int) × (List (Int × (Int × (Int × Unit))))) → Option (Int × (List Bool))
  | (x0, x1, x2) =>
  Option.bind (F26_58 N N (x0, x1, x2, (0 : Int), [])) fun y0 =>
  match y0 with
  | .inl y1 =>
    some ((Prod.fst y1, Prod.snd y1))
  | .inr y1 =>
    Option.bind (F48 N (Prod.fst (Prod.snd (Prod.snd y1)))) fun y2 =>
    Option.bind (F48 N (Prod.fst (Prod.snd y1))) fun y3 =>
    if (Prod.snd y2 != (0 : Int)) = true then
      some (((50 : Int), []))
    else
      if (Prod.snd y3 != (0 : Int)) = true then
        some (((50 : Int), []))
      else
        Option.bind (F49 N (Prod.fst (Prod.snd (Prod.snd y1)))) fun y4 =>
        Option.bind (F49 N (Prod.fst (Prod.snd y1))) fun y5 =>
        Option.bind (F26_4090 N N (Prod.fst y1, (0 : Int), y4, y5, Prod.snd (Prod.snd (Prod.snd y1)))) fun y6 =>
        match y6 with
        | .inl y7 =>
          some ((Prod.fst y7, Prod.snd y7))
        | .inr y7 =>
          Option.bind (F50 N (Prod.fst y7, (256 : Int))) fun y8 =>
          if (!Prod.fst y8) = true then
            some (((50 : Int), []))
          else
            if (decide ((List.length (Prod.snd y7) + List.length (Prod.snd y8)) * (1 : Nat) ≤ (140737488355328 : Nat) ∧ List.length (Prod.snd y7) + List.length (Prod.snd y8) ≤ (140737488355328 : Nat))) = true then
              some (((0 : Int), Prod.snd y7 ++ Prod.snd y8))
            else
              none

theorem F26_eq (N : Nat) (x0 : (List Int)) (x1 : (List Int)) (x2 : (List (Int × (Int × (Int × Unit))))) : (fnEv (mkE Try.prog ownT (tab26 N) [(58, (C26_58 N N)), (4090, (C26_4090 N N))]) Try.f26 (J26 (x0, x1, x2))).run D26 = F26 N (x0, x1, x2) := by kernel_rfl

noncomputable def T26 (N : Nat) : Pk → Tr Pk := tell I26 (F26 N) O26

theorem T26_ok (N : Nat) : FOK Try.prog 26 (T26 N) :=
  tell_ok (E := (mkE Try.prog ownT (tab26 N) [(58, (C26_58 N N)), (4090, (C26_4090 N N))])) (mkE_ok mix (tab26_ok N)) Try.func26 (show Try.f26.body = some (bod Try.f26) by kernel_rfl) (by decide +kernel) I26_ok D26_ok (args := A26) (fun _ => by kernel_rfl) (fun _ => by show 3 ≤ Try.f26.ntmps; exact of_decide_eq_true (by kernel_rfl)) (cutsIn_ok ⟨fun c' h => (C26_58_ok N N c' h), ⟨fun c' h => (C26_4090_ok N N c' h), trivial⟩⟩) (fun x => match x with | (x0, x1, x2) => F26_eq N x0 x1 x2)

/-! ## f27: (*mirador/bitio.Writer).Len -/

noncomputable def I27 : Pk → Option (((List Int) × (Int × (Int × Unit))))
  | ⟨[.radr (.cons (.sl (.int .u8)) (.cons (.int .i64) (.cons (.int .i64) .unit))) [x0] [.i 0 3]], []⟩ => some x0
  | _ => none

noncomputable def J27 (x : ((List Int) × (Int × (Int × Unit)))) : Pk := ⟨[.radr (.cons (.sl (.int .u8)) (.cons (.int .i64) (.cons (.int .i64) .unit))) [(x)] [.i 0 3]], []⟩

theorem I27_ok : ∀ pk x, I27 pk = some x → pk = J27 x := by
  intro pk x h
  unfold I27 at h
  split at h <;> first | (cases h; rfl) | cases h

noncomputable def A27 : List TV := []

noncomputable def tab27 (N : Nat) : List (Nat × (Pk → Tr Pk)) := []

theorem tab27_ok (N : Nat) : TabOK Try.prog (tab27 N) := trivial

noncomputable def O27 (r : Int) : Tr (Pk) := .ret ⟨[.v (.int .i64 (r))], []⟩

noncomputable def D27 : Pk → Option (Int)
  | ⟨[.v (.int .i64 x0)], []⟩ => some (x0)
  | _ => none

theorem D27_ok : ∀ y r, D27 y = some r → ∀ z, (O27 r).to z → y = z := by
  intro y r h
  unfold D27 at h
  split at h <;> first | (cases h; intro z hz; exact Option.some.inj hz) | cases h

noncomputable def F27 (N : Nat) : (((List Int) × (Int × (Int × Unit)))) → Option (Int)
  | x0 =>
  some (IntKind.wrap IntKind.i64 (IntKind.wrap IntKind.i64 ((8 : Int) * (↑(List.length (Prod.fst x0)) : Int)) + Prod.fst (Prod.snd (Prod.snd x0))))

theorem F27_eq (N : Nat) (x0 : ((List Int) × (Int × (Int × Unit)))) : (fnEv (mkE Try.prog ownT (tab27 N) []) Try.f27 (J27 x0)).run D27 = F27 N x0 := by kernel_rfl

noncomputable def T27 (N : Nat) : Pk → Tr Pk := tell I27 (F27 N) O27

theorem T27_ok (N : Nat) : FOK Try.prog 27 (T27 N) :=
  tell_ok (E := (mkE Try.prog ownT (tab27 N) [])) (mkE_ok mix (tab27_ok N)) Try.func27 (show Try.f27.body = some (bod Try.f27) by kernel_rfl) (by decide +kernel) I27_ok D27_ok (args := A27) (fun _ => by kernel_rfl) (fun _ => by show 1 ≤ Try.f27.ntmps; exact of_decide_eq_true (by kernel_rfl)) (cutsIn_ok trivial) (fun x => match x with | x0 => F27_eq N x0)

/-! ## f51: mirador/miradorref02.Align -/

noncomputable def I51 : Pk → Option ((List Bool))
  | ⟨[.sl 0 none], [some (.row .bool 4 x0)]⟩ => some x0
  | _ => none

noncomputable def J51 (x : (List Bool)) : Pk := ⟨[.sl 0 none], [some (.row .bool 4 (x))]⟩

theorem I51_ok : ∀ pk x, I51 pk = some x → pk = J51 x := by
  intro pk x h
  unfold I51 at h
  split at h <;> first | (cases h; rfl) | cases h

noncomputable def A51 : List TV := []

noncomputable def tab51 (N : Nat) : List (Nat × (Pk → Tr Pk)) := []

theorem tab51_ok (N : Nat) : TabOK Try.prog (tab51 N) := trivial

def X51_12 : Ex → List Nat
  | .ret => [2]
  | .exit 0 => [0]
  | _ => []

noncomputable def I51_12 : Pk → Option ((List Bool))
  | ⟨[.sl 0 (none)], [some (.row (Ty.bool) 4 x0)]⟩ => some x0
  | _ => none

noncomputable def J51_12 (x : (List Bool)) : Pk := ⟨[.sl 0 (none)], [some (.row (Ty.bool) 4 (x))]⟩

theorem I51_12_ok : ∀ pk x, I51_12 pk = some x → pk = J51_12 x := by
  intro pk x h
  unfold I51_12 at h
  split at h <;> first | (cases h; rfl) | cases h

noncomputable def O51_12 (r : (List Bool)) : Tr (Ex × Pk) := .ret (.exit 0, ⟨[.sl 0 (none)], [some (.row (Ty.bool) 4 (r))]⟩)

noncomputable def D51_12 : Ex × Pk → Option ((List Bool))
  | (.exit 0, ⟨[.sl 0 (none)], [some (.row (Ty.bool) 4 x0)]⟩) => some (x0)
  | _ => none

theorem D51_12_ok : ∀ y r, D51_12 y = some r → ∀ z, (O51_12 r).to z → y = z := by
  intro y r h
  unfold D51_12 at h
  split at h <;> first | (cases h; intro z hz; exact Option.some.inj hz) | cases h

noncomputable def B51_12 (N : Nat) (f : ((List Bool)) → Option ((List Bool))) : ((List Bool)) → Option ((List Bool))
  | x0 =>
  if (Int.tmod (↑(List.length x0) : Int) (8 : Int) != (0 : Int)) = true then
    if (decide ((List.length x0 + (1 : Nat)) * (1 : Nat) ≤ (140737488355328 : Nat) ∧ List.length x0 + (1 : Nat) ≤ (140737488355328 : Nat))) = true then
      Option.bind (f (x0 ++ [false])) fun r => some r
    else
      none
  else
    some (x0)

noncomputable def F51_12 (N : Nat) : Nat → ((List Bool)) → Option ((List Bool))
  | 0, _ => none
  | k + 1, x => B51_12 N (F51_12 N k) x

noncomputable def C51_12 (N k : Nat) : Cut := ⟨[0], X51_12, tellX I51_12 (F51_12 N k) O51_12⟩

theorem B51_12_eq (N : Nat) (f : ((List Bool)) → Option ((List Bool))) (x0 : (List Bool)) : (roundEv (mkE Try.prog ownT (tab51 N) []) Try.f51.ntmps A51 (loopAt (bod Try.f51) 12) 12 ⟨[0], X51_12, tellX I51_12 f O51_12⟩ (J51_12 x0)).run D51_12 = B51_12 N f x0 := by kernel_rfl

theorem C51_12_ok (N k : Nat) : ∀ c', At (bod Try.f51) 12 c' → CutOK Try.prog Try.f51.ntmps (idsL A51) c' (C51_12 N k) :=
  loop_ok (E := (mkE Try.prog ownT (tab51 N) [])) (mkE_ok mix (tab51_ok N)) (cutsIn_ok trivial) (fuel := 200) (by decide +kernel) (by kernel_rfl) I51_12_ok D51_12_ok (B51_12 N) (F51_12 N) (fun _ => rfl) (fun _ _ => rfl) (fun f x => match x with | x0 => B51_12_eq N f x0) k

noncomputable def O51 (r : (List Bool)) : Tr (Pk) := .ret ⟨[.sl 0 (none)], [some (.row (Ty.bool) 4 (r))]⟩

noncomputable def D51 : Pk → Option ((List Bool))
  | ⟨[.sl 0 (none)], [some (.row (Ty.bool) 4 x0)]⟩ => some (x0)
  | _ => none

theorem D51_ok : ∀ y r, D51 y = some r → ∀ z, (O51 r).to z → y = z := by
  intro y r h
  unfold D51 at h
  split at h <;> first | (cases h; intro z hz; exact Option.some.inj hz) | cases h

noncomputable def F51 (N : Nat) : ((List Bool)) → Option ((List Bool))
  | x0 =>
  Option.bind (F51_12 N N x0) fun y0 =>
  some (y0)

theorem F51_eq (N : Nat) (x0 : (List Bool)) : (fnEv (mkE Try.prog ownT (tab51 N) [(12, (C51_12 N N))]) Try.f51 (J51 x0)).run D51 = F51 N x0 := by kernel_rfl

noncomputable def T51 (N : Nat) : Pk → Tr Pk := tell I51 (F51 N) O51

theorem T51_ok (N : Nat) : FOK Try.prog 51 (T51 N) :=
  tell_ok (E := (mkE Try.prog ownT (tab51 N) [(12, (C51_12 N N))])) (mkE_ok mix (tab51_ok N)) Try.func51 (show Try.f51.body = some (bod Try.f51) by kernel_rfl) (by decide +kernel) I51_ok D51_ok (args := A51) (fun _ => by kernel_rfl) (fun _ => by show 1 ≤ Try.f51.ntmps; exact of_decide_eq_true (by kernel_rfl)) (cutsIn_ok ⟨fun c' h => (C51_12_ok N N c' h), trivial⟩) (fun x => match x with | x0 => F51_eq N x0)

/-! ## f29: mirador/miradorref02.Text -/

noncomputable def I29 : Pk → Option ((List Bool))
  | ⟨[.ro .bool x0], []⟩ => some x0
  | _ => none

noncomputable def J29 (x : (List Bool)) : Pk := ⟨[.ro .bool (x)], []⟩

theorem I29_ok : ∀ pk x, I29 pk = some x → pk = J29 x := by
  intro pk x h
  unfold I29 at h
  split at h <;> first | (cases h; rfl) | cases h

noncomputable def A29 : List TV := []

noncomputable def tab29 (N : Nat) : List (Nat × (Pk → Tr Pk)) := [(51, T51 N), (52, T52 N)]

theorem tab29_ok (N : Nat) : TabOK Try.prog (tab29 N) := ⟨T51_ok N, ⟨T52_ok N, trivial⟩⟩

def X29_506 : Ex → List Nat
  | .ret => [2]
  | .exit 0 => [4]
  | _ => []

noncomputable def I29_506 : Pk → Option (ByteArray × Int × (List Bool))
  | ⟨[.v (.string x0), .v (.int .i64 x1), .sl 0 (none)], [some (.row (Ty.bool) 4 x2)]⟩ => some (x0, x1, x2)
  | _ => none

noncomputable def J29_506 (x : ByteArray × Int × (List Bool)) : Pk := ⟨[.v (.string (x.1)), .v (.int .i64 (x.2.1)), .sl 0 (none)], [some (.row (Ty.bool) 4 (x.2.2))]⟩

theorem I29_506_ok : ∀ pk x, I29_506 pk = some x → pk = J29_506 x := by
  intro pk x h
  unfold I29_506 at h
  split at h <;> first | (cases h; rfl) | cases h

noncomputable def O29_506 (r : ByteArray) : Tr (Ex × Pk) := .ret (.exit 0, ⟨[.v (.string (r))], []⟩)

noncomputable def D29_506 : Ex × Pk → Option (ByteArray)
  | (.exit 0, ⟨[.v (.string x0)], []⟩) => some (x0)
  | _ => none

theorem D29_506_ok : ∀ y r, D29_506 y = some r → ∀ z, (O29_506 r).to z → y = z := by
  intro y r h
  unfold D29_506 at h
  split at h <;> first | (cases h; intro z hz; exact Option.some.inj hz) | cases h

noncomputable def B29_506 (N : Nat) (f : (ByteArray × Int × (List Bool)) → Option (ByteArray)) : (ByteArray × Int × (List Bool)) → Option (ByteArray)
  | (x0, x1, x2) =>
  if (decide (x1 < (↑(List.length x2) : Int))) = true then
    if (decide ((0 : Int) ≤ IntKind.wrap IntKind.i64 (x1 + (8 : Int)) ∧ IntKind.wrap IntKind.i64 (x1 + (8 : Int)) ≤ (↑(List.length x2) : Int))) = true then
      if (decide ((0 : Int) ≤ x1 ∧ x1 ≤ (↑(Int.toNat (IntKind.wrap IntKind.i64 (x1 + (8 : Int)))) : Int))) = true then
        Option.bind (F52 N (List.take (Int.toNat (IntKind.wrap IntKind.i64 (x1 + (8 : Int))) - Int.toNat x1) (List.drop (Int.toNat x1) x2))) fun y0 =>
        if (decide ((↑(ByteArray.size x0 + ByteArray.size (stringOf [IntKind.wrap IntKind.u8 y0])) : Int) > (9223372036854775807 : Int))) = true then
          none
        else
          Option.bind (f (x0 ++ stringOf [IntKind.wrap IntKind.u8 y0], IntKind.wrap IntKind.i64 (x1 + (8 : Int)), x2)) fun r => some r
      else
        none
    else
      none
  else
    some (x0)

noncomputable def F29_506 (N : Nat) : Nat → (ByteArray × Int × (List Bool)) → Option (ByteArray)
  | 0, _ => none
  | k + 1, x => B29_506 N (F29_506 N k) x

noncomputable def C29_506 (N k : Nat) : Cut := ⟨[4, 5, 3], X29_506, tellX I29_506 (F29_506 N k) O29_506⟩

theorem B29_506_eq (N : Nat) (f : (ByteArray × Int × (List Bool)) → Option (ByteArray)) (x0 : ByteArray) (x1 : Int) (x2 : (List Bool)) : (roundEv (mkE Try.prog ownT (tab29 N) []) Try.f29.ntmps A29 (loopAt (bod Try.f29) 506) 506 ⟨[4, 5, 3], X29_506, tellX I29_506 f O29_506⟩ (J29_506 (x0, x1, x2))).run D29_506 = B29_506 N f (x0, x1, x2) := by kernel_rfl

theorem C29_506_ok (N k : Nat) : ∀ c', At (bod Try.f29) 506 c' → CutOK Try.prog Try.f29.ntmps (idsL A29) c' (C29_506 N k) :=
  loop_ok (E := (mkE Try.prog ownT (tab29 N) [])) (mkE_ok mix (tab29_ok N)) (cutsIn_ok trivial) (fuel := 200) (by decide +kernel) (by kernel_rfl) I29_506_ok D29_506_ok (B29_506 N) (F29_506 N) (fun _ => rfl) (fun _ _ => rfl) (fun f x => match x with | (x0, x1, x2) => B29_506_eq N f x0 x1 x2) k

noncomputable def O29 (r : ByteArray) : Tr (Pk) := .ret ⟨[.v (.string (r))], []⟩

noncomputable def D29 : Pk → Option (ByteArray)
  | ⟨[.v (.string x0)], []⟩ => some (x0)
  | _ => none

theorem D29_ok : ∀ y r, D29 y = some r → ∀ z, (O29 r).to z → y = z := by
  intro y r h
  unfold D29 at h
  split at h <;> first | (cases h; intro z hz; exact Option.some.inj hz) | cases h

noncomputable def F29 (N : Nat) : ((List Bool)) → Option (ByteArray)
  | x0 =>
  if (decide (((0 : Nat) + List.length x0) * (1 : Nat) ≤ (140737488355328 : Nat) ∧ (0 : Nat) + List.length x0 ≤ (140737488355328 : Nat))) = true then
    Option.bind (F51 N x0) fun y0 =>
    Option.bind (F29_506 N N (ByteArray.mk #[], (0 : Int), y0)) fun y1 =>
    some (y1)
  else
    none

theorem F29_eq (N : Nat) (x0 : (List Bool)) : (fnEv (mkE Try.prog ownT (tab29 N) [(506, (C29_506 N N))]) Try.f29 (J29 x0)).run D29 = F29 N x0 := by kernel_rfl

noncomputable def T29 (N : Nat) : Pk → Tr Pk := tell I29 (F29 N) O29

theorem T29_ok (N : Nat) : FOK Try.prog 29 (T29 N) :=
  tell_ok (E := (mkE Try.prog ownT (tab29 N) [(506, (C29_506 N N))])) (mkE_ok mix (tab29_ok N)) Try.func29 (show Try.f29.body = some (bod Try.f29) by kernel_rfl) (by decide +kernel) I29_ok D29_ok (args := A29) (fun _ => by kernel_rfl) (fun _ => by show 1 ≤ Try.f29.ntmps; exact of_decide_eq_true (by kernel_rfl)) (cutsIn_ok ⟨fun c' h => (C29_506_ok N N c' h), trivial⟩) (fun x => match x with | x0 => F29_eq N x0)

/-! ## f6: mirador/miradorlaw07.SymbolsWrites -/

noncomputable def I6 : Pk → Option ((List Int) × (List Int) × (List (Int × (Int × (Int × Unit)))) × Int)
  | ⟨[.ro (.int .i64) x0, .ro (.int .i64) x1, .ro (.cons (.int .i64) (.cons (.int .i64) (.cons (.int .i64) .unit))) x2, .v (.int .i64 x3)], []⟩ => some (x0, x1, x2, x3)
  | _ => none

noncomputable def J6 (x : (List Int) × (List Int) × (List (Int × (Int × (Int × Unit)))) × Int) : Pk := ⟨[.ro (.int .i64) (x.1), .ro (.int .i64) (x.2.1), .ro (.cons (.int .i64) (.cons (.int .i64) (.cons (.int .i64) .unit))) (x.2.2.1), .v (.int .i64 (x.2.2.2))], []⟩

theorem I6_ok : ∀ pk x, I6 pk = some x → pk = J6 x := by
  intro pk x h
  unfold I6 at h
  split at h <;> first | (cases h; rfl) | cases h

noncomputable def A6 : List TV := []

noncomputable def tab6 (N : Nat) : List (Nat × (Pk → Tr Pk)) := [(8, T8 N), (23, T23 N), (24, T24 N), (25, T25 N), (26, T26 N), (27, T27 N), (28, T28 N), (29, T29 N)]

theorem tab6_ok (N : Nat) : TabOK Try.prog (tab6 N) := ⟨T8_ok N, ⟨T23_ok N, ⟨T24_ok N, ⟨T25_ok N, ⟨T26_ok N, ⟨T27_ok N, ⟨T28_ok N, ⟨T29_ok N, trivial⟩⟩⟩⟩⟩⟩⟩⟩

noncomputable def O6 (r : Bool) : Tr (Pk) := .ret ⟨[.v (.bool (r))], []⟩

noncomputable def D6 : Pk → Option (Bool)
  | ⟨[.v (.bool x0)], []⟩ => some (x0)
  | _ => none

theorem D6_ok : ∀ y r, D6 y = some r → ∀ z, (O6 r).to z → y = z := by
  intro y r h
  unfold D6 at h
  split at h <;> first | (cases h; intro z hz; exact Option.some.inj hz) | cases h

noncomputable def F6 (N : Nat) : ((List Int) × (List Int) × (List (Int × (Int × (Int × Unit)))) × Int) → Option (Bool)
  | (x0, x1, x2, x3) =>
  Option.bind (F8 N ()) fun y0 =>
  if (!y0) = true then
    some (false)
  else
    if (decide ((↑(List.length x0) : Int) > (330 : Int))) = true then
      some (y0)
    else
      if (decide ((↑(List.length x1) : Int) > (330 : Int))) = true then
        some (y0)
      else
        if (decide ((↑(List.length x2) : Int) > (60 : Int))) = true then
          some (y0)
        else
          Option.bind (F23 N (x3, (-1 : Int), (0 : Int), (0 : Int), [])) fun y1 =>
          Option.bind (F24 N (x3, (-1 : Int))) fun y2 =>
          if (decide (((0 : Nat) + List.length y2) * (1 : Nat) ≤ (140737488355328 : Nat) ∧ (0 : Nat) + List.length y2 ≤ (140737488355328 : Nat))) = true then
            Option.bind (F25 N (x0, x1, x2, Prod.fst y1, Prod.fst (Prod.snd y1), Prod.snd (Prod.snd y1))) fun y3 =>
            Option.bind (F26 N (x0, x1, x2)) fun y4 =>
            if (decide ((List.length y2 + List.length (Prod.snd y4)) * (1 : Nat) ≤ (140737488355328 : Nat) ∧ List.length y2 + List.length (Prod.snd y4) ≤ (140737488355328 : Nat))) = true then
              if (y0) = true then
                if (Prod.fst y3 == Prod.fst y4) = true then
                  Option.bind (F27 N (Prod.snd (Prod.snd (Prod.snd y3)), Prod.fst (Prod.snd y3), Prod.fst (Prod.snd (Prod.snd y3)), ())) fun y5 =>
                  if (y5 == (↑(List.length (y2 ++ Prod.snd y4)) : Int)) = true then
                    Option.bind (F28 N (Prod.snd (Prod.snd (Prod.snd y3)), Prod.fst (Prod.snd y3), Prod.fst (Prod.snd (Prod.snd y3)), ())) fun y6 =>
                    Option.bind (F29 N (y2 ++ Prod.snd y4)) fun y7 =>
                    some (ByteArray.toList y6 == ByteArray.toList y7)
                  else
                    some (false)
                else
                  some (false)
              else
                some (false)
            else
              none
          else
            none

theorem F6_eq (N : Nat) (x0 : (List Int)) (x1 : (List Int)) (x2 : (List (Int × (Int × (Int × Unit))))) (x3 : Int) : (fnEv (mkE Try.prog ownT (tab6 N) []) Try.f6 (J6 (x0, x1, x2, x3))).run D6 = F6 N (x0, x1, x2, x3) := by kernel_rfl

noncomputable def T6 (N : Nat) : Pk → Tr Pk := tell I6 (F6 N) O6

theorem T6_ok (N : Nat) : FOK Try.prog 6 (T6 N) :=
  tell_ok (E := (mkE Try.prog ownT (tab6 N) [])) (mkE_ok mix (tab6_ok N)) Try.func6 (show Try.f6.body = some (bod Try.f6) by kernel_rfl) (by decide +kernel) I6_ok D6_ok (args := A6) (fun _ => by kernel_rfl) (fun _ => by show 4 ≤ Try.f6.ntmps; exact of_decide_eq_true (by kernel_rfl)) (cutsIn_ok trivial) (fun x => match x with | (x0, x1, x2, x3) => F6_eq N x0 x1 x2 x3)

/-! ## f32: mirador/miradorref02.All -/

noncomputable def I32 : Pk → Option (ByteArray)
  | ⟨[.v (.string x0)], []⟩ => some x0
  | _ => none

noncomputable def J32 (x : ByteArray) : Pk := ⟨[.v (.string (x))], []⟩

theorem I32_ok : ∀ pk x, I32 pk = some x → pk = J32 x := by
  intro pk x h
  unfold I32 at h
  split at h <;> first | (cases h; rfl) | cases h

noncomputable def A32 : List TV := []

noncomputable def tab32 (N : Nat) : List (Nat × (Pk → Tr Pk)) := [(24, T24 N)]

theorem tab32_ok (N : Nat) : TabOK Try.prog (tab32 N) := ⟨T24_ok N, trivial⟩

def X32_58 : Ex → List Nat
  | .ret => [2]
  | .exit 0 => [3]
  | _ => []

noncomputable def I32_58 : Pk → Option (Int × ByteArray × (List Bool))
  | ⟨[.sl 0 (none), .v (.int .i64 x0), .v (.string x1)], [some (.row (Ty.bool) 4 x2)]⟩ => some (x0, x1, x2)
  | _ => none

noncomputable def J32_58 (x : Int × ByteArray × (List Bool)) : Pk := ⟨[.sl 0 (none), .v (.int .i64 (x.1)), .v (.string (x.2.1))], [some (.row (Ty.bool) 4 (x.2.2))]⟩

theorem I32_58_ok : ∀ pk x, I32_58 pk = some x → pk = J32_58 x := by
  intro pk x h
  unfold I32_58 at h
  split at h <;> first | (cases h; rfl) | cases h

noncomputable def O32_58 (r : (List Bool)) : Tr (Ex × Pk) := .ret (.exit 0, ⟨[.sl 0 (none)], [some (.row (Ty.bool) 4 (r))]⟩)

noncomputable def D32_58 : Ex × Pk → Option ((List Bool))
  | (.exit 0, ⟨[.sl 0 (none)], [some (.row (Ty.bool) 4 x0)]⟩) => some (x0)
  | _ => none

theorem D32_58_ok : ∀ y r, D32_58 y = some r → ∀ z, (O32_58 r).to z → y = z := by
  intro y r h
  unfold D32_58 at h
  split at h <;> first | (cases h; intro z hz; exact Option.some.inj hz) | cases h

noncomputable def B32_58 (N : Nat) (f : (Int × ByteArray × (List Bool)) → Option ((List Bool))) : (Int × ByteArray × (List Bool)) → Option ((List Bool))
  | (x0, x1, x2) =>
  if (decide (x0 < (↑(ByteArray.size x1) : Int))) = true then
    if (decide ((0 : Int) ≤ x0)) = true then
      Option.bind (x1[Int.toNat x0]?) fun y0 =>
      Option.bind (F24 N ((8 : Int), IntKind.wrap IntKind.i64 (↑(UInt8.toNat y0) : Int))) fun y1 =>
      if (decide ((List.length x2 + List.length y1) * (1 : Nat) ≤ (140737488355328 : Nat) ∧ List.length x2 + List.length y1 ≤ (140737488355328 : Nat))) = true then
        Option.bind (f (IntKind.wrap IntKind.i64 (x0 + (1 : Int)), x1, x2 ++ y1)) fun r => some r
      else
        none
    else
      none
  else
    some (x2)

noncomputable def F32_58 (N : Nat) : Nat → (Int × ByteArray × (List Bool)) → Option ((List Bool))
  | 0, _ => none
  | k + 1, x => B32_58 N (F32_58 N k) x

noncomputable def C32_58 (N k : Nat) : Cut := ⟨[3, 4, 0], X32_58, tellX I32_58 (F32_58 N k) O32_58⟩

theorem B32_58_eq (N : Nat) (f : (Int × ByteArray × (List Bool)) → Option ((List Bool))) (x0 : Int) (x1 : ByteArray) (x2 : (List Bool)) : (roundEv (mkE Try.prog ownT (tab32 N) []) Try.f32.ntmps A32 (loopAt (bod Try.f32) 58) 58 ⟨[3, 4, 0], X32_58, tellX I32_58 f O32_58⟩ (J32_58 (x0, x1, x2))).run D32_58 = B32_58 N f (x0, x1, x2) := by kernel_rfl

theorem C32_58_ok (N k : Nat) : ∀ c', At (bod Try.f32) 58 c' → CutOK Try.prog Try.f32.ntmps (idsL A32) c' (C32_58 N k) :=
  loop_ok (E := (mkE Try.prog ownT (tab32 N) [])) (mkE_ok mix (tab32_ok N)) (cutsIn_ok trivial) (fuel := 200) (by decide +kernel) (by kernel_rfl) I32_58_ok D32_58_ok (B32_58 N) (F32_58 N) (fun _ => rfl) (fun _ _ => rfl) (fun f x => match x with | (x0, x1, x2) => B32_58_eq N f x0 x1 x2) k

noncomputable def O32 (r : (List Bool)) : Tr (Pk) := .ret ⟨[.sl 0 (none)], [some (.row (Ty.bool) 4 (r))]⟩

noncomputable def D32 : Pk → Option ((List Bool))
  | ⟨[.sl 0 (none)], [some (.row (Ty.bool) 4 x0)]⟩ => some (x0)
  | _ => none

theorem D32_ok : ∀ y r, D32 y = some r → ∀ z, (O32 r).to z → y = z := by
  intro y r h
  unfold D32 at h
  split at h <;> first | (cases h; intro z hz; exact Option.some.inj hz) | cases h

noncomputable def F32 (N : Nat) : (ByteArray) → Option ((List Bool))
  | x0 =>
  Option.bind (F32_58 N N ((0 : Int), x0, [])) fun y0 =>
  some (y0)

theorem F32_eq (N : Nat) (x0 : ByteArray) : (fnEv (mkE Try.prog ownT (tab32 N) [(58, (C32_58 N N))]) Try.f32 (J32 x0)).run D32 = F32 N x0 := by kernel_rfl

noncomputable def T32 (N : Nat) : Pk → Tr Pk := tell I32 (F32 N) O32

theorem T32_ok (N : Nat) : FOK Try.prog 32 (T32 N) :=
  tell_ok (E := (mkE Try.prog ownT (tab32 N) [(58, (C32_58 N N))])) (mkE_ok mix (tab32_ok N)) Try.func32 (show Try.f32.body = some (bod Try.f32) by kernel_rfl) (by decide +kernel) I32_ok D32_ok (args := A32) (fun _ => by kernel_rfl) (fun _ => by show 1 ≤ Try.f32.ntmps; exact of_decide_eq_true (by kernel_rfl)) (cutsIn_ok ⟨fun c' h => (C32_58_ok N N c' h), trivial⟩) (fun x => match x with | x0 => F32_eq N x0)


end Go.Proofs.Ytmcjfdognplgmaa.Am

set_option linter.unusedVariables false
set_option maxRecDepth 100000
namespace Go.Proofs.Ytmcjfdognplgmaa.Am
open Go.Am

/-! ## f75: mirador/miradorref05.Bit -/

noncomputable def I75 : Pk → Option (Int × Int × Int)
  | ⟨[.agg [.v (.int .i64 x0), .v (.int .i64 x1)], .v (.int .i64 x2)], []⟩ => some (x0, x1, x2)
  | _ => none

noncomputable def J75 (x : Int × Int × Int) : Pk := ⟨[.agg [.v (.int .i64 (x.1)), .v (.int .i64 (x.2.1))], .v (.int .i64 (x.2.2))], []⟩

theorem I75_ok : ∀ pk x, I75 pk = some x → pk = J75 x := by
  intro pk x h
  unfold I75 at h
  split at h <;> first | (cases h; rfl) | cases h

noncomputable def A75 : List TV := []

noncomputable def tab75 (N : Nat) : List (Nat × (Pk → Tr Pk)) := [(63, T63 N)]

theorem tab75_ok (N : Nat) : TabOK Try.prog (tab75 N) := ⟨T63_ok N, trivial⟩

noncomputable def O75 (r : Bool) : Tr (Pk) := .ret ⟨[.v (.bool (r))], []⟩

noncomputable def D75 : Pk → Option (Bool)
  | ⟨[.v (.bool x0)], []⟩ => some (x0)
  | _ => none

theorem D75_ok : ∀ y r, D75 y = some r → ∀ z, (O75 r).to z → y = z := by
  intro y r h
  unfold D75 at h
  split at h <;> first | (cases h; intro z hz; exact Option.some.inj hz) | cases h

noncomputable def F75 (N : Nat) : (Int × Int × Int) → Option (Bool)
  | (x0, x1, x2) =>
  Option.bind (F63 N (IntKind.wrap IntKind.i64 (IntKind.wrap IntKind.i64 (x1 - (1 : Int)) - x2))) fun y0 =>
  if (decide (y0 = (0 : Int))) = true then
    none
  else
    some (Int.tmod (IntKind.wrap IntKind.i64 (Int.tdiv x0 y0)) (2 : Int) == (1 : Int))

theorem F75_eq (N : Nat) (x0 : Int) (x1 : Int) (x2 : Int) : (fnEv (mkE Try.prog ownT (tab75 N) []) Try.f75 (J75 (x0, x1, x2))).run D75 = F75 N (x0, x1, x2) := by kernel_rfl

noncomputable def T75 (N : Nat) : Pk → Tr Pk := tell I75 (F75 N) O75

theorem T75_ok (N : Nat) : FOK Try.prog 75 (T75 N) :=
  tell_ok (E := (mkE Try.prog ownT (tab75 N) [])) (mkE_ok mix (tab75_ok N)) Try.func75 (show Try.f75.body = some (bod Try.f75) by kernel_rfl) (by decide +kernel) I75_ok D75_ok (args := A75) (fun _ => by kernel_rfl) (fun _ => by show 2 ≤ Try.f75.ntmps; exact of_decide_eq_true (by kernel_rfl)) (cutsIn_ok trivial) (fun x => match x with | (x0, x1, x2) => F75_eq N x0 x1 x2)

/-! ## f72: mirador/miradorref05.begins -/

noncomputable def I72 : Pk → Option (Int × Int × (List Bool))
  | ⟨[.agg [.v (.int .i64 x0), .v (.int .i64 x1)], .ro .bool x2], []⟩ => some (x0, x1, x2)
  | _ => none

noncomputable def J72 (x : Int × Int × (List Bool)) : Pk := ⟨[.agg [.v (.int .i64 (x.1)), .v (.int .i64 (x.2.1))], .ro .bool (x.2.2)], []⟩

theorem I72_ok : ∀ pk x, I72 pk = some x → pk = J72 x := by
  intro pk x h
  unfold I72 at h
  split at h <;> first | (cases h; rfl) | cases h

noncomputable def A72 : List TV := []

noncomputable def tab72 (N : Nat) : List (Nat × (Pk → Tr Pk)) := [(75, T75 N)]

theorem tab72_ok (N : Nat) : TabOK Try.prog (tab72 N) := ⟨T75_ok N, trivial⟩

def X72_58 : Ex → List Nat
  | .ret => [4]
  | .exit 0 => []
  | _ => []

noncomputable def I72_58 : Pk → Option ((List Bool) × Int × Int × Int)
  | ⟨[.adr 0 [], .ro (Ty.bool) x0, .v (.int .i64 x1)], [some (.var (.agg [.v (.int .i64 x2), .v (.int .i64 x3)]))]⟩ => some (x0, x1, x2, x3)
  | _ => none

noncomputable def J72_58 (x : (List Bool) × Int × Int × Int) : Pk := ⟨[.adr 0 [], .ro (Ty.bool) (x.1), .v (.int .i64 (x.2.1))], [some (.var (.agg [.v (.int .i64 (x.2.2.1)), .v (.int .i64 (x.2.2.2))]))]⟩

theorem I72_58_ok : ∀ pk x, I72_58 pk = some x → pk = J72_58 x := by
  intro pk x h
  unfold I72_58 at h
  split at h <;> first | (cases h; rfl) | cases h

noncomputable def O72_58 (r : ((Bool) ⊕ (Unit))) : Tr (Ex × Pk) := .sum _ _ r (fun u => .ret (.ret, ⟨[.v (.bool (u))], []⟩)) (fun v => .ret (.exit 0, ⟨[], []⟩))

noncomputable def D72_58 : Ex × Pk → Option (((Bool) ⊕ (Unit)))
  | (.ret, ⟨[.v (.bool x0)], []⟩) => some (.inl (x0))
  | (.exit 0, ⟨[], []⟩) => some (.inr (()))
  | _ => none

theorem D72_58_ok : ∀ y r, D72_58 y = some r → ∀ z, (O72_58 r).to z → y = z := by
  intro y r h
  unfold D72_58 at h
  split at h <;> first | (cases h; intro z hz; exact Option.some.inj hz) | cases h

noncomputable def B72_58 (N : Nat) (f : ((List Bool) × Int × Int × Int) → Option (((Bool) ⊕ (Unit)))) : ((List Bool) × Int × Int × Int) → Option (((Bool) ⊕ (Unit)))
  | (x0, x1, x2, x3) =>
  if (decide (x1 < (↑(List.length x0) : Int))) = true then
    Option.bind (F75 N (x2, x3, x1)) fun y0 =>
    if (within x1 (List.length x0)) = true then
      Option.bind (x0[Int.toNat x1]?) fun y1 =>
      if (!y0 == y1) = true then
        some (.inl (false))
      else
        Option.bind (f (x0, IntKind.wrap IntKind.i64 (x1 + (1 : Int)), x2, x3)) fun r => match r with | .inl (y) => some (.inl (y)) | .inr (y) => some (.inr (y))
    else
      none
  else
    some (.inr (()))

noncomputable def F72_58 (N : Nat) : Nat → ((List Bool) × Int × Int × Int) → Option (((Bool) ⊕ (Unit)))
  | 0, _ => none
  | k + 1, x => B72_58 N (F72_58 N k) x

noncomputable def C72_58 (N k : Nat) : Cut := ⟨[2, 1, 5], X72_58, tellX I72_58 (F72_58 N k) O72_58⟩

theorem B72_58_eq (N : Nat) (f : ((List Bool) × Int × Int × Int) → Option (((Bool) ⊕ (Unit)))) (x0 : (List Bool)) (x1 : Int) (x2 : Int) (x3 : Int) : (roundEv (mkE Try.prog ownT (tab72 N) []) Try.f72.ntmps A72 (loopAt (bod Try.f72) 58) 58 ⟨[2, 1, 5], X72_58, tellX I72_58 f O72_58⟩ (J72_58 (x0, x1, x2, x3))).run D72_58 = B72_58 N f (x0, x1, x2, x3) := by kernel_rfl

theorem C72_58_ok (N k : Nat) : ∀ c', At (bod Try.f72) 58 c' → CutOK Try.prog Try.f72.ntmps (idsL A72) c' (C72_58 N k) :=
  loop_ok (E := (mkE Try.prog ownT (tab72 N) [])) (mkE_ok mix (tab72_ok N)) (cutsIn_ok trivial) (fuel := 200) (by decide +kernel) (by kernel_rfl) I72_58_ok D72_58_ok (B72_58 N) (F72_58 N) (fun _ => rfl) (fun _ _ => rfl) (fun f x => match x with | (x0, x1, x2, x3) => B72_58_eq N f x0 x1 x2 x3) k

noncomputable def O72 (r : Bool) : Tr (Pk) := .ret ⟨[.v (.bool (r))], []⟩

noncomputable def D72 : Pk → Option (Bool)
  | ⟨[.v (.bool x0)], []⟩ => some (x0)
  | _ => none

theorem D72_ok : ∀ y r, D72 y = some r → ∀ z, (O72 r).to z → y = z := by
  intro y r h
  unfold D72 at h
  split at h <;> first | (cases h; intro z hz; exact Option.some.inj hz) | cases h

noncomputable def F72 (N : Nat) : (Int × Int × (List Bool)) → Option (Bool)
  | (x0, x1, x2) =>
  if (decide (x1 < (↑(List.length x2) : Int))) = true then
    some (false)
  else
    Option.bind (F72_58 N N (x2, (0 : Int), x0, x1)) fun y0 =>
    match y0 with
    | .inl y1 =>
      some (y1)
    | .inr y1 =>
      some (true)

theorem F72_eq (N : Nat) (x0 : Int) (x1 : Int) (x2 : (List Bool)) : (fnEv (mkE Try.prog ownT (tab72 N) [(58, (C72_58 N N))]) Try.f72 (J72 (x0, x1, x2))).run D72 = F72 N (x0, x1, x2) := by kernel_rfl

noncomputable def T72 (N : Nat) : Pk → Tr Pk := tell I72 (F72 N) O72

theorem T72_ok (N : Nat) : FOK Try.prog 72 (T72 N) :=
  tell_ok (E := (mkE Try.prog ownT (tab72 N) [(58, (C72_58 N N))])) (mkE_ok mix (tab72_ok N)) Try.func72 (show Try.f72.body = some (bod Try.f72) by kernel_rfl) (by decide +kernel) I72_ok D72_ok (args := A72) (fun _ => by kernel_rfl) (fun _ => by show 2 ≤ Try.f72.ntmps; exact of_decide_eq_true (by kernel_rfl)) (cutsIn_ok ⟨fun c' h => (C72_58_ok N N c' h), trivial⟩) (fun x => match x with | (x0, x1, x2) => F72_eq N x0 x1 x2)

/-! ## f69: mirador/miradorref05.Find -/

noncomputable def I69 : Pk → Option ((List (Int × (Int × Unit))) × (List Bool))
  | ⟨[.ro (.cons (.int .i64) (.cons (.int .i64) .unit)) x0, .ro .bool x1], []⟩ => some (x0, x1)
  | _ => none

noncomputable def J69 (x : (List (Int × (Int × Unit))) × (List Bool)) : Pk := ⟨[.ro (.cons (.int .i64) (.cons (.int .i64) .unit)) (x.1), .ro .bool (x.2)], []⟩

theorem I69_ok : ∀ pk x, I69 pk = some x → pk = J69 x := by
  intro pk x h
  unfold I69 at h
  split at h <;> first | (cases h; rfl) | cases h

noncomputable def A69 : List TV := []

noncomputable def tab69 (N : Nat) : List (Nat × (Pk → Tr Pk)) := [(72, T72 N)]

theorem tab69_ok (N : Nat) : TabOK Try.prog (tab69 N) := ⟨T72_ok N, trivial⟩

def X69_58 : Ex → List Nat
  | .ret => [4]
  | .exit 0 => [5]
  | _ => []

noncomputable def I69_58 : Pk → Option (Int × Int × (List Bool) × (List (Int × (Int × Unit))))
  | ⟨[.v (.int .i64 x0), .v (.int .i64 x1), .ro (Ty.bool) x2, .ro (Ty.cons (Ty.int IntKind.i64) (Ty.cons (Ty.int IntKind.i64) Ty.unit)) x3], []⟩ => some (x0, x1, x2, x3)
  | _ => none

noncomputable def J69_58 (x : Int × Int × (List Bool) × (List (Int × (Int × Unit)))) : Pk := ⟨[.v (.int .i64 (x.1)), .v (.int .i64 (x.2.1)), .ro (Ty.bool) (x.2.2.1), .ro (Ty.cons (Ty.int IntKind.i64) (Ty.cons (Ty.int IntKind.i64) Ty.unit)) (x.2.2.2)], []⟩

theorem I69_58_ok : ∀ pk x, I69_58 pk = some x → pk = J69_58 x := by
  intro pk x h
  unfold I69_58 at h
  split at h <;> first | (cases h; rfl) | cases h

noncomputable def O69_58 (r : ((Int) ⊕ (Int))) : Tr (Ex × Pk) := .sum _ _ r (fun u => .ret (.ret, ⟨[.v (.int .i64 (u))], []⟩)) (fun v => .ret (.exit 0, ⟨[.v (.int .i64 (v))], []⟩))

noncomputable def D69_58 : Ex × Pk → Option (((Int) ⊕ (Int)))
  | (.ret, ⟨[.v (.int .i64 x0)], []⟩) => some (.inl (x0))
  | (.exit 0, ⟨[.v (.int .i64 x0)], []⟩) => some (.inr (x0))
  | _ => none

theorem D69_58_ok : ∀ y r, D69_58 y = some r → ∀ z, (O69_58 r).to z → y = z := by
  intro y r h
  unfold D69_58 at h
  split at h <;> first | (cases h; intro z hz; exact Option.some.inj hz) | cases h

noncomputable def B69_58 (N : Nat) (f : (Int × Int × (List Bool) × (List (Int × (Int × Unit)))) → Option (((Int) ⊕ (Int)))) : (Int × Int × (List Bool) × (List (Int × (Int × Unit)))) → Option (((Int) ⊕ (Int)))
  | (x0, x1, x2, x3) =>
  if (decide (x0 < (↑(List.length x3) : Int))) = true then
    if (within x0 (List.length x3)) = true then
      Option.bind (x3[Int.toNat x0]?) fun y0 =>
      if (Prod.fst (Prod.snd y0) == (0 : Int)) = true then
        Option.bind (f (IntKind.wrap IntKind.i64 (x0 + (1 : Int)), x1, x2, x3)) fun r => match r with | .inl (y) => some (.inl (y)) | .inr (y) => some (.inr (y))
      else
        if (within x0 (List.length x3)) = true then
          Option.bind (x3[Int.toNat x0]?) fun y1 =>
          Option.bind (F72 N (Prod.fst y1, Prod.fst (Prod.snd y1), x2)) fun y2 =>
          if (y2) = true then
            if (within x0 (List.length x3)) = true then
              Option.bind (x3[Int.toNat x0]?) fun y3 =>
              if (Prod.fst (Prod.snd y3) == (↑(List.length x2) : Int)) = true then
                some (.inl (x0))
              else
                if (y2) = true then
                  Option.bind (f (IntKind.wrap IntKind.i64 (x0 + (1 : Int)), (-1 : Int), x2, x3)) fun r => match r with | .inl (y) => some (.inl (y)) | .inr (y) => some (.inr (y))
                else
                  Option.bind (f (IntKind.wrap IntKind.i64 (x0 + (1 : Int)), x1, x2, x3)) fun r => match r with | .inl (y) => some (.inl (y)) | .inr (y) => some (.inr (y))
            else
              none
          else
            if (y2) = true then
              Option.bind (f (IntKind.wrap IntKind.i64 (x0 + (1 : Int)), (-1 : Int), x2, x3)) fun r => match r with | .inl (y) => some (.inl (y)) | .inr (y) => some (.inr (y))
            else
              Option.bind (f (IntKind.wrap IntKind.i64 (x0 + (1 : Int)), x1, x2, x3)) fun r => match r with | .inl (y) => some (.inl (y)) | .inr (y) => some (.inr (y))
        else
          none
    else
      none
  else
    some (.inr (x1))

noncomputable def F69_58 (N : Nat) : Nat → (Int × Int × (List Bool) × (List (Int × (Int × Unit)))) → Option (((Int) ⊕ (Int)))
  | 0, _ => none
  | k + 1, x => B69_58 N (F69_58 N k) x

noncomputable def C69_58 (N k : Nat) : Cut := ⟨[6, 5, 1, 0], X69_58, tellX I69_58 (F69_58 N k) O69_58⟩

theorem B69_58_eq (N : Nat) (f : (Int × Int × (List Bool) × (List (Int × (Int × Unit)))) → Option (((Int) ⊕ (Int)))) (x0 : Int) (x1 : Int) (x2 : (List Bool)) (x3 : (List (Int × (Int × Unit)))) : (roundEv (mkE Try.prog ownT (tab69 N) []) Try.f69.ntmps A69 (loopAt (bod Try.f69) 58) 58 ⟨[6, 5, 1, 0], X69_58, tellX I69_58 f O69_58⟩ (J69_58 (x0, x1, x2, x3))).run D69_58 = B69_58 N f (x0, x1, x2, x3) := by kernel_rfl

theorem C69_58_ok (N k : Nat) : ∀ c', At (bod Try.f69) 58 c' → CutOK Try.prog Try.f69.ntmps (idsL A69) c' (C69_58 N k) :=
  loop_ok (E := (mkE Try.prog ownT (tab69 N) [])) (mkE_ok mix (tab69_ok N)) (cutsIn_ok trivial) (fuel := 200) (by decide +kernel) (by kernel_rfl) I69_58_ok D69_58_ok (B69_58 N) (F69_58 N) (fun _ => rfl) (fun _ _ => rfl) (fun f x => match x with | (x0, x1, x2, x3) => B69_58_eq N f x0 x1 x2 x3) k

noncomputable def O69 (r : Int) : Tr (Pk) := .ret ⟨[.v (.int .i64 (r))], []⟩

noncomputable def D69 : Pk → Option (Int)
  | ⟨[.v (.int .i64 x0)], []⟩ => some (x0)
  | _ => none

theorem D69_ok : ∀ y r, D69 y = some r → ∀ z, (O69 r).to z → y = z := by
  intro y r h
  unfold D69 at h
  split at h <;> first | (cases h; intro z hz; exact Option.some.inj hz) | cases h

noncomputable def F69 (N : Nat) : ((List (Int × (Int × Unit))) × (List Bool)) → Option (Int)
  | (x0, x1) =>
  Option.bind (F69_58 N N ((0 : Int), (-2 : Int), x1, x0)) fun y0 =>
  match y0 with
  | .inl y1 =>
    some (y1)
  | .inr y1 =>
    some (y1)

theorem F69_eq (N : Nat) (x0 : (List (Int × (Int × Unit)))) (x1 : (List Bool)) : (fnEv (mkE Try.prog ownT (tab69 N) [(58, (C69_58 N N))]) Try.f69 (J69 (x0, x1))).run D69 = F69 N (x0, x1) := by kernel_rfl

noncomputable def T69 (N : Nat) : Pk → Tr Pk := tell I69 (F69 N) O69

theorem T69_ok (N : Nat) : FOK Try.prog 69 (T69 N) :=
  tell_ok (E := (mkE Try.prog ownT (tab69 N) [(58, (C69_58 N N))])) (mkE_ok mix (tab69_ok N)) Try.func69 (show Try.f69.body = some (bod Try.f69) by kernel_rfl) (by decide +kernel) I69_ok D69_ok (args := A69) (fun _ => by kernel_rfl) (fun _ => by show 2 ≤ Try.f69.ntmps; exact of_decide_eq_true (by kernel_rfl)) (cutsIn_ok ⟨fun c' h => (C69_58_ok N N c' h), trivial⟩) (fun x => match x with | (x0, x1) => F69_eq N x0 x1)

/-! ## f57: (*mirador/miradorref02.Reader).Bits -/

noncomputable def I57 : Pk → Option (Int × Int × Int × (List Bool))
  | ⟨[.adr 0 [], .v (.int .i64 x0)], [some (.var (.agg [.sl 1 none, .v (.int .i64 x1), .v (.int .i64 x2)])), some (.row .bool 4 x3)]⟩ => some (x0, x1, x2, x3)
  | _ => none

noncomputable def J57 (x : Int × Int × Int × (List Bool)) : Pk := ⟨[.adr 0 [], .v (.int .i64 (x.1))], [some (.var (.agg [.sl 1 none, .v (.int .i64 (x.2.1)), .v (.int .i64 (x.2.2.1))])), some (.row .bool 4 (x.2.2.2))]⟩

theorem I57_ok : ∀ pk x, I57 pk = some x → pk = J57 x := by
  intro pk x h
  unfold I57 at h
  split at h <;> first | (cases h; rfl) | cases h

noncomputable def A57 : List TV := [.adr 0 []]

noncomputable def tab57 (N : Nat) : List (Nat × (Pk → Tr Pk)) := [(44, T44 N), (52, T52 N)]

theorem tab57_ok (N : Nat) : TabOK Try.prog (tab57 N) := ⟨T44_ok N, ⟨T52_ok N, trivial⟩⟩

noncomputable def O57 (r : Int × Int × Int × (List Bool)) : Tr (Pk) := .ret ⟨[.v (.int .i64 (r.1))], [some (.var (.agg [.sl 1 (none), .v (.int .i64 (r.2.1)), .v (.int .i64 (r.2.2.1))])), some (.row (Ty.bool) 4 (r.2.2.2))]⟩

noncomputable def D57 : Pk → Option (Int × Int × Int × (List Bool))
  | ⟨[.v (.int .i64 x0)], [some (.var (.agg [.sl 1 (none), .v (.int .i64 x1), .v (.int .i64 x2)])), some (.row (Ty.bool) 4 x3)]⟩ => some ((x0, x1, x2, x3))
  | _ => none

theorem D57_ok : ∀ y r, D57 y = some r → ∀ z, (O57 r).to z → y = z := by
  intro y r h
  unfold D57 at h
  split at h <;> first | (cases h; intro z hz; exact Option.some.inj hz) | cases h

noncomputable def F57 (N : Nat) : (Int × Int × Int × (List Bool)) → Option (Int × Int × Int × (List Bool))
  | (x0, x1, x2, x3) =>
  Option.bind (F44 N x0) fun y0 =>
  if (x2 == (0 : Int)) = true then
    if (decide (y0 > IntKind.wrap IntKind.i64 ((↑(List.length x3) : Int) - x1))) = true then
      some (((0 : Int), x1, (2 : Int), x3))
    else
      if (x2 != (0 : Int)) = true then
        some (((0 : Int), x1, x2, x3))
      else
        if (decide ((0 : Int) ≤ IntKind.wrap IntKind.i64 (x1 + y0) ∧ IntKind.wrap IntKind.i64 (x1 + y0) ≤ (↑(List.length x3) : Int))) = true then
          if (decide ((0 : Int) ≤ IntKind.wrap IntKind.i64 (IntKind.wrap IntKind.i64 (x1 + y0) - y0) ∧ IntKind.wrap IntKind.i64 (IntKind.wrap IntKind.i64 (x1 + y0) - y0) ≤ (↑(Int.toNat (IntKind.wrap IntKind.i64 (x1 + y0))) : Int))) = true then
            Option.bind (F52 N (List.take (Int.toNat (IntKind.wrap IntKind.i64 (x1 + y0)) - Int.toNat (IntKind.wrap IntKind.i64 (IntKind.wrap IntKind.i64 (x1 + y0) - y0))) (List.drop (Int.toNat (IntKind.wrap IntKind.i64 (IntKind.wrap IntKind.i64 (x1 + y0) - y0))) x3))) fun y1 =>
            some ((y1, IntKind.wrap IntKind.i64 (x1 + y0), x2, x3))
          else
            none
        else
          none
  else
    if (x2 != (0 : Int)) = true then
      some (((0 : Int), x1, x2, x3))
    else
      if (decide ((0 : Int) ≤ IntKind.wrap IntKind.i64 (x1 + y0) ∧ IntKind.wrap IntKind.i64 (x1 + y0) ≤ (↑(List.length x3) : Int))) = true then
        if (decide ((0 : Int) ≤ IntKind.wrap IntKind.i64 (IntKind.wrap IntKind.i64 (x1 + y0) - y0) ∧ IntKind.wrap IntKind.i64 (IntKind.wrap IntKind.i64 (x1 + y0) - y0) ≤ (↑(Int.toNat (IntKind.wrap IntKind.i64 (x1 + y0))) : Int))) = true then
          Option.bind (F52 N (List.take (Int.toNat (IntKind.wrap IntKind.i64 (x1 + y0)) - Int.toNat (IntKind.wrap IntKind.i64 (IntKind.wrap IntKind.i64 (x1 + y0) - y0))) (List.drop (Int.toNat (IntKind.wrap IntKind.i64 (IntKind.wrap IntKind.i64 (x1 + y0) - y0))) x3))) fun y2 =>
          some ((y2, IntKind.wrap IntKind.i64 (x1 + y0), x2, x3))
        else
          none
      else
        none

theorem F57_eq (N : Nat) (x0 : Int) (x1 : Int) (x2 : Int) (x3 : (List Bool)) : (fnEv (mkE Try.prog ownT (tab57 N) []) Try.f57 (J57 (x0, x1, x2, x3))).run D57 = F57 N (x0, x1, x2, x3) := by kernel_rfl

noncomputable def T57 (N : Nat) : Pk → Tr Pk := tell I57 (F57 N) O57

theorem T57_ok (N : Nat) : FOK Try.prog 57 (T57 N) :=
  tell_ok (E := (mkE Try.prog ownT (tab57 N) [])) (mkE_ok mix (tab57_ok N)) Try.func57 (show Try.f57.body = some (bod Try.f57) by kernel_rfl) (by decide +kernel) I57_ok D57_ok (args := A57) (fun _ => by kernel_rfl) (fun _ => by show 2 ≤ Try.f57.ntmps; exact of_decide_eq_true (by kernel_rfl)) (cutsIn_ok trivial) (fun x => match x with | (x0, x1, x2, x3) => F57_eq N x0 x1 x2 x3)

/-! ## f56: mirador/miradorref07.symbol -/

noncomputable def I56 : Pk → Option ((List (Int × (Int × Unit))) × Int × Int × (List Bool))
  | ⟨[.ro (.cons (.int .i64) (.cons (.int .i64) .unit)) x0, .adr 0 []], [some (.var (.agg [.sl 1 none, .v (.int .i64 x1), .v (.int .i64 x2)])), some (.row .bool 4 x3)]⟩ => some (x0, x1, x2, x3)
  | _ => none

noncomputable def J56 (x : (List (Int × (Int × Unit))) × Int × Int × (List Bool)) : Pk := ⟨[.ro (.cons (.int .i64) (.cons (.int .i64) .unit)) (x.1), .adr 0 []], [some (.var (.agg [.sl 1 none, .v (.int .i64 (x.2.1)), .v (.int .i64 (x.2.2.1))])), some (.row .bool 4 (x.2.2.2))]⟩

theorem I56_ok : ∀ pk x, I56 pk = some x → pk = J56 x := by
  intro pk x h
  unfold I56 at h
  split at h <;> first | (cases h; rfl) | cases h

noncomputable def A56 : List TV := [.adr 0 []]

noncomputable def tab56 (N : Nat) : List (Nat × (Pk → Tr Pk)) := [(69, T69 N), (57, T57 N)]

theorem tab56_ok (N : Nat) : TabOK Try.prog (tab56 N) := ⟨T69_ok N, ⟨T57_ok N, trivial⟩⟩

def X56_14 : Ex → List Nat
  | .ret => [4, 5]
  | .exit 0 => [4, 5]
  | _ => []

noncomputable def I56_14 : Pk → Option ((List (Int × (Int × Unit))) × Int × Int × (List Bool) × (List Bool))
  | ⟨[.ro (Ty.cons (Ty.int IntKind.i64) (Ty.cons (Ty.int IntKind.i64) Ty.unit)) x0, .sl 1 (none), .adr 0 []], [some (.var (.agg [.sl 2 (none), .v (.int .i64 x1), .v (.int .i64 x2)])), some (.row (Ty.bool) 4 x3), some (.row (Ty.bool) 4 x4)]⟩ => some (x0, x1, x2, x3, x4)
  | _ => none

noncomputable def J56_14 (x : (List (Int × (Int × Unit))) × Int × Int × (List Bool) × (List Bool)) : Pk := ⟨[.ro (Ty.cons (Ty.int IntKind.i64) (Ty.cons (Ty.int IntKind.i64) Ty.unit)) (x.1), .sl 1 (none), .adr 0 []], [some (.var (.agg [.sl 2 (none), .v (.int .i64 (x.2.1)), .v (.int .i64 (x.2.2.1))])), some (.row (Ty.bool) 4 (x.2.2.2.1)), some (.row (Ty.bool) 4 (x.2.2.2.2))]⟩

theorem I56_14_ok : ∀ pk x, I56_14 pk = some x → pk = J56_14 x := by
  intro pk x h
  unfold I56_14 at h
  split at h <;> first | (cases h; rfl) | cases h

noncomputable def O56_14 (r : Int × Int × Int × Int × (List Bool)) : Tr (Ex × Pk) := .ret (.ret, ⟨[.v (.int .i64 (r.1)), .v (.int .i64 (r.2.1))], [some (.var (.agg [.sl 1 (none), .v (.int .i64 (r.2.2.1)), .v (.int .i64 (r.2.2.2.1))])), some (.row (Ty.bool) 4 (r.2.2.2.2))]⟩)

noncomputable def D56_14 : Ex × Pk → Option (Int × Int × Int × Int × (List Bool))
  | (.ret, ⟨[.v (.int .i64 x0), .v (.int .i64 x1)], [some (.var (.agg [.sl 1 (none), .v (.int .i64 x2), .v (.int .i64 x3)])), some (.row (Ty.bool) 4 x4)]⟩) => some ((x0, x1, x2, x3, x4))
  | _ => none

theorem D56_14_ok : ∀ y r, D56_14 y = some r → ∀ z, (O56_14 r).to z → y = z := by
  intro y r h
  unfold D56_14 at h
  split at h <;> first | (cases h; intro z hz; exact Option.some.inj hz) | cases h

noncomputable def B56_14 (N : Nat) (f : ((List (Int × (Int × Unit))) × Int × Int × (List Bool) × (List Bool)) → Option (Int × Int × Int × Int × (List Bool))) : ((List (Int × (Int × Unit))) × Int × Int × (List Bool) × (List Bool)) → Option (Int × Int × Int × Int × (List Bool))
  | (x0, x1, x2, x3, x4) =>
  Option.bind (F69 N (x0, x3)) fun y0 =>
  if (decide (y0 ≥ (0 : Int))) = true then
    some ((y0, (0 : Int), x1, x2, x4))
  else
    if (y0 == (-2 : Int)) = true then
      some (((0 : Int), (3 : Int), x1, x2, x4))
    else
      Option.bind (F57 N ((1 : Int), x1, x2, x4)) fun y1 =>
      if (Prod.fst (Prod.snd (Prod.snd y1)) != (0 : Int)) = true then
        some (((0 : Int), Prod.fst (Prod.snd (Prod.snd y1)), Prod.fst (Prod.snd y1), Prod.fst (Prod.snd (Prod.snd y1)), Prod.snd (Prod.snd (Prod.snd y1))))
      else
        if (decide ((List.length x3 + List.length [Prod.fst y1 == (1 : Int)]) * (1 : Nat) ≤ (140737488355328 : Nat) ∧ List.length x3 + List.length [Prod.fst y1 == (1 : Int)] ≤ (140737488355328 : Nat))) = true then
          Option.bind (f (x0, Prod.fst (Prod.snd y1), Prod.fst (Prod.snd (Prod.snd y1)), x3 ++ [Prod.fst y1 == (1 : Int)], Prod.snd (Prod.snd (Prod.snd y1)))) fun r => some r
        else
          none

noncomputable def F56_14 (N : Nat) : Nat → ((List (Int × (Int × Unit))) × Int × Int × (List Bool) × (List Bool)) → Option (Int × Int × Int × Int × (List Bool))
  | 0, _ => none
  | k + 1, x => B56_14 N (F56_14 N k) x

noncomputable def C56_14 (N k : Nat) : Cut := ⟨[0, 6, 1], X56_14, tellX I56_14 (F56_14 N k) O56_14⟩

theorem B56_14_eq (N : Nat) (f : ((List (Int × (Int × Unit))) × Int × Int × (List Bool) × (List Bool)) → Option (Int × Int × Int × Int × (List Bool))) (x0 : (List (Int × (Int × Unit)))) (x1 : Int) (x2 : Int) (x3 : (List Bool)) (x4 : (List Bool)) : (roundEv (mkE Try.prog ownT (tab56 N) []) Try.f56.ntmps A56 (loopAt (bod Try.f56) 14) 14 ⟨[0, 6, 1], X56_14, tellX I56_14 f O56_14⟩ (J56_14 (x0, x1, x2, x3, x4))).run D56_14 = B56_14 N f (x0, x1, x2, x3, x4) := by kernel_rfl

theorem C56_14_ok (N k : Nat) : ∀ c', At (bod Try.f56) 14 c' → CutOK Try.prog Try.f56.ntmps (idsL A56) c' (C56_14 N k) :=
  loop_ok (E := (mkE Try.prog ownT (tab56 N) [])) (mkE_ok mix (tab56_ok N)) (cutsIn_ok trivial) (fuel := 200) (by decide +kernel) (by kernel_rfl) I56_14_ok D56_14_ok (B56_14 N) (F56_14 N) (fun _ => rfl) (fun _ _ => rfl) (fun f x => match x with | (x0, x1, x2, x3, x4) => B56_14_eq N f x0 x1 x2 x3 x4) k

noncomputable def O56 (r : Int × Int × Int × Int × (List Bool)) : Tr (Pk) := .ret ⟨[.tup [.v (.int .i64 (r.1)), .v (.int .i64 (r.2.1))]], [some (.var (.agg [.sl 1 (none), .v (.int .i64 (r.2.2.1)), .v (.int .i64 (r.2.2.2.1))])), some (.row (Ty.bool) 4 (r.2.2.2.2))]⟩

noncomputable def D56 : Pk → Option (Int × Int × Int × Int × (List Bool))
  | ⟨[.tup [.v (.int .i64 x0), .v (.int .i64 x1)]], [some (.var (.agg [.sl 1 (none), .v (.int .i64 x2), .v (.int .i64 x3)])), some (.row (Ty.bool) 4 x4)]⟩ => some ((x0, x1, x2, x3, x4))
  | _ => none

theorem D56_ok : ∀ y r, D56 y = some r → ∀ z, (O56 r).to z → y = z := by
  intro y r h
  unfold D56 at h
  split at h <;> first | (cases h; intro z hz; exact Option.some.inj hz) | cases h

noncomputable def F56 (N : Nat) : ((List (Int × (Int × Unit))) × Int × Int × (List Bool)) → Option (Int × Int × Int × Int × (List Bool))
  | (x0, x1, x2, x3) =>
  Option.bind (F56_14 N N (x0, x1, x2, [], x3)) fun y0 =>
  some ((Prod.fst y0, Prod.fst (Prod.snd y0), Prod.fst (Prod.snd (Prod.snd y0)), Prod.fst (Prod.snd (Prod.snd (Prod.snd y0))), Prod.snd (Prod.snd (Prod.snd (Prod.snd y0)))))

theorem F56_eq (N : Nat) (x0 : (List (Int × (Int × Unit)))) (x1 : Int) (x2 : Int) (x3 : (List Bool)) : (fnEv (mkE Try.prog ownT (tab56 N) [(14, (C56_14 N N))]) Try.f56 (J56 (x0, x1, x2, x3))).run D56 = F56 N (x0, x1, x2, x3) := by kernel_rfl

noncomputable def T56 (N : Nat) : Pk → Tr Pk := tell I56 (F56 N) O56

theorem T56_ok (N : Nat) : FOK Try.prog 56 (T56 N) :=
  tell_ok (E := (mkE Try.prog ownT (tab56 N) [(14, (C56_14 N N))])) (mkE_ok mix (tab56_ok N)) Try.func56 (show Try.f56.body = some (bod Try.f56) by kernel_rfl) (by decide +kernel) I56_ok D56_ok (args := A56) (fun _ => by kernel_rfl) (fun _ => by show 2 ≤ Try.f56.ntmps; exact of_decide_eq_true (by kernel_rfl)) (cutsIn_ok ⟨fun c' h => (C56_14_ok N N c' h), trivial⟩) (fun x => match x with | (x0, x1, x2, x3) => F56_eq N x0 x1 x2 x3)

/-! ## f33: mirador/miradorref07.Read -/

noncomputable def I33 : Pk → Option ((List Int) × (List Int) × Int × Int × Int × (List Bool))
  | ⟨[.adr 0 [], .ro (.int .i64) x0, .ro (.int .i64) x1, .v (.int .i64 x2)], [some (.var (.agg [.sl 1 none, .v (.int .i64 x3), .v (.int .i64 x4)])), some (.row .bool 4 x5)]⟩ => some (x0, x1, x2, x3, x4, x5)
  | _ => none

noncomputable def J33 (x : (List Int) × (List Int) × Int × Int × Int × (List Bool)) : Pk := ⟨[.adr 0 [], .ro (.int .i64) (x.1), .ro (.int .i64) (x.2.1), .v (.int .i64 (x.2.2.1))], [some (.var (.agg [.sl 1 none, .v (.int .i64 (x.2.2.2.1)), .v (.int .i64 (x.2.2.2.2.1))])), some (.row .bool 4 (x.2.2.2.2.2))]⟩

theorem I33_ok : ∀ pk x, I33 pk = some x → pk = J33 x := by
  intro pk x h
  unfold I33 at h
  split at h <;> first | (cases h; rfl) | cases h

noncomputable def A33 : List TV := [.adr 0 []]

noncomputable def tab33 (N : Nat) : List (Nat × (Pk → Tr Pk)) := [(48, T48 N), (49, T49 N), (13, T13 N), (14, T14 N), (56, T56 N), (16, T16 N), (57, T57 N)]

theorem tab33_ok (N : Nat) : TabOK Try.prog (tab33 N) := ⟨T48_ok N, ⟨T49_ok N, ⟨T13_ok N, ⟨T14_ok N, ⟨T56_ok N, ⟨T16_ok N, ⟨T57_ok N, trivial⟩⟩⟩⟩⟩⟩⟩

def X33_4094 : Ex → List Nat
  | .ret => [8, 9]
  | .exit 0 => [8, 9]
  | _ => []

noncomputable def I33_4094 : Pk → Option (Int × Int × Int × Int × (List (Int × (Int × (Int × Unit)))) × (List (Int × (Int × Unit))) × (List (Int × (Int × Unit))) × (List Int) × (List Int) × (List Int) × (List Int) × (List Bool))
  | ⟨[.sl 1 (none), .adr 0 [], .sl 2 (none), .sl 3 (none), .sl 4 (none), .sl 5 (none), .v (.int .i64 x0), .sl 6 (none), .sl 7 (none), .v (.int .i64 x1)], [some (.var (.agg [.sl 8 (none), .v (.int .i64 x2), .v (.int .i64 x3)])), some (.row (Ty.cons (Ty.int IntKind.i64) (Ty.cons (Ty.int IntKind.i64) (Ty.cons (Ty.int IntKind.i64) Ty.unit))) 63 x4), some (.row (Ty.cons (Ty.int IntKind.i64) (Ty.cons (Ty.int IntKind.i64) Ty.unit)) 78 x5), some (.row (Ty.cons (Ty.int IntKind.i64) (Ty.cons (Ty.int IntKind.i64) Ty.unit)) 78 x6), some (.row (Ty.int IntKind.i64) 3 x7), some (.row (Ty.int IntKind.i64) 3 x8), some (.row (Ty.int IntKind.i64) 3 x9), some (.row (Ty.int IntKind.i64) 3 x10), some (.row (Ty.bool) 4 x11)]⟩ => some (x0, x1, x2, x3, x4, x5, x6, x7, x8, x9, x10, x11)
  | _ => none

noncomputable def J33_4094 (x : Int × Int × Int × Int × (List (Int × (Int × (Int × Unit)))) × (List (Int × (Int × Unit))) × (List (Int × (Int × Unit))) × (List Int) × (List Int) × (List Int) × (List Int) × (List Bool)) : Pk := ⟨[.sl 1 (none), .adr 0 [], .sl 2 (none), .sl 3 (none), .sl 4 (none), .sl 5 (none), .v (.int .i64 (x.1)), .sl 6 (none), .sl 7 (none), .v (.int .i64 (x.2.1))], [some (.var (.agg [.sl 8 (none), .v (.int .i64 (x.2.2.1)), .v (.int .i64 (x.2.2.2.1))])), some (.row (Ty.cons (Ty.int IntKind.i64) (Ty.cons (Ty.int IntKind.i64) (Ty.cons (Ty.int IntKind.i64) Ty.unit))) 63 (x.2.2.2.2.1)), some (.row (Ty.cons (Ty.int IntKind.i64) (Ty.cons (Ty.int IntKind.i64) Ty.unit)) 78 (x.2.2.2.2.2.1)), some (.row (Ty.cons (Ty.int IntKind.i64) (Ty.cons (Ty.int IntKind.i64) Ty.unit)) 78 (x.2.2.2.2.2.2.1)), some (.row (Ty.int IntKind.i64) 3 (x.2.2.2.2.2.2.2.1)), some (.row (Ty.int IntKind.i64) 3 (x.2.2.2.2.2.2.2.2.1)), some (.row (Ty.int IntKind.i64) 3 (x.2.2.2.2.2.2.2.2.2.1)), some (.row (Ty.int IntKind.i64) 3 (x.2.2.2.2.2.2.2.2.2.2.1)), some (.row (Ty.bool) 4 (x.2.2.2.2.2.2.2.2.2.2.2))]⟩

theorem I33_4094_ok : ∀ pk x, I33_4094 pk = some x → pk = J33_4094 x := by
  intro pk x h
  unfold I33_4094 at h
  split at h <;> first | (cases h; rfl) | cases h

noncomputable def O33_4094 (r : Int × Int × Int × (List (Int × (Int × (Int × Unit)))) × (List Bool)) : Tr (Ex × Pk) := .ret (.ret, ⟨[.sl 1 (none), .v (.int .i64 (r.1))], [some (.var (.agg [.sl 2 (none), .v (.int .i64 (r.2.1)), .v (.int .i64 (r.2.2.1))])), some (.row (Ty.cons (Ty.int IntKind.i64) (Ty.cons (Ty.int IntKind.i64) (Ty.cons (Ty.int IntKind.i64) Ty.unit))) 63 (r.2.2.2.1)), some (.row (Ty.bool) 4 (r.2.2.2.2))]⟩)

noncomputable def D33_4094 : Ex × Pk → Option (Int × Int × Int × (List (Int × (Int × (Int × Unit)))) × (List Bool))
  | (.ret, ⟨[.sl 1 (none), .v (.int .i64 x0)], [some (.var (.agg [.sl 2 (none), .v (.int .i64 x1), .v (.int .i64 x2)])), some (.row (Ty.cons (Ty.int IntKind.i64) (Ty.cons (Ty.int IntKind.i64) (Ty.cons (Ty.int IntKind.i64) Ty.unit))) 63 x3), some (.row (Ty.bool) 4 x4)]⟩) => some ((x0, x1, x2, x3, x4))
  | _ => none

theorem D33_4094_ok : ∀ y r, D33_4094 y = some r → ∀ z, (O33_4094 r).to z → y = z := by
  intro y r h
  unfold D33_4094 at h
  split at h <;> first | (cases h; intro z hz; exact Option.some.inj hz) | cases h

noncomputable def B33_4094 (N : Nat) (f : (Int × Int × Int × Int × (List (Int × (Int × (Int × Unit)))) × (List (Int × (Int × Unit))) × (List (Int × (Int × Unit))) × (List Int) × (List Int) × (List Int) × (List Int) × (List Bool)) → Option (Int × Int × Int × (List (Int × (Int × (Int × Unit)))) × (List Bool))) : (Int × Int × Int × Int × (List (Int × (Int × (Int × Unit)))) × (List (Int × (Int × Unit))) × (List (Int × (Int × Unit))) × (List Int) × (List Int) × (List Int) × (List Int) × (List Bool)) → Option (Int × Int × Int × (List (Int × (Int × (Int × Unit)))) × (List Bool))
  | (x0, x1, x2, x3, x4, x5, x6, x7, x8, x9, x10, x11) =>
  Option.bind (F56 N (x5, x2, x3, x11)) fun y0 =>
  if (Prod.fst (Prod.snd y0) != (0 : Int)) = true then
    some ((Prod.fst (Prod.snd y0), Prod.fst (Prod.snd (Prod.snd y0)), Prod.fst (Prod.snd (Prod.snd (Prod.snd y0))), [], Prod.snd (Prod.snd (Prod.snd (Prod.snd y0)))))
  else
    if (Prod.fst y0 == (256 : Int)) = true then
      some (((0 : Int), Prod.fst (Prod.snd (Prod.snd y0)), Prod.fst (Prod.snd (Prod.snd (Prod.snd y0))), x4, Prod.snd (Prod.snd (Prod.snd (Prod.snd y0)))))
    else
      if (decide (Prod.fst y0 > (285 : Int))) = true then
        some (((3 : Int), Prod.fst (Prod.snd (Prod.snd y0)), Prod.fst (Prod.snd (Prod.snd (Prod.snd y0))), [], Prod.snd (Prod.snd (Prod.snd (Prod.snd y0)))))
      else
        if (decide (Prod.fst y0 > (256 : Int))) = true then
          Option.bind (F16 N (x10, x9, Prod.fst y0, (257 : Int))) fun y1 =>
          Option.bind (F57 N (Prod.snd y1, Prod.fst (Prod.snd (Prod.snd y0)), Prod.fst (Prod.snd (Prod.snd (Prod.snd y0))), Prod.snd (Prod.snd (Prod.snd (Prod.snd y0))))) fun y2 =>
          if (Prod.fst (Prod.snd (Prod.snd y2)) != (0 : Int)) = true then
            some ((Prod.fst (Prod.snd (Prod.snd y2)), Prod.fst (Prod.snd y2), Prod.fst (Prod.snd (Prod.snd y2)), [], Prod.snd (Prod.snd (Prod.snd y2))))
          else
            Option.bind (F56 N (x6, Prod.fst (Prod.snd y2), Prod.fst (Prod.snd (Prod.snd y2)), Prod.snd (Prod.snd (Prod.snd y2)))) fun y3 =>
            if (Prod.fst (Prod.snd y3) != (0 : Int)) = true then
              some ((Prod.fst (Prod.snd y3), Prod.fst (Prod.snd (Prod.snd y3)), Prod.fst (Prod.snd (Prod.snd (Prod.snd y3))), [], Prod.snd (Prod.snd (Prod.snd (Prod.snd y3)))))
            else
              if (decide (Prod.fst y3 > (29 : Int))) = true then
                some (((3 : Int), Prod.fst (Prod.snd (Prod.snd y3)), Prod.fst (Prod.snd (Prod.snd (Prod.snd y3))), [], Prod.snd (Prod.snd (Prod.snd (Prod.snd y3)))))
              else
                Option.bind (F16 N (x7, x8, Prod.fst y3, (0 : Int))) fun y4 =>
                Option.bind (F57 N (Prod.snd y4, Prod.fst (Prod.snd (Prod.snd y3)), Prod.fst (Prod.snd (Prod.snd (Prod.snd y3))), Prod.snd (Prod.snd (Prod.snd (Prod.snd y3))))) fun y5 =>
                if (Prod.fst (Prod.snd (Prod.snd y5)) != (0 : Int)) = true then
                  some ((Prod.fst (Prod.snd (Prod.snd y5)), Prod.fst (Prod.snd y5), Prod.fst (Prod.snd (Prod.snd y5)), [], Prod.snd (Prod.snd (Prod.snd y5))))
                else
                  if (decide (IntKind.wrap IntKind.i64 (x1 + if (1 : Int) > IntKind.wrap IntKind.i64 (Prod.fst y1 + Prod.fst y2) then (1 : Int) else IntKind.wrap IntKind.i64 (Prod.fst y1 + Prod.fst y2)) > x0)) = true then
                    some (((4 : Int), Prod.fst (Prod.snd y5), Prod.fst (Prod.snd (Prod.snd y5)), [], Prod.snd (Prod.snd (Prod.snd y5))))
                  else
                    if (decide ((List.length x4 + List.length [((0 : Int), IntKind.wrap IntKind.i64 (Prod.fst y1 + Prod.fst y2), IntKind.wrap IntKind.i64 (Prod.fst y4 + Prod.fst y5), ())]) * (24 : Nat) ≤ (140737488355328 : Nat) ∧ List.length x4 + List.length [((0 : Int), IntKind.wrap IntKind.i64 (Prod.fst y1 + Prod.fst y2), IntKind.wrap IntKind.i64 (Prod.fst y4 + Prod.fst y5), ())] ≤ (140737488355328 : Nat))) = true then
                      Option.bind (f (x0, IntKind.wrap IntKind.i64 (x1 + if (1 : Int) > IntKind.wrap IntKind.i64 (Prod.fst y1 + Prod.fst y2) then (1 : Int) else IntKind.wrap IntKind.i64 (Prod.fst y1 + Prod.fst y2)), Prod.fst (Prod.snd y5), Prod.fst (Prod.snd (Prod.snd y5)), x4 ++ [((0 : Int), IntKind.wrap IntKind.i64 (Prod.fst y1 + Prod.fst y2), IntKind.wrap IntKind.i64 (Prod.fst y4 + Prod.fst y5), ())], x5, x6, x7, x8, x9, x10, Prod.snd (Prod.snd (Prod.snd y5)))) fun r => some r
                    else
                      none
        else
          if (decide (IntKind.wrap IntKind.i64 (x1 + (1 : Int)) > x0)) = true then
            some (((4 : Int), Prod.fst (Prod.snd (Prod.snd y0)), Prod.fst (Prod.snd (Prod.snd (Prod.snd y0))), [], Prod.snd (Prod.snd (Prod.snd (Prod.snd y0)))))
          else
            if (decide ((List.length x4 + List.length [(Prod.fst y0, (0 : Int), (0 : Int), ())]) * (24 : Nat) ≤ (140737488355328 : Nat) ∧ List.length x4 + List.length [(Prod.fst y0, (0 : Int), (0 : Int), ())] ≤ (140737488355328 : Nat))) = true then
              Option.bind (f (x0, IntKind.wrap IntKind.i64 (x1 + (1 : Int)), Prod.fst (Prod.snd (Prod.snd y0)), Prod.fst (Prod.snd (Prod.snd (Prod.snd y0))), x4 ++ [(Prod.fst y0, (0 : Int), (0 : Int), ())], x5, x6, x7, x8, x9, x10, Prod.snd (Prod.snd (Prod.snd (Prod.snd y0))))) fun r => some r
            else
              none

noncomputable def F33_4094 (N : Nat) : Nat → (Int × Int × Int × Int × (List (Int × (Int × (Int × Unit)))) × (List (Int × (Int × Unit))) × (List (Int × (Int × Unit))) × (List Int) × (List Int) × (List Int) × (List Int) × (List Bool)) → Option (Int × Int × Int × (List (Int × (Int × (Int × Unit)))) × (List Bool))
  | 0, _ => none
  | k + 1, x => B33_4094 N (F33_4094 N k) x

noncomputable def C33_4094 (N k : Nat) : Cut := ⟨[20, 0, 14, 15, 18, 19, 3, 17, 16, 21], X33_4094, tellX I33_4094 (F33_4094 N k) O33_4094⟩

theorem B33_4094_eq (N : Nat) (f : (Int × Int × Int × Int × (List (Int × (Int × (Int × Unit)))) × (List (Int × (Int × Unit))) × (List (Int × (Int × Unit))) × (List Int) × (List Int) × (List Int) × (List Int) × (List Bool)) → Option (Int × Int × Int × (List (Int × (Int × (Int × Unit)))) × (List Bool))) (x0 : Int) (x1 : Int) (x2 : Int) (x3 : Int) (x4 : (List (Int × (Int × (Int × Unit))))) (x5 : (List (Int × (Int × Unit)))) (x6 : (List (Int × (Int × Unit)))) (x7 : (List Int)) (x8 : (List Int)) (x9 : (List Int)) (x10 : (List Int)) (x11 : (List Bool)) : (roundEv (mkE Try.prog ownT (tab33 N) []) Try.f33.ntmps A33 (loopAt (bod Try.f33) 4094) 4094 ⟨[20, 0, 14, 15, 18, 19, 3, 17, 16, 21], X33_4094, tellX I33_4094 f O33_4094⟩ (J33_4094 (x0, x1, x2, x3, x4, x5, x6, x7, x8, x9, x10, x11))).run D33_4094 = B33_4094 N f (x0, x1, x2, x3, x4, x5, x6, x7, x8, x9, x10, x11) := by kernel_rfl

theorem C33_4094_ok (N k : Nat) : ∀ c', At (bod Try.f33) 4094 c' → CutOK Try.prog Try.f33.ntmps (idsL A33) c' (C33_4094 N k) :=
  loop_ok (E := (mkE Try.prog ownT (tab33 N) [])) (mkE_ok mix (tab33_ok N)) (cutsIn_ok trivial) (fuel := 200) (by decide +kernel) (by kernel_rfl) I33_4094_ok D33_4094_ok (B33_4094 N) (F33_4094 N) (fun _ => rfl) (fun _ _ => rfl) (fun f x => match x with | (x0, x1, x2, x3, x4, x5, x6, x7, x8, x9, x10, x11) => B33_4094_eq N f x0 x1 x2 x3 x4 x5 x6 x7 x8 x9 x10 x11) k

noncomputable def O33 (r : Int × Int × Int × (List (Int × (Int × (Int × Unit)))) × (List Bool)) : Tr (Pk) := .ret ⟨[.tup [.sl 1 (none), .v (.int .i64 (r.1))]], [some (.var (.agg [.sl 2 (none), .v (.int .i64 (r.2.1)), .v (.int .i64 (r.2.2.1))])), some (.row (Ty.cons (Ty.int IntKind.i64) (Ty.cons (Ty.int IntKind.i64) (Ty.cons (Ty.int IntKind.i64) Ty.unit))) 63 (r.2.2.2.1)), some (.row (Ty.bool) 4 (r.2.2.2.2))]⟩

noncomputable def D33 : Pk → Option (Int × Int × Int × (List (Int × (Int × (Int × Unit)))) × (List Bool))
  | ⟨[.tup [.sl 1 (none), .v (.int .i64 x0)]], [some (.var (.agg [.sl 2 (none), .v (.int .i64 x1), .v (.int .i64 x2)])), some (.row (Ty.cons (Ty.int IntKind.i64) (Ty.cons (Ty.int IntKind.i64) (Ty.cons (Ty.int IntKind.i64) Ty.unit))) 63 x3), some (.row (Ty.bool) 4 x4)]⟩ => some ((x0, x1, x2, x3, x4))
  | _ => none

theorem D33_ok : ∀ y r, D33 y = some r → ∀ z, (O33 r).to z → y = z := by
  intro y r h
  unfold D33 at h
  split at h <;> first | (cases h; intro z hz; exact Option.some.inj hz) | cases h

noncomputable def F33 (N : Nat) : ((List Int) × (List Int) × Int × Int × Int × (List Bool)) → Option (Int × Int × Int × (List (Int × (Int × (Int × Unit)))) × (List Bool))
  | (x0, x1, x2, x3, x4, x5) =>
  Option.bind (F48 N x0) fun y0 =>
  Option.bind (F48 N x1) fun y1 =>
  if (Prod.snd y0 != (0 : Int)) = true then
    some (((50 : Int), x3, x4, [], x5))
  else
    if (Prod.snd y1 != (0 : Int)) = true then
      some (((50 : Int), x3, x4, [], x5))
    else
      Option.bind (F49 N x0) fun y2 =>
      Option.bind (F49 N x1) fun y3 =>
      Option.bind (F13 N ()) fun y4 =>
      Option.bind (F14 N ()) fun y5 =>
      Option.bind (F33_4094 N N (x2, (0 : Int), x3, x4, [], y2, y3, Prod.fst y5, Prod.snd y5, Prod.snd y4, Prod.fst y4, x5)) fun y6 =>
      some ((Prod.fst y6, Prod.fst (Prod.snd y6), Prod.fst (Prod.snd (Prod.snd y6)), Prod.fst (Prod.snd (Prod.snd (Prod.snd y6))), Prod.snd (Prod.snd (Prod.snd (Prod.snd y6)))))

theorem F33_eq (N : Nat) (x0 : (List Int)) (x1 : (List Int)) (x2 : Int) (x3 : Int) (x4 : Int) (x5 : (List Bool)) : (fnEv (mkE Try.prog ownT (tab33 N) [(4094, (C33_4094 N N))]) Try.f33 (J33 (x0, x1, x2, x3, x4, x5))).run D33 = F33 N (x0, x1, x2, x3, x4, x5) := by kernel_rfl

noncomputable def T33 (N : Nat) : Pk → Tr Pk := tell I33 (F33 N) O33

theorem T33_ok (N : Nat) : FOK Try.prog 33 (T33 N) :=
  tell_ok (E := (mkE Try.prog ownT (tab33 N) [(4094, (C33_4094 N N))])) (mkE_ok mix (tab33_ok N)) Try.func33 (show Try.f33.body = some (bod Try.f33) by kernel_rfl) (by decide +kernel) I33_ok D33_ok (args := A33) (fun _ => by kernel_rfl) (fun _ => by show 4 ≤ Try.f33.ntmps; exact of_decide_eq_true (by kernel_rfl)) (cutsIn_ok ⟨fun c' h => (C33_4094_ok N N c' h), trivial⟩) (fun x => match x with | (x0, x1, x2, x3, x4, x5) => F33_eq N x0 x1 x2 x3 x4 x5)


end Go.Proofs.Ytmcjfdognplgmaa.Am

set_option linter.unusedVariables false
set_option maxRecDepth 100000
namespace Go.Proofs.Ytmcjfdognplgmaa.Am
open Go.Am

/-! ## f34: mirador/miradorref07.Same -/

noncomputable def I34 : Pk → Option ((List (Int × (Int × (Int × Unit)))) × (List (Int × (Int × (Int × Unit)))))
  | ⟨[.ro (.cons (.int .i64) (.cons (.int .i64) (.cons (.int .i64) .unit))) x0, .ro (.cons (.int .i64) (.cons (.int .i64) (.cons (.int .i64) .unit))) x1], []⟩ => some (x0, x1)
  | _ => none

noncomputable def J34 (x : (List (Int × (Int × (Int × Unit)))) × (List (Int × (Int × (Int × Unit))))) : Pk := ⟨[.ro (.cons (.int .i64) (.cons (.int .i64) (.cons (.int .i64) .unit))) (x.1), .ro (.cons (.int .i64) (.cons (.int .i64) (.cons (.int .i64) .unit))) (x.2)], []⟩

theorem I34_ok : ∀ pk x, I34 pk = some x → pk = J34 x := by
  intro pk x h
  unfold I34 at h
  split at h <;> first | (cases h; rfl) | cases h

noncomputable def A34 : List TV := []

noncomputable def tab34 (N : Nat) : List (Nat × (Pk → Tr Pk)) := []

theorem tab34_ok (N : Nat) : TabOK Try.prog (tab34 N) := trivial

def X34_58 : Ex → List Nat
  | .ret => [4]
  | .exit 0 => []
  | _ => []

noncomputable def I34_58 : Pk → Option ((List (Int × (Int × (Int × Unit)))) × (List (Int × (Int × (Int × Unit)))) × Int)
  | ⟨[.ro (Ty.cons (Ty.int IntKind.i64) (Ty.cons (Ty.int IntKind.i64) (Ty.cons (Ty.int IntKind.i64) Ty.unit))) x0, .ro (Ty.cons (Ty.int IntKind.i64) (Ty.cons (Ty.int IntKind.i64) (Ty.cons (Ty.int IntKind.i64) Ty.unit))) x1, .v (.int .i64 x2)], []⟩ => some (x0, x1, x2)
  | _ => none

noncomputable def J34_58 (x : (List (Int × (Int × (Int × Unit)))) × (List (Int × (Int × (Int × Unit)))) × Int) : Pk := ⟨[.ro (Ty.cons (Ty.int IntKind.i64) (Ty.cons (Ty.int IntKind.i64) (Ty.cons (Ty.int IntKind.i64) Ty.unit))) (x.1), .ro (Ty.cons (Ty.int IntKind.i64) (Ty.cons (Ty.int IntKind.i64) (Ty.cons (Ty.int IntKind.i64) Ty.unit))) (x.2.1), .v (.int .i64 (x.2.2))], []⟩

theorem I34_58_ok : ∀ pk x, I34_58 pk = some x → pk = J34_58 x := by
  intro pk x h
  unfold I34_58 at h
  split at h <;> first | (cases h; rfl) | cases h

noncomputable def O34_58 (r : ((Bool) ⊕ (Unit))) : Tr (Ex × Pk) := .sum _ _ r (fun u => .ret (.ret, ⟨[.v (.bool (u))], []⟩)) (fun v => .ret (.exit 0, ⟨[], []⟩))

noncomputable def D34_58 : Ex × Pk → Option (((Bool) ⊕ (Unit)))
  | (.ret, ⟨[.v (.bool x0)], []⟩) => some (.inl (x0))
  | (.exit 0, ⟨[], []⟩) => some (.inr (()))
  | _ => none

theorem D34_58_ok : ∀ y r, D34_58 y = some r → ∀ z, (O34_58 r).to z → y = z := by
  intro y r h
  unfold D34_58 at h
  split at h <;> first | (cases h; intro z hz; exact Option.some.inj hz) | cases h

noncomputable def B34_58 (N : Nat) (f : ((List (Int × (Int × (Int × Unit)))) × (List (Int × (Int × (Int × Unit)))) × Int) → Option (((Bool) ⊕ (Unit)))) : ((List (Int × (Int × (Int × Unit)))) × (List (Int × (Int × (Int × Unit)))) × Int) → Option (((Bool) ⊕ (Unit)))
  | (x0, x1, x2) =>
  if (decide (x2 < (↑(List.length x0) : Int))) = true then
    if (within x2 (List.length x0)) = true then
      Option.bind (x0[Int.toNat x2]?) fun y0 =>
      if (within x2 (List.length x1)) = true then
        Option.bind (x1[Int.toNat x2]?) fun y1 =>
        if (!(Prod.fst y0 == Prod.fst y1 && (Prod.fst (Prod.snd y0) == Prod.fst (Prod.snd y1) && (Prod.fst (Prod.snd (Prod.snd y0)) == Prod.fst (Prod.snd (Prod.snd y1)) && true)))) = true then
          some (.inl (false))
        else
          Option.bind (f (x0, x1, IntKind.wrap IntKind.i64 (x2 + (1 : Int)))) fun r => match r with | .inl (y) => some (.inl (y)) | .inr (y) => some (.inr (y))
      else
        none
    else
      none
  else
    some (.inr (()))

noncomputable def F34_58 (N : Nat) : Nat → ((List (Int × (Int × (Int × Unit)))) × (List (Int × (Int × (Int × Unit)))) × Int) → Option (((Bool) ⊕ (Unit)))
  | 0, _ => none
  | k + 1, x => B34_58 N (F34_58 N k) x

noncomputable def C34_58 (N k : Nat) : Cut := ⟨[0, 1, 5], X34_58, tellX I34_58 (F34_58 N k) O34_58⟩

theorem B34_58_eq (N : Nat) (f : ((List (Int × (Int × (Int × Unit)))) × (List (Int × (Int × (Int × Unit)))) × Int) → Option (((Bool) ⊕ (Unit)))) (x0 : (List (Int × (Int × (Int × Unit))))) (x1 : (List (Int × (Int × (Int × Unit))))) (x2 : Int) : (roundEv (mkE Try.prog ownT (tab34 N) []) Try.f34.ntmps A34 (loopAt (bod Try.f34) 58) 58 ⟨[0, 1, 5], X34_58, tellX I34_58 f O34_58⟩ (J34_58 (x0, x1, x2))).run D34_58 = B34_58 N f (x0, x1, x2) := by kernel_rfl

theorem C34_58_ok (N k : Nat) : ∀ c', At (bod Try.f34) 58 c' → CutOK Try.prog Try.f34.ntmps (idsL A34) c' (C34_58 N k) :=
  loop_ok (E := (mkE Try.prog ownT (tab34 N) [])) (mkE_ok mix (tab34_ok N)) (cutsIn_ok trivial) (fuel := 200) (by decide +kernel) (by kernel_rfl) I34_58_ok D34_58_ok (B34_58 N) (F34_58 N) (fun _ => rfl) (fun _ _ => rfl) (fun f x => match x with | (x0, x1, x2) => B34_58_eq N f x0 x1 x2) k

noncomputable def O34 (r : Bool) : Tr (Pk) := .ret ⟨[.v (.bool (r))], []⟩

noncomputable def D34 : Pk → Option (Bool)
  | ⟨[.v (.bool x0)], []⟩ => some (x0)
  | _ => none

theorem D34_ok : ∀ y r, D34 y = some r → ∀ z, (O34 r).to z → y = z := by
  intro y r h
  unfold D34 at h
  split at h <;> first | (cases h; intro z hz; exact Option.some.inj hz) | cases h

noncomputable def F34 (N : Nat) : ((List (Int × (Int × (Int × Unit)))) × (List (Int × (Int × (Int × Unit))))) → Option (Bool)
  | (x0, x1) =>
  if ((↑(List.length x0) : Int) != (↑(List.length x1) : Int)) = true then
    some (false)
  else
    Option.bind (F34_58 N N (x0, x1, (0 : Int))) fun y0 =>
    match y0 with
    | .inl y1 =>
      some (y1)
    | .inr y1 =>
      some (true)

theorem F34_eq (N : Nat) (x0 : (List (Int × (Int × (Int × Unit))))) (x1 : (List (Int × (Int × (Int × Unit))))) : (fnEv (mkE Try.prog ownT (tab34 N) [(58, (C34_58 N N))]) Try.f34 (J34 (x0, x1))).run D34 = F34 N (x0, x1) := by kernel_rfl

noncomputable def T34 (N : Nat) : Pk → Tr Pk := tell I34 (F34 N) O34

theorem T34_ok (N : Nat) : FOK Try.prog 34 (T34 N) :=
  tell_ok (E := (mkE Try.prog ownT (tab34 N) [(58, (C34_58 N N))])) (mkE_ok mix (tab34_ok N)) Try.func34 (show Try.f34.body = some (bod Try.f34) by kernel_rfl) (by decide +kernel) I34_ok D34_ok (args := A34) (fun _ => by kernel_rfl) (fun _ => by show 2 ≤ Try.f34.ntmps; exact of_decide_eq_true (by kernel_rfl)) (cutsIn_ok ⟨fun c' h => (C34_58_ok N N c' h), trivial⟩) (fun x => match x with | (x0, x1) => F34_eq N x0 x1)

/-! ## f35: (*mirador/bitio.Reader).At -/

noncomputable def I35 : Pk → Option ((ByteArray × (Int × (Int × Unit))))
  | ⟨[.radr (.cons .str (.cons (.int .i64) (.cons (.int .i64) .unit))) [x0] [.i 0 3]], []⟩ => some x0
  | _ => none

noncomputable def J35 (x : (ByteArray × (Int × (Int × Unit)))) : Pk := ⟨[.radr (.cons .str (.cons (.int .i64) (.cons (.int .i64) .unit))) [(x)] [.i 0 3]], []⟩

theorem I35_ok : ∀ pk x, I35 pk = some x → pk = J35 x := by
  intro pk x h
  unfold I35 at h
  split at h <;> first | (cases h; rfl) | cases h

noncomputable def A35 : List TV := []

noncomputable def tab35 (N : Nat) : List (Nat × (Pk → Tr Pk)) := []

theorem tab35_ok (N : Nat) : TabOK Try.prog (tab35 N) := trivial

noncomputable def O35 (r : Int) : Tr (Pk) := .ret ⟨[.v (.int .i64 (r))], []⟩

noncomputable def D35 : Pk → Option (Int)
  | ⟨[.v (.int .i64 x0)], []⟩ => some (x0)
  | _ => none

theorem D35_ok : ∀ y r, D35 y = some r → ∀ z, (O35 r).to z → y = z := by
  intro y r h
  unfold D35 at h
  split at h <;> first | (cases h; intro z hz; exact Option.some.inj hz) | cases h

noncomputable def F35 (N : Nat) : ((ByteArray × (Int × (Int × Unit)))) → Option (Int)
  | x0 =>
  some (Prod.fst (Prod.snd x0))

theorem F35_eq (N : Nat) (x0 : (ByteArray × (Int × (Int × Unit)))) : (fnEv (mkE Try.prog ownT (tab35 N) []) Try.f35 (J35 x0)).run D35 = F35 N x0 := by kernel_rfl

noncomputable def T35 (N : Nat) : Pk → Tr Pk := tell I35 (F35 N) O35

theorem T35_ok (N : Nat) : FOK Try.prog 35 (T35 N) :=
  tell_ok (E := (mkE Try.prog ownT (tab35 N) [])) (mkE_ok mix (tab35_ok N)) Try.func35 (show Try.f35.body = some (bod Try.f35) by kernel_rfl) (by decide +kernel) I35_ok D35_ok (args := A35) (fun _ => by kernel_rfl) (fun _ => by show 1 ≤ Try.f35.ntmps; exact of_decide_eq_true (by kernel_rfl)) (cutsIn_ok trivial) (fun x => match x with | x0 => F35_eq N x0)

/-! ## f7: mirador/miradorlaw07.SymbolsReads -/

noncomputable def I7 : Pk → Option (ByteArray × (List Int) × (List Int) × Int)
  | ⟨[.v (.string x0), .ro (.int .i64) x1, .ro (.int .i64) x2, .v (.int .i64 x3)], []⟩ => some (x0, x1, x2, x3)
  | _ => none

noncomputable def J7 (x : ByteArray × (List Int) × (List Int) × Int) : Pk := ⟨[.v (.string (x.1)), .ro (.int .i64) (x.2.1), .ro (.int .i64) (x.2.2.1), .v (.int .i64 (x.2.2.2))], []⟩

theorem I7_ok : ∀ pk x, I7 pk = some x → pk = J7 x := by
  intro pk x h
  unfold I7 at h
  split at h <;> first | (cases h; rfl) | cases h

noncomputable def A7 : List TV := []

noncomputable def tab7 (N : Nat) : List (Nat × (Pk → Tr Pk)) := [(8, T8 N), (30, T30 N), (31, T31 N), (32, T32 N), (33, T33 N), (34, T34 N), (35, T35 N)]

theorem tab7_ok (N : Nat) : TabOK Try.prog (tab7 N) := ⟨T8_ok N, ⟨T30_ok N, ⟨T31_ok N, ⟨T32_ok N, ⟨T33_ok N, ⟨T34_ok N, ⟨T35_ok N, trivial⟩⟩⟩⟩⟩⟩⟩

noncomputable def O7 (r : Bool) : Tr (Pk) := .ret ⟨[.v (.bool (r))], []⟩

noncomputable def D7 : Pk → Option (Bool)
  | ⟨[.v (.bool x0)], []⟩ => some (x0)
  | _ => none

theorem D7_ok : ∀ y r, D7 y = some r → ∀ z, (O7 r).to z → y = z := by
  intro y r h
  unfold D7 at h
  split at h <;> first | (cases h; intro z hz; exact Option.some.inj hz) | cases h

noncomputable def F7 (N : Nat) : (ByteArray × (List Int) × (List Int) × Int) → Option (Bool)
  | (x0, x1, x2, x3) =>
  Option.bind (F8 N ()) fun y0 =>
  if (!y0) = true then
    some (false)
  else
    if (decide ((↑(List.length x1) : Int) > (330 : Int))) = true then
      some (y0)
    else
      if (decide ((↑(List.length x2) : Int) > (330 : Int))) = true then
        some (y0)
      else
        if (decide ((↑(ByteArray.size x0) : Int) > (60 : Int))) = true then
          some (y0)
        else
          Option.bind (F30 N x0) fun y1 =>
          Option.bind (F31 N (x1, x2, x3, Prod.fst y1, Prod.fst (Prod.snd y1), Prod.snd (Prod.snd y1))) fun y2 =>
          Option.bind (F32 N x0) fun y3 =>
          Option.bind (F33 N (x1, x2, x3, (0 : Int), (0 : Int), y3)) fun y4 =>
          Option.bind (F34 N (Prod.snd (Prod.snd (Prod.snd (Prod.snd y2))), Prod.fst (Prod.snd (Prod.snd (Prod.snd y4))))) fun y5 =>
          if (y0) = true then
            if (y5) = true then
              if (Prod.fst y2 == Prod.fst y4) = true then
                if (Prod.fst y4 != (0 : Int)) = true then
                  some (true)
                else
                  Option.bind (F35 N (Prod.fst (Prod.snd y2), Prod.fst (Prod.snd (Prod.snd y2)), Prod.fst (Prod.snd (Prod.snd (Prod.snd y2))), ())) fun y6 =>
                  some (y6 == Prod.fst (Prod.snd y4))
              else
                some (false)
            else
              some (false)
          else
            some (false)

theorem F7_eq (N : Nat) (x0 : ByteArray) (x1 : (List Int)) (x2 : (List Int)) (x3 : Int) : (fnEv (mkE Try.prog ownT (tab7 N) []) Try.f7 (J7 (x0, x1, x2, x3))).run D7 = F7 N (x0, x1, x2, x3) := by kernel_rfl

noncomputable def T7 (N : Nat) : Pk → Tr Pk := tell I7 (F7 N) O7

theorem T7_ok (N : Nat) : FOK Try.prog 7 (T7 N) :=
  tell_ok (E := (mkE Try.prog ownT (tab7 N) [])) (mkE_ok mix (tab7_ok N)) Try.func7 (show Try.f7.body = some (bod Try.f7) by kernel_rfl) (by decide +kernel) I7_ok D7_ok (args := A7) (fun _ => by kernel_rfl) (fun _ => by show 4 ≤ Try.f7.ntmps; exact of_decide_eq_true (by kernel_rfl)) (cutsIn_ok trivial) (fun x => match x with | (x0, x1, x2, x3) => F7_eq N x0 x1 x2 x3)


end Go.Proofs.Ytmcjfdognplgmaa.Am
