/- The seat's Go functions come to the Lean functions written here, wherever these give an answer (fifth part). -/
import Derived.Test.YtpjkklailofkjaaSD
set_option linter.unusedVariables false
set_option maxRecDepth 100000
namespace Go.Proofs.Ytpjkklailofkjaa.Am
open Go.Am

/-! ## f48: mirador/symbols.Length -/

noncomputable def I48 : Pk → Option (Int)
  | ⟨[.v (.int .i64 x0)], []⟩ => some x0
  | _ => none

noncomputable def J48 (x : Int) : Pk := ⟨[.v (.int .i64 (x))], []⟩

theorem I48_ok : ∀ pk x, I48 pk = some x → pk = J48 x := by
  intro pk x h
  unfold I48 at h
  split at h <;> first | (cases h; rfl) | cases h

noncomputable def A48 : List TV := []

noncomputable def tab48 (N : Nat) : List (Nat × (Pk → Tr Pk)) := [(65, T65 N)]

theorem tab48_ok (N : Nat) : TabOK Try.prog (tab48 N) := ⟨T65_ok N, trivial⟩

noncomputable def O48 (r : Int × Int × Int) : Tr (Pk) := .ret ⟨[.tup [.v (.int .i64 (r.1)), .v (.int .i64 (r.2.1)), .v (.int .i64 (r.2.2))]], []⟩

noncomputable def D48 : Pk → Option (Int × Int × Int)
  | ⟨[.tup [.v (.int .i64 x0), .v (.int .i64 x1), .v (.int .i64 x2)]], []⟩ => some ((x0, x1, x2))
  | _ => none

theorem D48_ok : ∀ y r, D48 y = some r → ∀ z, (O48 r).to z → y = z := by
  intro y r h
  unfold D48 at h
  split at h <;> first | (cases h; intro z hz; exact Option.some.inj hz) | cases h

noncomputable def F48 (N : Nat) : (Int) → Option (Int × Int × Int)
  | x0 =>
  iteP (decide (x0 > (258 : Int))) (
    some (((0 : Int), (0 : Int), (0 : Int)))) (
    Option.bind (F65a N (x0, (257 : Int), (285 : Int))) fun y0 =>
    some ((Prod.fst y0, Prod.fst (Prod.snd y0), Prod.snd (Prod.snd y0))))

theorem F48_eq (N : Nat) (x0 : Int) : (fnEv (mkE Try.prog ownT (tab48 N) []) Try.f48 (J48 x0)).run D48 = F48 N x0 := by kernel_rfl

noncomputable def T48 (N : Nat) : Pk → Tr Pk := tell I48 (F48 N) O48

theorem T48_ok (N : Nat) : FOK Try.prog 48 (T48 N) :=
  (tell_ok (E := (mkE Try.prog ownT (tab48 N) [])) (mkE_ok mix (tab48_ok N)) Try.func48 (show Try.f48.body = some (bod Try.f48) by kernel_rfl) (by decide +kernel) (F := F48 N) I48_ok D48_ok (args := A48) (fun _ => by kernel_rfl) (fun _ => by show 1 ≤ Try.f48.ntmps; exact of_decide_eq_true (by kernel_rfl)) (cutsIn_ok trivial) (fun x => match x with | x0 => F48_eq N x0))

/-! ## f49: mirador/symbols.Distance -/

noncomputable def I49 : Pk → Option (Int)
  | ⟨[.v (.int .i64 x0)], []⟩ => some x0
  | _ => none

noncomputable def J49 (x : Int) : Pk := ⟨[.v (.int .i64 (x))], []⟩

theorem I49_ok : ∀ pk x, I49 pk = some x → pk = J49 x := by
  intro pk x h
  unfold I49 at h
  split at h <;> first | (cases h; rfl) | cases h

noncomputable def A49 : List TV := []

noncomputable def tab49 (N : Nat) : List (Nat × (Pk → Tr Pk)) := [(65, T65 N)]

theorem tab49_ok (N : Nat) : TabOK Try.prog (tab49 N) := ⟨T65_ok N, trivial⟩

noncomputable def O49 (r : Int × Int × Int) : Tr (Pk) := .ret ⟨[.tup [.v (.int .i64 (r.1)), .v (.int .i64 (r.2.1)), .v (.int .i64 (r.2.2))]], []⟩

noncomputable def D49 : Pk → Option (Int × Int × Int)
  | ⟨[.tup [.v (.int .i64 x0), .v (.int .i64 x1), .v (.int .i64 x2)]], []⟩ => some ((x0, x1, x2))
  | _ => none

theorem D49_ok : ∀ y r, D49 y = some r → ∀ z, (O49 r).to z → y = z := by
  intro y r h
  unfold D49 at h
  split at h <;> first | (cases h; intro z hz; exact Option.some.inj hz) | cases h

noncomputable def F49 (N : Nat) : (Int) → Option (Int × Int × Int)
  | x0 =>
  iteP (decide (x0 > (32768 : Int))) (
    some (((0 : Int), (0 : Int), (0 : Int)))) (
    Option.bind (F65b N (x0, (0 : Int), (29 : Int))) fun y0 =>
    some ((Prod.fst y0, Prod.fst (Prod.snd y0), Prod.snd (Prod.snd y0))))

theorem F49_eq (N : Nat) (x0 : Int) : (fnEv (mkE Try.prog ownT (tab49 N) []) Try.f49 (J49 x0)).run D49 = F49 N x0 := by kernel_rfl

noncomputable def T49 (N : Nat) : Pk → Tr Pk := tell I49 (F49 N) O49

theorem T49_ok (N : Nat) : FOK Try.prog 49 (T49 N) :=
  (tell_ok (E := (mkE Try.prog ownT (tab49 N) [])) (mkE_ok mix (tab49_ok N)) Try.func49 (show Try.f49.body = some (bod Try.f49) by kernel_rfl) (by decide +kernel) (F := F49 N) I49_ok D49_ok (args := A49) (fun _ => by kernel_rfl) (fun _ => by show 1 ≤ Try.f49.ntmps; exact of_decide_eq_true (by kernel_rfl)) (cutsIn_ok trivial) (fun x => match x with | x0 => F49_eq N x0))

/-! ## f51: mirador/symbols.row -/

noncomputable def I51 : Pk → Option (Int × Int × (List Int))
  | ⟨[.sl 0 none, .v (.int .i64 x0), .v (.int .i64 x1)], [some (.row (.int .i64) 3 x2)]⟩ => some (x0, x1, x2)
  | _ => none

noncomputable def J51 (x : Int × Int × (List Int)) : Pk := ⟨[.sl 0 none, .v (.int .i64 (x.1)), .v (.int .i64 (x.2.1))], [some (.row (.int .i64) 3 (x.2.2))]⟩

theorem I51_ok : ∀ pk x, I51 pk = some x → pk = J51 x := by
  intro pk x h
  unfold I51 at h
  split at h <;> first | (cases h; rfl) | cases h

noncomputable def A51 : List TV := []

noncomputable def tab51 (N : Nat) : List (Nat × (Pk → Tr Pk)) := []

theorem tab51_ok (N : Nat) : TabOK Try.prog (tab51 N) := trivial

def X51_12 : Ex → List Nat
  | .ret => [6]
  | .exit 0 => [0]
  | _ => []

noncomputable def I51_12 : Pk → Option (Int × Int × (List Int))
  | ⟨[.sl 0 (none), .v (.int .i64 x0), .v (.int .i64 x1)], [some (.row (Ty.int IntKind.i64) 3 x2)]⟩ => some (x0, x1, x2)
  | _ => none

noncomputable def J51_12 (x : Int × Int × (List Int)) : Pk := ⟨[.sl 0 (none), .v (.int .i64 (x.1)), .v (.int .i64 (x.2.1))], [some (.row (Ty.int IntKind.i64) 3 (x.2.2))]⟩

theorem I51_12_ok : ∀ pk x, I51_12 pk = some x → pk = J51_12 x := by
  intro pk x h
  unfold I51_12 at h
  split at h <;> first | (cases h; rfl) | cases h

noncomputable def O51_12 (r : (List Int)) : Tr (Ex × Pk) := .ret (.exit 0, ⟨[.sl 0 (none)], [some (.row (Ty.int IntKind.i64) 3 (r))]⟩)

noncomputable def D51_12 : Ex × Pk → Option ((List Int))
  | (.exit 0, ⟨[.sl 0 (none)], [some (.row (Ty.int IntKind.i64) 3 x0)]⟩) => some (x0)
  | _ => none

theorem D51_12_ok : ∀ y r, D51_12 y = some r → ∀ z, (O51_12 r).to z → y = z := by
  intro y r h
  unfold D51_12 at h
  split at h <;> first | (cases h; intro z hz; exact Option.some.inj hz) | cases h

noncomputable def B51_12 (N : Nat) (f : (Int × Int × (List Int)) → Option ((List Int))) : (Int × Int × (List Int)) → Option ((List Int))
  | (x0, x1, x2) =>
  iteP (decide ((↑(List.length x2) : Int) < x0)) (
    iteP (decide ((List.length x2 + List.length [x1]) * (8 : Nat) ≤ (140737488355328 : Nat) ∧ List.length x2 + List.length [x1] ≤ (140737488355328 : Nat))) (
      Option.bind (f (x0, x1, x2 ++ [x1])) fun r => some r) (
      none)) (
    some (x2))

noncomputable def F51_12 (N : Nat) : Nat → (Int × Int × (List Int)) → Option ((List Int))
  | 0, _ => none
  | k + 1, x => B51_12 N (F51_12 N k) x

noncomputable def C51_12 (N : Nat) (k : Nat) : Cut := ⟨[0, 1, 2], X51_12, tellX I51_12 (F51_12 N k) O51_12⟩

theorem B51_12_eq (N : Nat) (f : (Int × Int × (List Int)) → Option ((List Int))) (x0 : Int) (x1 : Int) (x2 : (List Int)) : (roundEv (mkE Try.prog ownT (tab51 N) []) Try.f51.ntmps A51 (loopAt (bod Try.f51) 12) 12 ⟨[0, 1, 2], X51_12, tellX I51_12 f O51_12⟩ (J51_12 (x0, x1, x2))).run D51_12 = B51_12 N f (x0, x1, x2) := by kernel_rfl

theorem C51_12_ok (N : Nat) (k : Nat) : ∀ c', At (bod Try.f51) 12 c' → CutOK Try.prog Try.f51.ntmps (idsL A51) c' (C51_12 N k) :=
  loop_ok (E := (mkE Try.prog ownT (tab51 N) [])) (mkE_ok mix (tab51_ok N)) (cutsIn_ok trivial) (fuel := 200) (by decide +kernel) (by kernel_rfl) I51_12_ok D51_12_ok (B51_12 N) (F51_12 N) (fun _ => rfl) (fun _ _ => rfl) (fun f x => match x with | (x0, x1, x2) => B51_12_eq N f x0 x1 x2) k

noncomputable def O51 (r : (List Int)) : Tr (Pk) := .ret ⟨[.sl 0 (none)], [some (.row (Ty.int IntKind.i64) 3 (r))]⟩

noncomputable def D51 : Pk → Option ((List Int))
  | ⟨[.sl 0 (none)], [some (.row (Ty.int IntKind.i64) 3 x0)]⟩ => some (x0)
  | _ => none

theorem D51_ok : ∀ y r, D51 y = some r → ∀ z, (O51 r).to z → y = z := by
  intro y r h
  unfold D51 at h
  split at h <;> first | (cases h; intro z hz; exact Option.some.inj hz) | cases h

noncomputable def F51 (N : Nat) : (Int × Int × (List Int)) → Option ((List Int))
  | (x0, x1, x2) =>
  Option.bind (F51_12 N N (x0, x1, x2)) fun y0 =>
  some (y0)

theorem F51_eq (N : Nat) (x0 : Int) (x1 : Int) (x2 : (List Int)) : (fnEv (mkE Try.prog ownT (tab51 N) [(12, (C51_12 N N))]) Try.f51 (J51 (x0, x1, x2))).run D51 = F51 N (x0, x1, x2) := by kernel_rfl

noncomputable def T51 (N : Nat) : Pk → Tr Pk := tell I51 (F51 N) O51

theorem T51_ok (N : Nat) : FOK Try.prog 51 (T51 N) :=
  (tell_ok (E := (mkE Try.prog ownT (tab51 N) [(12, (C51_12 N N))])) (mkE_ok mix (tab51_ok N)) Try.func51 (show Try.f51.body = some (bod Try.f51) by kernel_rfl) (by decide +kernel) (F := F51 N) I51_ok D51_ok (args := A51) (fun _ => by kernel_rfl) (fun _ => by show 3 ≤ Try.f51.ntmps; exact of_decide_eq_true (by kernel_rfl)) (cutsIn_ok ⟨fun c' h => (C51_12_ok N N c' h), trivial⟩) (fun x => match x with | (x0, x1, x2) => F51_eq N x0 x1 x2))

/-! ## f31: mirador/symbols.Fixed -/

noncomputable def I31 : Pk → Option (Unit)
  | ⟨[], []⟩ => some ()
  | _ => none

noncomputable def J31 (x : Unit) : Pk := ⟨[], []⟩

theorem I31_ok : ∀ pk x, I31 pk = some x → pk = J31 x := by
  intro pk x h
  unfold I31 at h
  split at h <;> first | (cases h; rfl) | cases h

noncomputable def A31 : List TV := []

noncomputable def tab31 (N : Nat) : List (Nat × (Pk → Tr Pk)) := [(51, T51 N)]

theorem tab31_ok (N : Nat) : TabOK Try.prog (tab31 N) := ⟨T51_ok N, trivial⟩

noncomputable def O31 (r : (List Int) × (List Int)) : Tr (Pk) := .ret ⟨[.tup [.sl 0 (none), .sl 1 (none)]], [some (.row (Ty.int IntKind.i64) 3 (r.1)), some (.row (Ty.int IntKind.i64) 3 (r.2))]⟩

noncomputable def D31 : Pk → Option ((List Int) × (List Int))
  | ⟨[.tup [.sl 0 (none), .sl 1 (none)]], [some (.row (Ty.int IntKind.i64) 3 x0), some (.row (Ty.int IntKind.i64) 3 x1)]⟩ => some ((x0, x1))
  | _ => none

theorem D31_ok : ∀ y r, D31 y = some r → ∀ z, (O31 r).to z → y = z := by
  intro y r h
  unfold D31 at h
  split at h <;> first | (cases h; intro z hz; exact Option.some.inj hz) | cases h

noncomputable def F31 (N : Nat) : (Unit) → Option ((List Int) × (List Int))
  | () =>
  Option.bind (F51 N ((144 : Int), (8 : Int), [])) fun y0 =>
  Option.bind (F51 N ((256 : Int), (9 : Int), y0)) fun y1 =>
  Option.bind (F51 N ((280 : Int), (7 : Int), y1)) fun y2 =>
  Option.bind (F51 N ((288 : Int), (8 : Int), y2)) fun y3 =>
  Option.bind (F51 N ((30 : Int), (5 : Int), [])) fun y4 =>
  some ((y3, y4))

theorem F31_eq (N : Nat)  : (fnEv (mkE Try.prog ownT (tab31 N) []) Try.f31 (J31 ())).run D31 = F31 N () := by kernel_rfl

noncomputable def T31 (N : Nat) : Pk → Tr Pk := tell I31 (F31 N) O31

theorem T31_ok (N : Nat) : FOK Try.prog 31 (T31 N) :=
  (tell_ok (E := (mkE Try.prog ownT (tab31 N) [])) (mkE_ok mix (tab31_ok N)) Try.func31 (show Try.f31.body = some (bod Try.f31) by kernel_rfl) (by decide +kernel) (F := F31 N) I31_ok D31_ok (args := A31) (fun _ => by kernel_rfl) (fun _ => by show 0 ≤ Try.f31.ntmps; exact of_decide_eq_true (by kernel_rfl)) (cutsIn_ok trivial) (fun x => match x with | () => F31_eq N ))

/-! ## f50: mirador/lz.within -/

noncomputable def I50 : Pk → Option (Int × Int × Int)
  | ⟨[.v (.int .i64 x0), .v (.int .i64 x1), .v (.int .i64 x2)], []⟩ => some (x0, x1, x2)
  | _ => none

noncomputable def J50 (x : Int × Int × Int) : Pk := ⟨[.v (.int .i64 (x.1)), .v (.int .i64 (x.2.1)), .v (.int .i64 (x.2.2))], []⟩

theorem I50_ok : ∀ pk x, I50 pk = some x → pk = J50 x := by
  intro pk x h
  unfold I50 at h
  split at h <;> first | (cases h; rfl) | cases h

noncomputable def A50 : List TV := []

noncomputable def tab50 (N : Nat) : List (Nat × (Pk → Tr Pk)) := []

theorem tab50_ok (N : Nat) : TabOK Try.prog (tab50 N) := trivial

noncomputable def O50 (r : Bool) : Tr (Pk) := .ret ⟨[.v (.bool (r))], []⟩

noncomputable def D50 : Pk → Option (Bool)
  | ⟨[.v (.bool x0)], []⟩ => some (x0)
  | _ => none

theorem D50_ok : ∀ y r, D50 y = some r → ∀ z, (O50 r).to z → y = z := by
  intro y r h
  unfold D50 at h
  split at h <;> first | (cases h; intro z hz; exact Option.some.inj hz) | cases h

noncomputable def F50 (N : Nat) : (Int × Int × Int) → Option (Bool)
  | (x0, x1, x2) =>
  iteP (decide (x1 ≤ x0)) (
    some (decide (x0 ≤ x2))) (
    some (false))

theorem F50_eq (N : Nat) (x0 : Int) (x1 : Int) (x2 : Int) : (fnEv (mkE Try.prog ownT (tab50 N) []) Try.f50 (J50 (x0, x1, x2))).run D50 = F50 N (x0, x1, x2) := by kernel_rfl

noncomputable def T50 (N : Nat) : Pk → Tr Pk := tell I50 (F50 N) O50

theorem T50_ok (N : Nat) : FOK Try.prog 50 (T50 N) :=
  (tell_ok (E := (mkE Try.prog ownT (tab50 N) [])) (mkE_ok mix (tab50_ok N)) Try.func50 (show Try.f50.body = some (bod Try.f50) by kernel_rfl) (by decide +kernel) (F := F50 N) I50_ok D50_ok (args := A50) (fun _ => by kernel_rfl) (fun _ => by show 3 ≤ Try.f50.ntmps; exact of_decide_eq_true (by kernel_rfl)) (cutsIn_ok trivial) (fun x => match x with | (x0, x1, x2) => F50_eq N x0 x1 x2))

/-! ## f30: mirador/lz.Valid -/

noncomputable def I30 : Pk → Option (Int × Int × Int)
  | ⟨[.agg [.v (.int .i64 x0), .v (.int .i64 x1), .v (.int .i64 x2)]], []⟩ => some (x0, x1, x2)
  | _ => none

noncomputable def J30 (x : Int × Int × Int) : Pk := ⟨[.agg [.v (.int .i64 (x.1)), .v (.int .i64 (x.2.1)), .v (.int .i64 (x.2.2))]], []⟩

theorem I30_ok : ∀ pk x, I30 pk = some x → pk = J30 x := by
  intro pk x h
  unfold I30 at h
  split at h <;> first | (cases h; rfl) | cases h

noncomputable def A30 : List TV := []

noncomputable def tab30 (N : Nat) : List (Nat × (Pk → Tr Pk)) := [(50, T50 N)]

theorem tab30_ok (N : Nat) : TabOK Try.prog (tab30 N) := ⟨T50_ok N, trivial⟩

noncomputable def O30 (r : Bool) : Tr (Pk) := .ret ⟨[.v (.bool (r))], []⟩

noncomputable def D30 : Pk → Option (Bool)
  | ⟨[.v (.bool x0)], []⟩ => some (x0)
  | _ => none

theorem D30_ok : ∀ y r, D30 y = some r → ∀ z, (O30 r).to z → y = z := by
  intro y r h
  unfold D30 at h
  split at h <;> first | (cases h; intro z hz; exact Option.some.inj hz) | cases h

noncomputable def F30 (N : Nat) : (Int × Int × Int) → Option (Bool)
  | (x0, x1, x2) =>
  iteP (x1 == (0 : Int)) (
    iteP (x2 == (0 : Int)) (
      Option.bind (F50 N (x0, (0 : Int), (255 : Int))) fun y0 =>
      some (y0)) (
      some (false))) (
    iteP (x0 == (0 : Int)) (
      Option.bind (F50 N (x1, (3 : Int), (258 : Int))) fun y1 =>
      iteP (y1) (
        Option.bind (F50 N (x2, (1 : Int), (32768 : Int))) fun y2 =>
        some (y2)) (
        some (false))) (
      some (false)))

theorem F30_eq (N : Nat) (x0 : Int) (x1 : Int) (x2 : Int) : (fnEv (mkE Try.prog ownT (tab30 N) []) Try.f30 (J30 (x0, x1, x2))).run D30 = F30 N (x0, x1, x2) := by kernel_rfl

noncomputable def T30 (N : Nat) : Pk → Tr Pk := tell I30 (F30 N) O30

theorem T30_ok (N : Nat) : FOK Try.prog 30 (T30 N) :=
  (tell_ok (E := (mkE Try.prog ownT (tab30 N) [])) (mkE_ok mix (tab30_ok N)) Try.func30 (show Try.f30.body = some (bod Try.f30) by kernel_rfl) (by decide +kernel) (F := F30 N) I30_ok D30_ok (args := A30) (fun _ => by kernel_rfl) (fun _ => by show 1 ≤ Try.f30.ntmps; exact of_decide_eq_true (by kernel_rfl)) (cutsIn_ok trivial) (fun x => match x with | (x0, x1, x2) => F30_eq N x0 x1 x2))

/-! ## f32: mirador/symbols.Count -/

noncomputable def I32 : Pk → Option ((List (Int × (Int × (Int × Unit)))))
  | ⟨[.ro (.cons (.int .i64) (.cons (.int .i64) (.cons (.int .i64) .unit))) x0], []⟩ => some x0
  | _ => none

noncomputable def J32 (x : (List (Int × (Int × (Int × Unit))))) : Pk := ⟨[.ro (.cons (.int .i64) (.cons (.int .i64) (.cons (.int .i64) .unit))) (x)], []⟩

theorem I32_ok : ∀ pk x, I32 pk = some x → pk = J32 x := by
  intro pk x h
  unfold I32 at h
  split at h <;> first | (cases h; rfl) | cases h

noncomputable def A32 : List TV := []

noncomputable def tab32 (N : Nat) : List (Nat × (Pk → Tr Pk)) := [(30, T30 N), (48, T48 N), (49, T49 N)]

theorem tab32_ok (N : Nat) : TabOK Try.prog (tab32 N) := ⟨T30_ok N, ⟨T48_ok N, ⟨T49_ok N, trivial⟩⟩⟩

def X32_122 : Ex → List Nat
  | .ret => [2, 3]
  | .exit 0 => [2, 3]
  | _ => []

noncomputable def I32_122 : Pk → Option (Int × Int × (List (Int × (Int × (Int × Unit)))) × (List Int) × (List Int))
  | ⟨[.v (.int .i64 x0), .v (.int .i64 x1), .ro (Ty.cons (Ty.int IntKind.i64) (Ty.cons (Ty.int IntKind.i64) (Ty.cons (Ty.int IntKind.i64) Ty.unit))) x2, .sl 0 (none), .sl 1 (none)], [some (.row (Ty.int IntKind.i64) 3 x3), some (.row (Ty.int IntKind.i64) 3 x4)]⟩ => some (x0, x1, x2, x3, x4)
  | _ => none

noncomputable def J32_122 (x : Int × Int × (List (Int × (Int × (Int × Unit)))) × (List Int) × (List Int)) : Pk := ⟨[.v (.int .i64 (x.1)), .v (.int .i64 (x.2.1)), .ro (Ty.cons (Ty.int IntKind.i64) (Ty.cons (Ty.int IntKind.i64) (Ty.cons (Ty.int IntKind.i64) Ty.unit))) (x.2.2.1), .sl 0 (none), .sl 1 (none)], [some (.row (Ty.int IntKind.i64) 3 (x.2.2.2.1)), some (.row (Ty.int IntKind.i64) 3 (x.2.2.2.2))]⟩

theorem I32_122_ok : ∀ pk x, I32_122 pk = some x → pk = J32_122 x := by
  intro pk x h
  unfold I32_122 at h
  split at h <;> first | (cases h; rfl) | cases h

noncomputable def O32_122 (r : (List Int) × (List Int)) : Tr (Ex × Pk) := .ret (.exit 0, ⟨[.sl 0 (none), .sl 1 (none)], [some (.row (Ty.int IntKind.i64) 3 (r.1)), some (.row (Ty.int IntKind.i64) 3 (r.2))]⟩)

noncomputable def D32_122 : Ex × Pk → Option ((List Int) × (List Int))
  | (.exit 0, ⟨[.sl 0 (none), .sl 1 (none)], [some (.row (Ty.int IntKind.i64) 3 x0), some (.row (Ty.int IntKind.i64) 3 x1)]⟩) => some ((x0, x1))
  | _ => none

theorem D32_122_ok : ∀ y r, D32_122 y = some r → ∀ z, (O32_122 r).to z → y = z := by
  intro y r h
  unfold D32_122 at h
  split at h <;> first | (cases h; intro z hz; exact Option.some.inj hz) | cases h

noncomputable def B32_122 (N : Nat) (f : (Int × Int × (List (Int × (Int × (Int × Unit)))) × (List Int) × (List Int)) → Option ((List Int) × (List Int))) : (Int × Int × (List (Int × (Int × (Int × Unit)))) × (List Int) × (List Int)) → Option ((List Int) × (List Int))
  | (x0, x1, x2, x3, x4) =>
  iteP (decide (x0 < x1)) (
    iteP (within x0 (List.length x2)) (
      Option.bind (x2[Int.toNat x0]?) fun y0 =>
      Option.bind (F30 N (Prod.fst y0, Prod.fst (Prod.snd y0), Prod.fst (Prod.snd (Prod.snd y0)))) fun y1 =>
      iteP (!y1) (
        Option.bind (f (IntKind.wrap IntKind.i64 (x0 + (1 : Int)), x1, x2, x3, x4)) fun r => some r) (
        iteP (Prod.fst (Prod.snd y0) == (0 : Int)) (
          iteP (within (Prod.fst y0) (List.length x3)) (
            Option.bind (x3[Int.toNat (Prod.fst y0)]?) fun y2 =>
            iteP (within (Prod.fst y0) (List.length x3)) (
              Option.bind (x3[Int.toNat (Prod.fst y0)]?) fun y3 =>
              Option.bind (f (IntKind.wrap IntKind.i64 (x0 + (1 : Int)), x1, x2, List.set x3 (Int.toNat (Prod.fst y0)) (IntKind.wrap IntKind.i64 (y2 + (1 : Int))), x4)) fun r => some r) (
              none)) (
            none)) (
          Option.bind (F48 N (Prod.fst (Prod.snd y0))) fun y4 =>
          Option.bind (F49 N (Prod.fst (Prod.snd (Prod.snd y0)))) fun y5 =>
          iteP (within (Prod.fst y4) (List.length x3)) (
            Option.bind (x3[Int.toNat (Prod.fst y4)]?) fun y6 =>
            iteP (within (Prod.fst y4) (List.length x3)) (
              Option.bind (x3[Int.toNat (Prod.fst y4)]?) fun y7 =>
              iteP (within (Prod.fst y5) (List.length x4)) (
                Option.bind (x4[Int.toNat (Prod.fst y5)]?) fun y8 =>
                iteP (within (Prod.fst y5) (List.length x4)) (
                  Option.bind (x4[Int.toNat (Prod.fst y5)]?) fun y9 =>
                  Option.bind (f (IntKind.wrap IntKind.i64 (x0 + (1 : Int)), x1, x2, List.set x3 (Int.toNat (Prod.fst y4)) (IntKind.wrap IntKind.i64 (y6 + (1 : Int))), List.set x4 (Int.toNat (Prod.fst y5)) (IntKind.wrap IntKind.i64 (y8 + (1 : Int))))) fun r => some r) (
                  none)) (
                none)) (
              none)) (
            none)))) (
      none)) (
    some ((x3, x4)))

noncomputable def F32_122 (N : Nat) : Nat → (Int × Int × (List (Int × (Int × (Int × Unit)))) × (List Int) × (List Int)) → Option ((List Int) × (List Int))
  | 0, _ => none
  | k + 1, x => B32_122 N (F32_122 N k) x

noncomputable def C32_122 (N : Nat) (k : Nat) : Cut := ⟨[18, 17, 16, 2, 3], X32_122, tellX I32_122 (F32_122 N k) O32_122⟩

theorem B32_122_eq (N : Nat) (f : (Int × Int × (List (Int × (Int × (Int × Unit)))) × (List Int) × (List Int)) → Option ((List Int) × (List Int))) (x0 : Int) (x1 : Int) (x2 : (List (Int × (Int × (Int × Unit))))) (x3 : (List Int)) (x4 : (List Int)) : (roundEv (mkE Try.prog ownT (tab32 N) []) Try.f32.ntmps A32 (loopAt (bod Try.f32) 122) 122 ⟨[18, 17, 16, 2, 3], X32_122, tellX I32_122 f O32_122⟩ (J32_122 (x0, x1, x2, x3, x4))).run D32_122 = B32_122 N f (x0, x1, x2, x3, x4) := by kernel_rfl

theorem C32_122_ok (N : Nat) (k : Nat) : ∀ c', At (bod Try.f32) 122 c' → CutOK Try.prog Try.f32.ntmps (idsL A32) c' (C32_122 N k) :=
  loop_ok (E := (mkE Try.prog ownT (tab32 N) [])) (mkE_ok mix (tab32_ok N)) (cutsIn_ok trivial) (fuel := 200) (by decide +kernel) (by kernel_rfl) I32_122_ok D32_122_ok (B32_122 N) (F32_122 N) (fun _ => rfl) (fun _ _ => rfl) (fun f x => match x with | (x0, x1, x2, x3, x4) => B32_122_eq N f x0 x1 x2 x3 x4) k

noncomputable def O32 (r : (List Int) × (List Int)) : Tr (Pk) := .ret ⟨[.tup [.sl 0 (none), .sl 1 (none)]], [some (.row (Ty.int IntKind.i64) 3 (r.1)), some (.row (Ty.int IntKind.i64) 3 (r.2))]⟩

noncomputable def D32 : Pk → Option ((List Int) × (List Int))
  | ⟨[.tup [.sl 0 (none), .sl 1 (none)]], [some (.row (Ty.int IntKind.i64) 3 x0), some (.row (Ty.int IntKind.i64) 3 x1)]⟩ => some ((x0, x1))
  | _ => none

theorem D32_ok : ∀ y r, D32 y = some r → ∀ z, (O32 r).to z → y = z := by
  intro y r h
  unfold D32 at h
  split at h <;> first | (cases h; intro z hz; exact Option.some.inj hz) | cases h

noncomputable def F32 (N : Nat) : ((List (Int × (Int × (Int × Unit))))) → Option ((List Int) × (List Int))
  | x0 =>
  Option.bind (F32_122 N N ((0 : Int), (↑(List.length x0) : Int), x0, [(0 : Int), (0 : Int), (0 : Int), (0 : Int), (0 : Int), (0 : Int), (0 : Int), (0 : Int), (0 : Int), (0 : Int), (0 : Int), (0 : Int), (0 : Int), (0 : Int), (0 : Int), (0 : Int), (0 : Int), (0 : Int), (0 : Int), (0 : Int), (0 : Int), (0 : Int), (0 : Int), (0 : Int), (0 : Int), (0 : Int), (0 : Int), (0 : Int), (0 : Int), (0 : Int), (0 : Int), (0 : Int), (0 : Int), (0 : Int), (0 : Int), (0 : Int), (0 : Int), (0 : Int), (0 : Int), (0 : Int), (0 : Int), (0 : Int), (0 : Int), (0 : Int), (0 : Int), (0 : Int), (0 : Int), (0 : Int), (0 : Int), (0 : Int), (0 : Int), (0 : Int), (0 : Int), (0 : Int), (0 : Int), (0 : Int), (0 : Int), (0 : Int), (0 : Int), (0 : Int), (0 : Int), (0 : Int), (0 : Int), (0 : Int), (0 : Int), (0 : Int), (0 : Int), (0 : Int), (0 : Int), (0 : Int), (0 : Int), (0 : Int), (0 : Int), (0 : Int), (0 : Int), (0 : Int), (0 : Int), (0 : Int), (0 : Int), (0 : Int), (0 : Int), (0 : Int), (0 : Int), (0 : Int), (0 : Int), (0 : Int), (0 : Int), (0 : Int), (0 : Int), (0 : Int), (0 : Int), (0 : Int), (0 : Int), (0 : Int), (0 : Int), (0 : Int), (0 : Int), (0 : Int), (0 : Int), (0 : Int), (0 : Int), (0 : Int), (0 : Int), (0 : Int), (0 : Int), (0 : Int), (0 : Int), (0 : Int), (0 : Int), (0 : Int), (0 : Int), (0 : Int), (0 : Int), (0 : Int), (0 : Int), (0 : Int), (0 : Int), (0 : Int), (0 : Int), (0 : Int), (0 : Int), (0 : Int), (0 : Int), (0 : Int), (0 : Int), (0 : Int), (0 : Int), (0 : Int), (0 : Int), (0 : Int), (0 : Int), (0 : Int), (0 : Int), (0 : Int), (0 : Int), (0 : Int), (0 : Int), (0 : Int), (0 : Int), (0 : Int), (0 : Int), (0 : Int), (0 : Int), (0 : Int), (0 : Int), (0 : Int), (0 : Int), (0 : Int), (0 : Int), (0 : Int), (0 : Int), (0 : Int), (0 : Int), (0 : Int), (0 : Int), (0 : Int), (0 : Int), (0 : Int), (0 : Int), (0 : Int), (0 : Int), (0 : Int), (0 : Int), (0 : Int), (0 : Int), (0 : Int), (0 : Int), (0 : Int), (0 : Int), (0 : Int), (0 : Int), (0 : Int), (0 : Int), (0 : Int), (0 : Int), (0 : Int), (0 : Int), (0 : Int), (0 : Int), (0 : Int), (0 : Int), (0 : Int), (0 : Int), (0 : Int), (0 : Int), (0 : Int), (0 : Int), (0 : Int), (0 : Int), (0 : Int), (0 : Int), (0 : Int), (0 : Int), (0 : Int), (0 : Int), (0 : Int), (0 : Int), (0 : Int), (0 : Int), (0 : Int), (0 : Int), (0 : Int), (0 : Int), (0 : Int), (0 : Int), (0 : Int), (0 : Int), (0 : Int), (0 : Int), (0 : Int), (0 : Int), (0 : Int), (0 : Int), (0 : Int), (0 : Int), (0 : Int), (0 : Int), (0 : Int), (0 : Int), (0 : Int), (0 : Int), (0 : Int), (0 : Int), (0 : Int), (0 : Int), (0 : Int), (0 : Int), (0 : Int), (0 : Int), (0 : Int), (0 : Int), (0 : Int), (0 : Int), (0 : Int), (0 : Int), (0 : Int), (0 : Int), (0 : Int), (0 : Int), (0 : Int), (0 : Int), (0 : Int), (0 : Int), (0 : Int), (0 : Int), (0 : Int), (0 : Int), (0 : Int), (0 : Int), (0 : Int), (0 : Int), (0 : Int), (0 : Int), (0 : Int), (0 : Int), (0 : Int), (1 : Int), (0 : Int), (0 : Int), (0 : Int), (0 : Int), (0 : Int), (0 : Int), (0 : Int), (0 : Int), (0 : Int), (0 : Int), (0 : Int), (0 : Int), (0 : Int), (0 : Int), (0 : Int), (0 : Int), (0 : Int), (0 : Int), (0 : Int), (0 : Int), (0 : Int), (0 : Int), (0 : Int), (0 : Int), (0 : Int), (0 : Int), (0 : Int), (0 : Int), (0 : Int)], List.replicate (30 : Nat) (0 : Int))) fun y0 =>
  some ((Prod.fst y0, Prod.snd y0))

theorem F32_eq (N : Nat) (x0 : (List (Int × (Int × (Int × Unit))))) : (fnEv (mkE Try.prog ownT (tab32 N) [(122, (C32_122 N N))]) Try.f32 (J32 x0)).run D32 = F32 N x0 := by kernel_rfl

noncomputable def T32 (N : Nat) : Pk → Tr Pk := tell I32 (F32 N) O32

theorem T32_ok (N : Nat) : FOK Try.prog 32 (T32 N) :=
  (tell_ok (E := (mkE Try.prog ownT (tab32 N) [(122, (C32_122 N N))])) (mkE_ok mix (tab32_ok N)) Try.func32 (show Try.f32.body = some (bod Try.f32) by kernel_rfl) (by decide +kernel) (F := F32 N) I32_ok D32_ok (args := A32) (fun _ => by kernel_rfl) (fun _ => by show 1 ≤ Try.f32.ntmps; exact of_decide_eq_true (by kernel_rfl)) (cutsIn_ok ⟨fun c' h => (C32_122_ok N N c' h), trivial⟩) (fun x => match x with | x0 => F32_eq N x0))

/-! ## f52: mirador/symbols.has -/

noncomputable def I52 : Pk → Option ((List (Int × (Int × Unit))) × (List Int))
  | ⟨[.ro (.cons (.int .i64) (.cons (.int .i64) .unit)) x0, .ro (.int .i64) x1], []⟩ => some (x0, x1)
  | _ => none

noncomputable def J52 (x : (List (Int × (Int × Unit))) × (List Int)) : Pk := ⟨[.ro (.cons (.int .i64) (.cons (.int .i64) .unit)) (x.1), .ro (.int .i64) (x.2)], []⟩

theorem I52_ok : ∀ pk x, I52 pk = some x → pk = J52 x := by
  intro pk x h
  unfold I52 at h
  split at h <;> first | (cases h; rfl) | cases h

noncomputable def A52 : List TV := []

noncomputable def tab52 (N : Nat) : List (Nat × (Pk → Tr Pk)) := []

theorem tab52_ok (N : Nat) : TabOK Try.prog (tab52 N) := trivial

def X52_26 : Ex → List Nat
  | .ret => [4]
  | .exit 0 => []
  | _ => []

noncomputable def I52_26 : Pk → Option (Int × (List Int) × (List (Int × (Int × Unit))) × Int)
  | ⟨[.v (.int .i64 x0), .ro (Ty.int IntKind.i64) x1, .ro (Ty.cons (Ty.int IntKind.i64) (Ty.cons (Ty.int IntKind.i64) Ty.unit)) x2, .v (.int .i64 x3)], []⟩ => some (x0, x1, x2, x3)
  | _ => none

noncomputable def J52_26 (x : Int × (List Int) × (List (Int × (Int × Unit))) × Int) : Pk := ⟨[.v (.int .i64 (x.1)), .ro (Ty.int IntKind.i64) (x.2.1), .ro (Ty.cons (Ty.int IntKind.i64) (Ty.cons (Ty.int IntKind.i64) Ty.unit)) (x.2.2.1), .v (.int .i64 (x.2.2.2))], []⟩

theorem I52_26_ok : ∀ pk x, I52_26 pk = some x → pk = J52_26 x := by
  intro pk x h
  unfold I52_26 at h
  split at h <;> first | (cases h; rfl) | cases h

noncomputable def O52_26 (r : ((Bool) ⊕ (Unit))) : Tr (Ex × Pk) := .sum _ _ r (fun u => .ret (.ret, ⟨[.v (.bool (u))], []⟩)) (fun v => .ret (.exit 0, ⟨[], []⟩))

noncomputable def D52_26 : Ex × Pk → Option (((Bool) ⊕ (Unit)))
  | (.ret, ⟨[.v (.bool x0)], []⟩) => some (.inl (x0))
  | (.exit 0, ⟨[], []⟩) => some (.inr (()))
  | _ => none

theorem D52_26_ok : ∀ y r, D52_26 y = some r → ∀ z, (O52_26 r).to z → y = z := by
  intro y r h
  unfold D52_26 at h
  split at h <;> first | (cases h; intro z hz; exact Option.some.inj hz) | cases h

noncomputable def B52_26 (N : Nat) (f : (Int × (List Int) × (List (Int × (Int × Unit))) × Int) → Option (((Bool) ⊕ (Unit)))) : (Int × (List Int) × (List (Int × (Int × Unit))) × Int) → Option (((Bool) ⊕ (Unit)))
  | (x0, x1, x2, x3) =>
  iteP (decide (x3 < x0)) (
    iteP (within x3 (List.length x1)) (
      Option.bind (x1[Int.toNat x3]?) fun y0 =>
      iteP (decide (y0 > (0 : Int))) (
        iteP (decide (x3 ≥ (↑(List.length x2) : Int))) (
          some (.inl (false))) (
          iteP (within x3 (List.length x2)) (
            Option.bind (x2[Int.toNat x3]?) fun y1 =>
            iteP (Prod.fst (Prod.snd y1) == (0 : Int)) (
              some (.inl (false))) (
              Option.bind (f (x0, x1, x2, IntKind.wrap IntKind.i64 (x3 + (1 : Int)))) fun r => match r with | .inl (y) => some (.inl (y)) | .inr (y) => some (.inr (y)))) (
            none))) (
        Option.bind (f (x0, x1, x2, IntKind.wrap IntKind.i64 (x3 + (1 : Int)))) fun r => match r with | .inl (y) => some (.inl (y)) | .inr (y) => some (.inr (y)))) (
      none)) (
    some (.inr (())))

noncomputable def F52_26 (N : Nat) : Nat → (Int × (List Int) × (List (Int × (Int × Unit))) × Int) → Option (((Bool) ⊕ (Unit)))
  | 0, _ => none
  | k + 1, x => B52_26 N (F52_26 N k) x

noncomputable def C52_26 (N : Nat) (k : Nat) : Cut := ⟨[8, 7, 0, 9], X52_26, tellX I52_26 (F52_26 N k) O52_26⟩

theorem B52_26_eq (N : Nat) (f : (Int × (List Int) × (List (Int × (Int × Unit))) × Int) → Option (((Bool) ⊕ (Unit)))) (x0 : Int) (x1 : (List Int)) (x2 : (List (Int × (Int × Unit)))) (x3 : Int) : (roundEv (mkE Try.prog ownT (tab52 N) []) Try.f52.ntmps A52 (loopAt (bod Try.f52) 26) 26 ⟨[8, 7, 0, 9], X52_26, tellX I52_26 f O52_26⟩ (J52_26 (x0, x1, x2, x3))).run D52_26 = B52_26 N f (x0, x1, x2, x3) := by kernel_rfl

theorem C52_26_ok (N : Nat) (k : Nat) : ∀ c', At (bod Try.f52) 26 c' → CutOK Try.prog Try.f52.ntmps (idsL A52) c' (C52_26 N k) :=
  loop_ok (E := (mkE Try.prog ownT (tab52 N) [])) (mkE_ok mix (tab52_ok N)) (cutsIn_ok trivial) (fuel := 200) (by decide +kernel) (by kernel_rfl) I52_26_ok D52_26_ok (B52_26 N) (F52_26 N) (fun _ => rfl) (fun _ _ => rfl) (fun f x => match x with | (x0, x1, x2, x3) => B52_26_eq N f x0 x1 x2 x3) k

noncomputable def O52 (r : Bool) : Tr (Pk) := .ret ⟨[.v (.bool (r))], []⟩

noncomputable def D52 : Pk → Option (Bool)
  | ⟨[.v (.bool x0)], []⟩ => some (x0)
  | _ => none

theorem D52_ok : ∀ y r, D52 y = some r → ∀ z, (O52 r).to z → y = z := by
  intro y r h
  unfold D52 at h
  split at h <;> first | (cases h; intro z hz; exact Option.some.inj hz) | cases h

noncomputable def F52 (N : Nat) : ((List (Int × (Int × Unit))) × (List Int)) → Option (Bool)
  | (x0, x1) =>
  Option.bind (F52_26 N N ((↑(List.length x1) : Int), x1, x0, (0 : Int))) fun y0 =>
  match y0 with
  | .inl y1 =>
    some (y1)
  | .inr y1 =>
    some (true)

theorem F52_eq (N : Nat) (x0 : (List (Int × (Int × Unit)))) (x1 : (List Int)) : (fnEv (mkE Try.prog ownT (tab52 N) [(26, (C52_26 N N))]) Try.f52 (J52 (x0, x1))).run D52 = F52 N (x0, x1) := by kernel_rfl

noncomputable def T52 (N : Nat) : Pk → Tr Pk := tell I52 (F52 N) O52

theorem T52_ok (N : Nat) : FOK Try.prog 52 (T52 N) :=
  (tell_ok (E := (mkE Try.prog ownT (tab52 N) [(26, (C52_26 N N))])) (mkE_ok mix (tab52_ok N)) Try.func52 (show Try.f52.body = some (bod Try.f52) by kernel_rfl) (by decide +kernel) (F := F52 N) I52_ok D52_ok (args := A52) (fun _ => by kernel_rfl) (fun _ => by show 2 ≤ Try.f52.ntmps; exact of_decide_eq_true (by kernel_rfl)) (cutsIn_ok ⟨fun c' h => (C52_26_ok N N c' h), trivial⟩) (fun x => match x with | (x0, x1) => F52_eq N x0 x1))


end Go.Proofs.Ytpjkklailofkjaa.Am

set_option linter.unusedVariables false
set_option maxRecDepth 100000
namespace Go.Proofs.Ytpjkklailofkjaa.Am
open Go.Am

/-! ## f33: mirador/symbols.Write -/

noncomputable def I33 : Pk → Option ((List Int) × (List Int) × (List (Int × (Int × (Int × Unit)))) × Int × Int × (List Int))
  | ⟨[.adr 0 [], .ro (.int .i64) x0, .ro (.int .i64) x1, .ro (.cons (.int .i64) (.cons (.int .i64) (.cons (.int .i64) .unit))) x2], [some (.var (.agg [.sl 1 none, .v (.int .i64 x3), .v (.int .i64 x4)])), some (.row (.int .u8) 5 x5)]⟩ => some (x0, x1, x2, x3, x4, x5)
  | _ => none

noncomputable def J33 (x : (List Int) × (List Int) × (List (Int × (Int × (Int × Unit)))) × Int × Int × (List Int)) : Pk := ⟨[.adr 0 [], .ro (.int .i64) (x.1), .ro (.int .i64) (x.2.1), .ro (.cons (.int .i64) (.cons (.int .i64) (.cons (.int .i64) .unit))) (x.2.2.1)], [some (.var (.agg [.sl 1 none, .v (.int .i64 (x.2.2.2.1)), .v (.int .i64 (x.2.2.2.2.1))])), some (.row (.int .u8) 5 (x.2.2.2.2.2))]⟩

theorem I33_ok : ∀ pk x, I33 pk = some x → pk = J33 x := by
  intro pk x h
  unfold I33 at h
  split at h <;> first | (cases h; rfl) | cases h

noncomputable def A33 : List TV := [.adr 0 []]

noncomputable def tab33 (N : Nat) : List (Nat × (Pk → Tr Pk)) := [(30, T30 N), (14, T14 N), (32, T32 N), (52, T52 N), (26, T26 N), (48, T48 N), (46, T46 N), (49, T49 N)]

theorem tab33_ok (N : Nat) : TabOK Try.prog (tab33 N) := ⟨T30_ok N, ⟨T14_ok N, ⟨T32_ok N, ⟨T52_ok N, ⟨T26_ok N, ⟨T48_ok N, ⟨T46_ok N, ⟨T49_ok N, trivial⟩⟩⟩⟩⟩⟩⟩⟩

def X33_26 : Ex → List Nat
  | .ret => [8]
  | .exit 0 => [1, 2, 0, 3]
  | _ => []

def X33_1018 : Ex → List Nat
  | .ret => [8]
  | .exit 2 => [0, 11]
  | _ => []

noncomputable def I33_26 : Pk → Option (Int × (List (Int × (Int × (Int × Unit)))) × (List Int) × (List Int) × (List (Int × (Int × (Int × Unit)))) × Int × Int × Int × (List Int))
  | ⟨[.v (.int .i64 x0), .ro (Ty.cons (Ty.int IntKind.i64) (Ty.cons (Ty.int IntKind.i64) (Ty.cons (Ty.int IntKind.i64) Ty.unit))) x1, .adr 0 [], .ro (Ty.int IntKind.i64) x2, .ro (Ty.int IntKind.i64) x3, .ro (Ty.cons (Ty.int IntKind.i64) (Ty.cons (Ty.int IntKind.i64) (Ty.cons (Ty.int IntKind.i64) Ty.unit))) x4, .v (.int .i64 x5)], [some (.var (.agg [.sl 1 (none), .v (.int .i64 x6), .v (.int .i64 x7)])), some (.row (Ty.int IntKind.u8) 5 x8)]⟩ => some (x0, x1, x2, x3, x4, x5, x6, x7, x8)
  | _ => none

noncomputable def J33_26 (x : Int × (List (Int × (Int × (Int × Unit)))) × (List Int) × (List Int) × (List (Int × (Int × (Int × Unit)))) × Int × Int × Int × (List Int)) : Pk := ⟨[.v (.int .i64 (x.1)), .ro (Ty.cons (Ty.int IntKind.i64) (Ty.cons (Ty.int IntKind.i64) (Ty.cons (Ty.int IntKind.i64) Ty.unit))) (x.2.1), .adr 0 [], .ro (Ty.int IntKind.i64) (x.2.2.1), .ro (Ty.int IntKind.i64) (x.2.2.2.1), .ro (Ty.cons (Ty.int IntKind.i64) (Ty.cons (Ty.int IntKind.i64) (Ty.cons (Ty.int IntKind.i64) Ty.unit))) (x.2.2.2.2.1), .v (.int .i64 (x.2.2.2.2.2.1))], [some (.var (.agg [.sl 1 (none), .v (.int .i64 (x.2.2.2.2.2.2.1)), .v (.int .i64 (x.2.2.2.2.2.2.2.1))])), some (.row (Ty.int IntKind.u8) 5 (x.2.2.2.2.2.2.2.2))]⟩

theorem I33_26_ok : ∀ pk x, I33_26 pk = some x → pk = J33_26 x := by
  intro pk x h
  unfold I33_26 at h
  split at h <;> first | (cases h; rfl) | cases h

noncomputable def O33_26 (r : ((Int × Int × Int × (List Int)) ⊕ ((List Int) × (List Int) × (List (Int × (Int × (Int × Unit)))) × Int × Int × (List Int)))) : Tr (Ex × Pk) := .sum _ _ r (fun u => .ret (.ret, ⟨[.v (.int .i64 (u.1))], [some (.var (.agg [.sl 1 (none), .v (.int .i64 (u.2.1)), .v (.int .i64 (u.2.2.1))])), some (.row (Ty.int IntKind.u8) 5 (u.2.2.2))]⟩)) (fun v => .ret (.exit 0, ⟨[.ro (Ty.int IntKind.i64) (v.1), .ro (Ty.int IntKind.i64) (v.2.1), .adr 0 [], .ro (Ty.cons (Ty.int IntKind.i64) (Ty.cons (Ty.int IntKind.i64) (Ty.cons (Ty.int IntKind.i64) Ty.unit))) (v.2.2.1)], [some (.var (.agg [.sl 1 (none), .v (.int .i64 (v.2.2.2.1)), .v (.int .i64 (v.2.2.2.2.1))])), some (.row (Ty.int IntKind.u8) 5 (v.2.2.2.2.2))]⟩))

noncomputable def D33_26 : Ex × Pk → Option (((Int × Int × Int × (List Int)) ⊕ ((List Int) × (List Int) × (List (Int × (Int × (Int × Unit)))) × Int × Int × (List Int))))
  | (.ret, ⟨[.v (.int .i64 x0)], [some (.var (.agg [.sl 1 (none), .v (.int .i64 x1), .v (.int .i64 x2)])), some (.row (Ty.int IntKind.u8) 5 x3)]⟩) => some (.inl ((x0, x1, x2, x3)))
  | (.exit 0, ⟨[.ro (Ty.int IntKind.i64) x0, .ro (Ty.int IntKind.i64) x1, .adr 0 [], .ro (Ty.cons (Ty.int IntKind.i64) (Ty.cons (Ty.int IntKind.i64) (Ty.cons (Ty.int IntKind.i64) Ty.unit))) x2], [some (.var (.agg [.sl 1 (none), .v (.int .i64 x3), .v (.int .i64 x4)])), some (.row (Ty.int IntKind.u8) 5 x5)]⟩) => some (.inr ((x0, x1, x2, x3, x4, x5)))
  | _ => none

theorem D33_26_ok : ∀ y r, D33_26 y = some r → ∀ z, (O33_26 r).to z → y = z := by
  intro y r h
  unfold D33_26 at h
  split at h <;> first | (cases h; intro z hz; exact Option.some.inj hz) | cases h

noncomputable def B33_26 (N : Nat) (f : (Int × (List (Int × (Int × (Int × Unit)))) × (List Int) × (List Int) × (List (Int × (Int × (Int × Unit)))) × Int × Int × Int × (List Int)) → Option (((Int × Int × Int × (List Int)) ⊕ ((List Int) × (List Int) × (List (Int × (Int × (Int × Unit)))) × Int × Int × (List Int))))) : (Int × (List (Int × (Int × (Int × Unit)))) × (List Int) × (List Int) × (List (Int × (Int × (Int × Unit)))) × Int × Int × Int × (List Int)) → Option (((Int × Int × Int × (List Int)) ⊕ ((List Int) × (List Int) × (List (Int × (Int × (Int × Unit)))) × Int × Int × (List Int))))
  | (x0, x1, x2, x3, x4, x5, x6, x7, x8) =>
  iteP (decide (x5 < x0)) (
    iteP (within x5 (List.length x4)) (
      Option.bind (x4[Int.toNat x5]?) fun y0 =>
      Option.bind (F30 N (Prod.fst y0, Prod.fst (Prod.snd y0), Prod.fst (Prod.snd (Prod.snd y0)))) fun y1 =>
      iteP (!y1) (
        some (.inl (((1 : Int), x6, x7, x8)))) (
        Option.bind (f (x0, x1, x2, x3, x4, IntKind.wrap IntKind.i64 (x5 + (1 : Int)), x6, x7, x8)) fun r => match r with | .inl (y) => some (.inl (y)) | .inr (y) => some (.inr (y)))) (
      none)) (
    some (.inr ((x3, x2, x1, x6, x7, x8))))

noncomputable def F33_26 (N : Nat) : Nat → (Int × (List (Int × (Int × (Int × Unit)))) × (List Int) × (List Int) × (List (Int × (Int × (Int × Unit)))) × Int × Int × Int × (List Int)) → Option (((Int × Int × Int × (List Int)) ⊕ ((List Int) × (List Int) × (List (Int × (Int × (Int × Unit)))) × Int × Int × (List Int))))
  | 0, _ => none
  | k + 1, x => B33_26 N (F33_26 N k) x

noncomputable def C33_26 (N : Nat) (k : Nat) : Cut := ⟨[23, 3, 0, 2, 1, 22, 24], X33_26, tellX I33_26 (F33_26 N k) O33_26⟩

theorem B33_26_eq (N : Nat) (f : (Int × (List (Int × (Int × (Int × Unit)))) × (List Int) × (List Int) × (List (Int × (Int × (Int × Unit)))) × Int × Int × Int × (List Int)) → Option (((Int × Int × Int × (List Int)) ⊕ ((List Int) × (List Int) × (List (Int × (Int × (Int × Unit)))) × Int × Int × (List Int))))) (x0 : Int) (x1 : (List (Int × (Int × (Int × Unit))))) (x2 : (List Int)) (x3 : (List Int)) (x4 : (List (Int × (Int × (Int × Unit))))) (x5 : Int) (x6 : Int) (x7 : Int) (x8 : (List Int)) : (roundEv (mkE Try.prog ownT (tab33 N) []) Try.f33.ntmps A33 (loopAt (bod Try.f33) 26) 26 ⟨[23, 3, 0, 2, 1, 22, 24], X33_26, tellX I33_26 f O33_26⟩ (J33_26 (x0, x1, x2, x3, x4, x5, x6, x7, x8))).run D33_26 = B33_26 N f (x0, x1, x2, x3, x4, x5, x6, x7, x8) := by kernel_rfl

theorem C33_26_ok (N : Nat) (k : Nat) : ∀ c', At (bod Try.f33) 26 c' → CutOK Try.prog Try.f33.ntmps (idsL A33) c' (C33_26 N k) :=
  loop_ok (E := (mkE Try.prog ownT (tab33 N) [])) (mkE_ok mix (tab33_ok N)) (cutsIn_ok trivial) (fuel := 200) (by decide +kernel) (by kernel_rfl) I33_26_ok D33_26_ok (B33_26 N) (F33_26 N) (fun _ => rfl) (fun _ _ => rfl) (fun f x => match x with | (x0, x1, x2, x3, x4, x5, x6, x7, x8) => B33_26_eq N f x0 x1 x2 x3 x4 x5 x6 x7 x8) k

noncomputable def I33_1018 : Pk → Option (Int × Int × (List (Int × (Int × (Int × Unit)))) × Int × Int × (List (Int × (Int × Unit))) × (List (Int × (Int × Unit))) × (List Int))
  | ⟨[.v (.int .i64 x0), .v (.int .i64 x1), .ro (Ty.cons (Ty.int IntKind.i64) (Ty.cons (Ty.int IntKind.i64) (Ty.cons (Ty.int IntKind.i64) Ty.unit))) x2, .sl 1 (none), .adr 0 [], .sl 2 (none)], [some (.var (.agg [.sl 3 (none), .v (.int .i64 x3), .v (.int .i64 x4)])), some (.row (Ty.cons (Ty.int IntKind.i64) (Ty.cons (Ty.int IntKind.i64) Ty.unit)) 34 x5), some (.row (Ty.cons (Ty.int IntKind.i64) (Ty.cons (Ty.int IntKind.i64) Ty.unit)) 34 x6), some (.row (Ty.int IntKind.u8) 5 x7)]⟩ => some (x0, x1, x2, x3, x4, x5, x6, x7)
  | _ => none

noncomputable def J33_1018 (x : Int × Int × (List (Int × (Int × (Int × Unit)))) × Int × Int × (List (Int × (Int × Unit))) × (List (Int × (Int × Unit))) × (List Int)) : Pk := ⟨[.v (.int .i64 (x.1)), .v (.int .i64 (x.2.1)), .ro (Ty.cons (Ty.int IntKind.i64) (Ty.cons (Ty.int IntKind.i64) (Ty.cons (Ty.int IntKind.i64) Ty.unit))) (x.2.2.1), .sl 1 (none), .adr 0 [], .sl 2 (none)], [some (.var (.agg [.sl 3 (none), .v (.int .i64 (x.2.2.2.1)), .v (.int .i64 (x.2.2.2.2.1))])), some (.row (Ty.cons (Ty.int IntKind.i64) (Ty.cons (Ty.int IntKind.i64) Ty.unit)) 34 (x.2.2.2.2.2.1)), some (.row (Ty.cons (Ty.int IntKind.i64) (Ty.cons (Ty.int IntKind.i64) Ty.unit)) 34 (x.2.2.2.2.2.2.1)), some (.row (Ty.int IntKind.u8) 5 (x.2.2.2.2.2.2.2))]⟩

theorem I33_1018_ok : ∀ pk x, I33_1018 pk = some x → pk = J33_1018 x := by
  intro pk x h
  unfold I33_1018 at h
  split at h <;> first | (cases h; rfl) | cases h

noncomputable def O33_1018 (r : Int × Int × (List (Int × (Int × Unit))) × (List Int)) : Tr (Ex × Pk) := .ret (.exit 2, ⟨[.adr 0 [], .sl 1 (none)], [some (.var (.agg [.sl 2 (none), .v (.int .i64 (r.1)), .v (.int .i64 (r.2.1))])), some (.row (Ty.cons (Ty.int IntKind.i64) (Ty.cons (Ty.int IntKind.i64) Ty.unit)) 34 (r.2.2.1)), some (.row (Ty.int IntKind.u8) 5 (r.2.2.2))]⟩)

noncomputable def D33_1018 : Ex × Pk → Option (Int × Int × (List (Int × (Int × Unit))) × (List Int))
  | (.exit 2, ⟨[.adr 0 [], .sl 1 (none)], [some (.var (.agg [.sl 2 (none), .v (.int .i64 x0), .v (.int .i64 x1)])), some (.row (Ty.cons (Ty.int IntKind.i64) (Ty.cons (Ty.int IntKind.i64) Ty.unit)) 34 x2), some (.row (Ty.int IntKind.u8) 5 x3)]⟩) => some ((x0, x1, x2, x3))
  | _ => none

theorem D33_1018_ok : ∀ y r, D33_1018 y = some r → ∀ z, (O33_1018 r).to z → y = z := by
  intro y r h
  unfold D33_1018 at h
  split at h <;> first | (cases h; intro z hz; exact Option.some.inj hz) | cases h

noncomputable def B33_1018 (N : Nat) (f : (Int × Int × (List (Int × (Int × (Int × Unit)))) × Int × Int × (List (Int × (Int × Unit))) × (List (Int × (Int × Unit))) × (List Int)) → Option (Int × Int × (List (Int × (Int × Unit))) × (List Int))) : (Int × Int × (List (Int × (Int × (Int × Unit)))) × Int × Int × (List (Int × (Int × Unit))) × (List (Int × (Int × Unit))) × (List Int)) → Option (Int × Int × (List (Int × (Int × Unit))) × (List Int))
  | (x0, x1, x2, x3, x4, x5, x6, x7) =>
  iteP (decide (x0 < x1)) (
    iteP (within x0 (List.length x2)) (
      Option.bind (x2[Int.toNat x0]?) fun y0 =>
      iteP (Prod.fst (Prod.snd y0) == (0 : Int)) (
        iteP (within (Prod.fst y0) (List.length x6)) (
          Option.bind (x6[Int.toNat (Prod.fst y0)]?) fun y1 =>
          Option.bind (F26 N (Prod.fst y1, Prod.fst (Prod.snd y1), x3, x4, x7)) fun y2 =>
          Option.bind (f (IntKind.wrap IntKind.i64 (x0 + (1 : Int)), x1, x2, Prod.fst y2, Prod.fst (Prod.snd y2), x5, x6, Prod.snd (Prod.snd y2))) fun r => some r) (
          none)) (
        Option.bind (F48 N (Prod.fst (Prod.snd y0))) fun y3 =>
        iteP (within (Prod.fst y3) (List.length x6)) (
          Option.bind (x6[Int.toNat (Prod.fst y3)]?) fun y4 =>
          Option.bind (F26 N (Prod.fst y4, Prod.fst (Prod.snd y4), x3, x4, x7)) fun y5 =>
          Option.bind (F46 N (Prod.snd (Prod.snd y3), Prod.fst (Prod.snd y3), Prod.fst y5, Prod.fst (Prod.snd y5), Prod.snd (Prod.snd y5))) fun y6 =>
          Option.bind (F49 N (Prod.fst (Prod.snd (Prod.snd y0)))) fun y7 =>
          iteP (within (Prod.fst y7) (List.length x5)) (
            Option.bind (x5[Int.toNat (Prod.fst y7)]?) fun y8 =>
            Option.bind (F26 N (Prod.fst y8, Prod.fst (Prod.snd y8), Prod.fst y6, Prod.fst (Prod.snd y6), Prod.snd (Prod.snd y6))) fun y9 =>
            Option.bind (F46 N (Prod.snd (Prod.snd y7), Prod.fst (Prod.snd y7), Prod.fst y9, Prod.fst (Prod.snd y9), Prod.snd (Prod.snd y9))) fun y10 =>
            Option.bind (f (IntKind.wrap IntKind.i64 (x0 + (1 : Int)), x1, x2, Prod.fst y10, Prod.fst (Prod.snd y10), x5, x6, Prod.snd (Prod.snd y10))) fun r => some r) (
            none)) (
          none))) (
      none)) (
    some ((x3, x4, x6, x7)))

noncomputable def F33_1018 (N : Nat) : Nat → (Int × Int × (List (Int × (Int × (Int × Unit)))) × Int × Int × (List (Int × (Int × Unit))) × (List (Int × (Int × Unit))) × (List Int)) → Option (Int × Int × (List (Int × (Int × Unit))) × (List Int))
  | 0, _ => none
  | k + 1, x => B33_1018 N (F33_1018 N k) x

noncomputable def C33_1018 (N : Nat) (k : Nat) : Cut := ⟨[67, 66, 65, 13, 0, 11], X33_1018, tellX I33_1018 (F33_1018 N k) O33_1018⟩

theorem B33_1018_eq (N : Nat) (f : (Int × Int × (List (Int × (Int × (Int × Unit)))) × Int × Int × (List (Int × (Int × Unit))) × (List (Int × (Int × Unit))) × (List Int)) → Option (Int × Int × (List (Int × (Int × Unit))) × (List Int))) (x0 : Int) (x1 : Int) (x2 : (List (Int × (Int × (Int × Unit))))) (x3 : Int) (x4 : Int) (x5 : (List (Int × (Int × Unit)))) (x6 : (List (Int × (Int × Unit)))) (x7 : (List Int)) : (roundEv (mkE Try.prog ownT (tab33 N) [(26, (C33_26 N N))]) Try.f33.ntmps A33 (loopAt (bod Try.f33) 1018) 1018 ⟨[67, 66, 65, 13, 0, 11], X33_1018, tellX I33_1018 f O33_1018⟩ (J33_1018 (x0, x1, x2, x3, x4, x5, x6, x7))).run D33_1018 = B33_1018 N f (x0, x1, x2, x3, x4, x5, x6, x7) := by kernel_rfl

theorem C33_1018_ok (N : Nat) (k : Nat) : ∀ c', At (bod Try.f33) 1018 c' → CutOK Try.prog Try.f33.ntmps (idsL A33) c' (C33_1018 N k) :=
  loop_ok (E := (mkE Try.prog ownT (tab33 N) [(26, (C33_26 N N))])) (mkE_ok mix (tab33_ok N)) (cutsIn_ok ⟨fun c' h => (C33_26_ok N N c' h), trivial⟩) (fuel := 200) (by decide +kernel) (by kernel_rfl) I33_1018_ok D33_1018_ok (B33_1018 N) (F33_1018 N) (fun _ => rfl) (fun _ _ => rfl) (fun f x => match x with | (x0, x1, x2, x3, x4, x5, x6, x7) => B33_1018_eq N f x0 x1 x2 x3 x4 x5 x6 x7) k

noncomputable def O33 (r : Int × Int × Int × (List Int)) : Tr (Pk) := .ret ⟨[.v (.int .i64 (r.1))], [some (.var (.agg [.sl 1 (none), .v (.int .i64 (r.2.1)), .v (.int .i64 (r.2.2.1))])), some (.row (Ty.int IntKind.u8) 5 (r.2.2.2))]⟩

noncomputable def D33 : Pk → Option (Int × Int × Int × (List Int))
  | ⟨[.v (.int .i64 x0)], [some (.var (.agg [.sl 1 (none), .v (.int .i64 x1), .v (.int .i64 x2)])), some (.row (Ty.int IntKind.u8) 5 x3)]⟩ => some ((x0, x1, x2, x3))
  | _ => none

theorem D33_ok : ∀ y r, D33 y = some r → ∀ z, (O33 r).to z → y = z := by
  intro y r h
  unfold D33 at h
  split at h <;> first | (cases h; intro z hz; exact Option.some.inj hz) | cases h

noncomputable def F33 (N : Nat) : ((List Int) × (List Int) × (List (Int × (Int × (Int × Unit)))) × Int × Int × (List Int)) → Option (Int × Int × Int × (List Int))
  | (x0, x1, x2, x3, x4, x5) =>
  Option.bind (F33_26 N N ((↑(List.length x2) : Int), x2, x1, x0, x2, (0 : Int), x3, x4, x5)) fun y0 =>
  match y0 with
  | .inl y1 =>
    some ((Prod.fst y1, Prod.fst (Prod.snd y1), Prod.fst (Prod.snd (Prod.snd y1)), Prod.snd (Prod.snd (Prod.snd y1))))
  | .inr y1 =>
    Option.bind (F14 N (Prod.fst y1)) fun y2 =>
    Option.bind (F14 N (Prod.fst (Prod.snd y1))) fun y3 =>
    Option.bind (F32 N (Prod.fst (Prod.snd (Prod.snd y1)))) fun y4 =>
    iteP (Prod.fst y2 != (0 : Int)) (
      some (((50 : Int), Prod.fst (Prod.snd (Prod.snd (Prod.snd y1))), Prod.fst (Prod.snd (Prod.snd (Prod.snd (Prod.snd y1)))), Prod.snd (Prod.snd (Prod.snd (Prod.snd (Prod.snd y1))))))) (
      iteP (Prod.fst y3 != (0 : Int)) (
        some (((50 : Int), Prod.fst (Prod.snd (Prod.snd (Prod.snd y1))), Prod.fst (Prod.snd (Prod.snd (Prod.snd (Prod.snd y1)))), Prod.snd (Prod.snd (Prod.snd (Prod.snd (Prod.snd y1))))))) (
        Option.bind (F52 N (Prod.snd y2, Prod.fst y4)) fun y5 =>
        iteP (!y5) (
          some (((50 : Int), Prod.fst (Prod.snd (Prod.snd (Prod.snd y1))), Prod.fst (Prod.snd (Prod.snd (Prod.snd (Prod.snd y1)))), Prod.snd (Prod.snd (Prod.snd (Prod.snd (Prod.snd y1))))))) (
          Option.bind (F52 N (Prod.snd y3, Prod.snd y4)) fun y6 =>
          iteP (!y6) (
            some (((50 : Int), Prod.fst (Prod.snd (Prod.snd (Prod.snd y1))), Prod.fst (Prod.snd (Prod.snd (Prod.snd (Prod.snd y1)))), Prod.snd (Prod.snd (Prod.snd (Prod.snd (Prod.snd y1))))))) (
            Option.bind (F33_1018 N N ((0 : Int), (↑(List.length (Prod.fst (Prod.snd (Prod.snd y1)))) : Int), Prod.fst (Prod.snd (Prod.snd y1)), Prod.fst (Prod.snd (Prod.snd (Prod.snd y1))), Prod.fst (Prod.snd (Prod.snd (Prod.snd (Prod.snd y1)))), Prod.snd y3, Prod.snd y2, Prod.snd (Prod.snd (Prod.snd (Prod.snd (Prod.snd y1)))))) fun y7 =>
            iteP (within (256 : Int) (List.length (Prod.fst (Prod.snd (Prod.snd y7))))) (
              Option.bind ((Prod.fst (Prod.snd (Prod.snd y7)))[(256 : Nat)]?) fun y8 =>
              Option.bind (F26 N (Prod.fst y8, Prod.fst (Prod.snd y8), Prod.fst y7, Prod.fst (Prod.snd y7), Prod.snd (Prod.snd (Prod.snd y7)))) fun y9 =>
              some (((0 : Int), Prod.fst y9, Prod.fst (Prod.snd y9), Prod.snd (Prod.snd y9)))) (
              none)))))

theorem F33_eq (N : Nat) (x0 : (List Int)) (x1 : (List Int)) (x2 : (List (Int × (Int × (Int × Unit))))) (x3 : Int) (x4 : Int) (x5 : (List Int)) : (fnEv (mkE Try.prog ownT (tab33 N) [(26, (C33_26 N N)), (1018, (C33_1018 N N))]) Try.f33 (J33 (x0, x1, x2, x3, x4, x5))).run D33 = F33 N (x0, x1, x2, x3, x4, x5) := by kernel_rfl

noncomputable def T33 (N : Nat) : Pk → Tr Pk := tell I33 (F33 N) O33

theorem T33_ok (N : Nat) : FOK Try.prog 33 (T33 N) :=
  (tell_ok (E := (mkE Try.prog ownT (tab33 N) [(26, (C33_26 N N)), (1018, (C33_1018 N N))])) (mkE_ok mix (tab33_ok N)) Try.func33 (show Try.f33.body = some (bod Try.f33) by kernel_rfl) (by decide +kernel) (F := F33 N) I33_ok D33_ok (args := A33) (fun _ => by kernel_rfl) (fun _ => by show 4 ≤ Try.f33.ntmps; exact of_decide_eq_true (by kernel_rfl)) (cutsIn_ok ⟨fun c' h => (C33_26_ok N N c' h), ⟨fun c' h => (C33_1018_ok N N c' h), trivial⟩⟩) (fun x => match x with | (x0, x1, x2, x3, x4, x5) => F33_eq N x0 x1 x2 x3 x4 x5))

/-! ## f68a: mirador/symbols.number -/

noncomputable def I68a : Pk → Option (Int × ByteArray × Int × Int)
  | ⟨[.adr 0 [], .v (.int .i64 x0), .v (.func (.func 66) ⟨[]⟩ ⟨[]⟩)], [some (.var (.agg [.v (.string x1), .v (.int .i64 x2), .v (.int .i64 x3)]))]⟩ => some (x0, x1, x2, x3)
  | _ => none

noncomputable def J68a (x : Int × ByteArray × Int × Int) : Pk := ⟨[.adr 0 [], .v (.int .i64 (x.1)), .v (.func (.func 66) ⟨[]⟩ ⟨[]⟩)], [some (.var (.agg [.v (.string (x.2.1)), .v (.int .i64 (x.2.2.1)), .v (.int .i64 (x.2.2.2))]))]⟩

theorem I68a_ok : ∀ pk x, I68a pk = some x → pk = J68a x := by
  intro pk x h
  unfold I68a at h
  split at h <;> first | (cases h; rfl) | cases h

noncomputable def A68a : List TV := [.adr 0 []]

noncomputable def tab68a (N : Nat) : List (Nat × (Pk → Tr Pk)) := [(42, T42 N), (43, T43 N), (66, T66 N)]

theorem tab68a_ok (N : Nat) : TabOK Try.prog (tab68a N) := ⟨T42_ok N, ⟨T43_ok N, ⟨T66_ok N, trivial⟩⟩⟩

noncomputable def O68a (r : Int × Int × ByteArray × Int × Int) : Tr (Pk) := .ret ⟨[.tup [.v (.int .i64 (r.1)), .v (.int .i64 (r.2.1))]], [some (.var (.agg [.v (.string (r.2.2.1)), .v (.int .i64 (r.2.2.2.1)), .v (.int .i64 (r.2.2.2.2))]))]⟩

noncomputable def D68a : Pk → Option (Int × Int × ByteArray × Int × Int)
  | ⟨[.tup [.v (.int .i64 x0), .v (.int .i64 x1)]], [some (.var (.agg [.v (.string x2), .v (.int .i64 x3), .v (.int .i64 x4)]))]⟩ => some ((x0, x1, x2, x3, x4))
  | _ => none

theorem D68a_ok : ∀ y r, D68a y = some r → ∀ z, (O68a r).to z → y = z := by
  intro y r h
  unfold D68a at h
  split at h <;> first | (cases h; intro z hz; exact Option.some.inj hz) | cases h

noncomputable def F68a (N : Nat) : (Int × ByteArray × Int × Int) → Option (Int × Int × ByteArray × Int × Int)
  | (x0, x1, x2, x3) =>
  Option.bind (F66 N x0) fun y0 =>
  Option.bind (F42 N (Prod.snd y0, x1, x2, x3)) fun y1 =>
  Option.bind (F43 N (Prod.fst (Prod.snd y1), Prod.fst (Prod.snd (Prod.snd y1)), Prod.snd (Prod.snd (Prod.snd y1)), ())) fun y2 =>
  some ((IntKind.wrap IntKind.i64 (Prod.fst y0 + Prod.fst y1), y2, Prod.fst (Prod.snd y1), Prod.fst (Prod.snd (Prod.snd y1)), Prod.snd (Prod.snd (Prod.snd y1))))

theorem F68a_eq (N : Nat) (x0 : Int) (x1 : ByteArray) (x2 : Int) (x3 : Int) : (fnEv (mkE Try.prog ownT (tab68a N) []) Try.f68 (J68a (x0, x1, x2, x3))).run D68a = F68a N (x0, x1, x2, x3) := by kernel_rfl

noncomputable def V68a (N : Nat) : Pk → Tr Pk := tell I68a (F68a N) O68a

theorem V68a_ok (N : Nat) : FOK Try.prog 68 (V68a N) :=
  (tell_ok (E := (mkE Try.prog ownT (tab68a N) [])) (mkE_ok mix (tab68a_ok N)) Try.func68 (show Try.f68.body = some (bod Try.f68) by kernel_rfl) (by decide +kernel) (F := F68a N) I68a_ok D68a_ok (args := A68a) (fun _ => by kernel_rfl) (fun _ => by show 3 ≤ Try.f68.ntmps; exact of_decide_eq_true (by kernel_rfl)) (cutsIn_ok trivial) (fun x => match x with | (x0, x1, x2, x3) => F68a_eq N x0 x1 x2 x3))

/-! ## f68b: mirador/symbols.number -/

noncomputable def I68b : Pk → Option (Int × ByteArray × Int × Int)
  | ⟨[.adr 0 [], .v (.int .i64 x0), .v (.func (.func 67) ⟨[]⟩ ⟨[]⟩)], [some (.var (.agg [.v (.string x1), .v (.int .i64 x2), .v (.int .i64 x3)]))]⟩ => some (x0, x1, x2, x3)
  | _ => none

noncomputable def J68b (x : Int × ByteArray × Int × Int) : Pk := ⟨[.adr 0 [], .v (.int .i64 (x.1)), .v (.func (.func 67) ⟨[]⟩ ⟨[]⟩)], [some (.var (.agg [.v (.string (x.2.1)), .v (.int .i64 (x.2.2.1)), .v (.int .i64 (x.2.2.2))]))]⟩

theorem I68b_ok : ∀ pk x, I68b pk = some x → pk = J68b x := by
  intro pk x h
  unfold I68b at h
  split at h <;> first | (cases h; rfl) | cases h

noncomputable def A68b : List TV := [.adr 0 []]

noncomputable def tab68b (N : Nat) : List (Nat × (Pk → Tr Pk)) := [(42, T42 N), (43, T43 N), (67, T67 N)]

theorem tab68b_ok (N : Nat) : TabOK Try.prog (tab68b N) := ⟨T42_ok N, ⟨T43_ok N, ⟨T67_ok N, trivial⟩⟩⟩

noncomputable def O68b (r : Int × Int × ByteArray × Int × Int) : Tr (Pk) := .ret ⟨[.tup [.v (.int .i64 (r.1)), .v (.int .i64 (r.2.1))]], [some (.var (.agg [.v (.string (r.2.2.1)), .v (.int .i64 (r.2.2.2.1)), .v (.int .i64 (r.2.2.2.2))]))]⟩

noncomputable def D68b : Pk → Option (Int × Int × ByteArray × Int × Int)
  | ⟨[.tup [.v (.int .i64 x0), .v (.int .i64 x1)]], [some (.var (.agg [.v (.string x2), .v (.int .i64 x3), .v (.int .i64 x4)]))]⟩ => some ((x0, x1, x2, x3, x4))
  | _ => none

theorem D68b_ok : ∀ y r, D68b y = some r → ∀ z, (O68b r).to z → y = z := by
  intro y r h
  unfold D68b at h
  split at h <;> first | (cases h; intro z hz; exact Option.some.inj hz) | cases h

noncomputable def F68b (N : Nat) : (Int × ByteArray × Int × Int) → Option (Int × Int × ByteArray × Int × Int)
  | (x0, x1, x2, x3) =>
  Option.bind (F67 N x0) fun y0 =>
  Option.bind (F42 N (Prod.snd y0, x1, x2, x3)) fun y1 =>
  Option.bind (F43 N (Prod.fst (Prod.snd y1), Prod.fst (Prod.snd (Prod.snd y1)), Prod.snd (Prod.snd (Prod.snd y1)), ())) fun y2 =>
  some ((IntKind.wrap IntKind.i64 (Prod.fst y0 + Prod.fst y1), y2, Prod.fst (Prod.snd y1), Prod.fst (Prod.snd (Prod.snd y1)), Prod.snd (Prod.snd (Prod.snd y1))))

theorem F68b_eq (N : Nat) (x0 : Int) (x1 : ByteArray) (x2 : Int) (x3 : Int) : (fnEv (mkE Try.prog ownT (tab68b N) []) Try.f68 (J68b (x0, x1, x2, x3))).run D68b = F68b N (x0, x1, x2, x3) := by kernel_rfl

noncomputable def V68b (N : Nat) : Pk → Tr Pk := tell I68b (F68b N) O68b

theorem V68b_ok (N : Nat) : FOK Try.prog 68 (V68b N) :=
  (tell_ok (E := (mkE Try.prog ownT (tab68b N) [])) (mkE_ok mix (tab68b_ok N)) Try.func68 (show Try.f68.body = some (bod Try.f68) by kernel_rfl) (by decide +kernel) (F := F68b N) I68b_ok D68b_ok (args := A68b) (fun _ => by kernel_rfl) (fun _ => by show 3 ≤ Try.f68.ntmps; exact of_decide_eq_true (by kernel_rfl)) (cutsIn_ok trivial) (fun x => match x with | (x0, x1, x2, x3) => F68b_eq N x0 x1 x2 x3))

noncomputable def T68 (N : Nat) : Pk → Tr Pk := (orT I68a (V68a N) (V68b N))

theorem T68_ok (N : Nat) : FOK Try.prog 68 (T68 N) := (orT_ok (V68a_ok N) (V68b_ok N))

/-! ## f53: mirador/symbols.piece -/

noncomputable def I53 : Pk → Option (Int × ByteArray × Int × Int × (List Int) × Int × (List Int))
  | ⟨[.adr 0 [], .v (.int .i64 x0), .adr 1 []], [some (.var (.agg [.v (.string x1), .v (.int .i64 x2), .v (.int .i64 x3)])), some (.var (.agg [.arr (.int .i64) 16 x4, .sl 2 none, .v (.int .i64 x5)])), some (.row (.int .i64) 3 x6)]⟩ => some (x0, x1, x2, x3, x4, x5, x6)
  | _ => none

noncomputable def J53 (x : Int × ByteArray × Int × Int × (List Int) × Int × (List Int)) : Pk := ⟨[.adr 0 [], .v (.int .i64 (x.1)), .adr 1 []], [some (.var (.agg [.v (.string (x.2.1)), .v (.int .i64 (x.2.2.1)), .v (.int .i64 (x.2.2.2.1))])), some (.var (.agg [.arr (.int .i64) 16 (x.2.2.2.2.1), .sl 2 none, .v (.int .i64 (x.2.2.2.2.2.1))])), some (.row (.int .i64) 3 (x.2.2.2.2.2.2))]⟩

theorem I53_ok : ∀ pk x, I53 pk = some x → pk = J53 x := by
  intro pk x h
  unfold I53 at h
  split at h <;> first | (cases h; rfl) | cases h

noncomputable def A53 : List TV := [.adr 0 [], .adr 1 []]

noncomputable def tab53 (N : Nat) : List (Nat × (Pk → Tr Pk)) := [(68, T68 N), (23, T23 N)]

theorem tab53_ok (N : Nat) : TabOK Try.prog (tab53 N) := ⟨T68_ok N, ⟨T23_ok N, trivial⟩⟩

noncomputable def O53 (r : Int × Int × Int × Int × ByteArray × Int × Int × (List Int) × Int × (List Int)) : Tr (Pk) := .ret ⟨[.tup [.agg [.v (.int .i64 (r.1)), .v (.int .i64 (r.2.1)), .v (.int .i64 (r.2.2.1))], .v (.int .i64 (r.2.2.2.1))]], [some (.var (.agg [.v (.string (r.2.2.2.2.1)), .v (.int .i64 (r.2.2.2.2.2.1)), .v (.int .i64 (r.2.2.2.2.2.2.1))])), some (.var (.agg [.arr (Ty.int IntKind.i64) 16 (r.2.2.2.2.2.2.2.1), .sl 2 (none), .v (.int .i64 (r.2.2.2.2.2.2.2.2.1))])), some (.row (Ty.int IntKind.i64) 3 (r.2.2.2.2.2.2.2.2.2))]⟩

noncomputable def D53 : Pk → Option (Int × Int × Int × Int × ByteArray × Int × Int × (List Int) × Int × (List Int))
  | ⟨[.tup [.agg [.v (.int .i64 x0), .v (.int .i64 x1), .v (.int .i64 x2)], .v (.int .i64 x3)]], [some (.var (.agg [.v (.string x4), .v (.int .i64 x5), .v (.int .i64 x6)])), some (.var (.agg [.arr (Ty.int IntKind.i64) 16 x7, .sl 2 (none), .v (.int .i64 x8)])), some (.row (Ty.int IntKind.i64) 3 x9)]⟩ => some ((x0, x1, x2, x3, x4, x5, x6, x7, x8, x9))
  | _ => none

theorem D53_ok : ∀ y r, D53 y = some r → ∀ z, (O53 r).to z → y = z := by
  intro y r h
  unfold D53 at h
  split at h <;> first | (cases h; intro z hz; exact Option.some.inj hz) | cases h

noncomputable def F53 (N : Nat) : (Int × ByteArray × Int × Int × (List Int) × Int × (List Int)) → Option (Int × Int × Int × Int × ByteArray × Int × Int × (List Int) × Int × (List Int))
  | (x0, x1, x2, x3, x4, x5, x6) =>
  iteP (decide (x0 > (285 : Int))) (
    some (((0 : Int), (0 : Int), (0 : Int), (3 : Int), x1, x2, x3, x4, x5, x6))) (
    Option.bind (F68a N (x0, x1, x2, x3)) fun y0 =>
    iteP (Prod.fst (Prod.snd y0) != (0 : Int)) (
      some (((0 : Int), (0 : Int), (0 : Int), Prod.fst (Prod.snd y0), Prod.fst (Prod.snd (Prod.snd y0)), Prod.fst (Prod.snd (Prod.snd (Prod.snd y0))), Prod.snd (Prod.snd (Prod.snd (Prod.snd y0))), x4, x5, x6))) (
      Option.bind (F23 N (x4, x5, Prod.fst (Prod.snd (Prod.snd y0)), Prod.fst (Prod.snd (Prod.snd (Prod.snd y0))), Prod.snd (Prod.snd (Prod.snd (Prod.snd y0))), x6)) fun y1 =>
      iteP (Prod.fst (Prod.snd y1) != (0 : Int)) (
        some (((0 : Int), (0 : Int), (0 : Int), Prod.fst (Prod.snd y1), Prod.fst (Prod.snd (Prod.snd (Prod.snd (Prod.snd y1)))), Prod.fst (Prod.snd (Prod.snd (Prod.snd (Prod.snd (Prod.snd y1))))), Prod.fst (Prod.snd (Prod.snd (Prod.snd (Prod.snd (Prod.snd (Prod.snd y1)))))), Prod.fst (Prod.snd (Prod.snd y1)), Prod.fst (Prod.snd (Prod.snd (Prod.snd y1))), Prod.snd (Prod.snd (Prod.snd (Prod.snd (Prod.snd (Prod.snd (Prod.snd y1))))))))) (
        iteP (decide (Prod.fst y1 ≥ (30 : Int))) (
          some (((0 : Int), (0 : Int), (0 : Int), (3 : Int), Prod.fst (Prod.snd (Prod.snd (Prod.snd (Prod.snd y1)))), Prod.fst (Prod.snd (Prod.snd (Prod.snd (Prod.snd (Prod.snd y1))))), Prod.fst (Prod.snd (Prod.snd (Prod.snd (Prod.snd (Prod.snd (Prod.snd y1)))))), Prod.fst (Prod.snd (Prod.snd y1)), Prod.fst (Prod.snd (Prod.snd (Prod.snd y1))), Prod.snd (Prod.snd (Prod.snd (Prod.snd (Prod.snd (Prod.snd (Prod.snd y1))))))))) (
          Option.bind (F68b N (Prod.fst y1, Prod.fst (Prod.snd (Prod.snd (Prod.snd (Prod.snd y1)))), Prod.fst (Prod.snd (Prod.snd (Prod.snd (Prod.snd (Prod.snd y1))))), Prod.fst (Prod.snd (Prod.snd (Prod.snd (Prod.snd (Prod.snd (Prod.snd y1)))))))) fun y2 =>
          some (((0 : Int), Prod.fst y0, Prod.fst y2, Prod.fst (Prod.snd y2), Prod.fst (Prod.snd (Prod.snd y2)), Prod.fst (Prod.snd (Prod.snd (Prod.snd y2))), Prod.snd (Prod.snd (Prod.snd (Prod.snd y2))), Prod.fst (Prod.snd (Prod.snd y1)), Prod.fst (Prod.snd (Prod.snd (Prod.snd y1))), Prod.snd (Prod.snd (Prod.snd (Prod.snd (Prod.snd (Prod.snd (Prod.snd y1))))))))))))

theorem F53_eq (N : Nat) (x0 : Int) (x1 : ByteArray) (x2 : Int) (x3 : Int) (x4 : (List Int)) (x5 : Int) (x6 : (List Int)) : (fnEv (mkE Try.prog ownT (tab53 N) []) Try.f53 (J53 (x0, x1, x2, x3, x4, x5, x6))).run D53 = F53 N (x0, x1, x2, x3, x4, x5, x6) := by kernel_rfl

noncomputable def T53 (N : Nat) : Pk → Tr Pk := tell I53 (F53 N) O53

theorem T53_ok (N : Nat) : FOK Try.prog 53 (T53 N) :=
  (tell_ok (E := (mkE Try.prog ownT (tab53 N) [])) (mkE_ok mix (tab53_ok N)) Try.func53 (show Try.f53.body = some (bod Try.f53) by kernel_rfl) (by decide +kernel) (F := F53 N) I53_ok D53_ok (args := A53) (fun _ => by kernel_rfl) (fun _ => by show 3 ≤ Try.f53.ntmps; exact of_decide_eq_true (by kernel_rfl)) (cutsIn_ok trivial) (fun x => match x with | (x0, x1, x2, x3, x4, x5, x6) => F53_eq N x0 x1 x2 x3 x4 x5 x6))


end Go.Proofs.Ytpjkklailofkjaa.Am

set_option linter.unusedVariables false
set_option maxRecDepth 100000
namespace Go.Proofs.Ytpjkklailofkjaa.Am
open Go.Am

/-! ## f34: mirador/symbols.Read -/

noncomputable def I34 : Pk → Option ((List Int) × (List Int) × Int × ByteArray × Int × Int)
  | ⟨[.adr 0 [], .ro (.int .i64) x0, .ro (.int .i64) x1, .v (.int .i64 x2)], [some (.var (.agg [.v (.string x3), .v (.int .i64 x4), .v (.int .i64 x5)]))]⟩ => some (x0, x1, x2, x3, x4, x5)
  | _ => none

noncomputable def J34 (x : (List Int) × (List Int) × Int × ByteArray × Int × Int) : Pk := ⟨[.adr 0 [], .ro (.int .i64) (x.1), .ro (.int .i64) (x.2.1), .v (.int .i64 (x.2.2.1))], [some (.var (.agg [.v (.string (x.2.2.2.1)), .v (.int .i64 (x.2.2.2.2.1)), .v (.int .i64 (x.2.2.2.2.2))]))]⟩

theorem I34_ok : ∀ pk x, I34 pk = some x → pk = J34 x := by
  intro pk x h
  unfold I34 at h
  split at h <;> first | (cases h; rfl) | cases h

noncomputable def A34 : List TV := [.adr 0 []]

noncomputable def tab34 (N : Nat) : List (Nat × (Pk → Tr Pk)) := [(20, T20 N), (23, T23 N), (53, T53 N)]

theorem tab34_ok (N : Nat) : TabOK Try.prog (tab34 N) := ⟨T20_ok N, ⟨T23_ok N, ⟨T53_ok N, trivial⟩⟩⟩

def X34_254 : Ex → List Nat
  | .ret => [8, 9]
  | .exit 0 => [8, 9]
  | _ => []

noncomputable def I34_254 : Pk → Option (Int × Int × ByteArray × Int × Int × (List (Int × (Int × (Int × Unit)))))
  | ⟨[.sl 1 (none), .v ((Value.pointer none)), .adr 0 [], .v ((Value.pointer none)), .v (.int .i64 x0), .v (.int .i64 x1)], [some (.var (.agg [.v (.string x2), .v (.int .i64 x3), .v (.int .i64 x4)])), some (.row (Ty.cons (Ty.int IntKind.i64) (Ty.cons (Ty.int IntKind.i64) (Ty.cons (Ty.int IntKind.i64) Ty.unit))) 63 x5)]⟩ => some (x0, x1, x2, x3, x4, x5)
  | _ => none

noncomputable def J34_254 (x : Int × Int × ByteArray × Int × Int × (List (Int × (Int × (Int × Unit))))) : Pk := ⟨[.sl 1 (none), .v ((Value.pointer none)), .adr 0 [], .v ((Value.pointer none)), .v (.int .i64 (x.1)), .v (.int .i64 (x.2.1))], [some (.var (.agg [.v (.string (x.2.2.1)), .v (.int .i64 (x.2.2.2.1)), .v (.int .i64 (x.2.2.2.2.1))])), some (.row (Ty.cons (Ty.int IntKind.i64) (Ty.cons (Ty.int IntKind.i64) (Ty.cons (Ty.int IntKind.i64) Ty.unit))) 63 (x.2.2.2.2.2))]⟩

theorem I34_254_ok : ∀ pk x, I34_254 pk = some x → pk = J34_254 x := by
  intro pk x h
  unfold I34_254 at h
  split at h <;> first | (cases h; rfl) | cases h

noncomputable def O34_254 (r : Unit) : Tr (Ex × Pk) := .fail

noncomputable def D34_254 : Ex × Pk → Option (Unit)
  | _ => none

theorem D34_254_ok : ∀ y r, D34_254 y = some r → ∀ z, (O34_254 r).to z → y = z := by
  intro y r h
  unfold D34_254 at h
  split at h <;> first | (cases h; intro z hz; exact Option.some.inj hz) | cases h

noncomputable def B34_254 (N : Nat) (f : (Int × Int × ByteArray × Int × Int × (List (Int × (Int × (Int × Unit))))) → Option (Unit)) : (Int × Int × ByteArray × Int × Int × (List (Int × (Int × (Int × Unit))))) → Option (Unit)
  | (x0, x1, x2, x3, x4, x5) =>
  none

noncomputable def F34_254 (N : Nat) : Nat → (Int × Int × ByteArray × Int × Int × (List (Int × (Int × (Int × Unit))))) → Option (Unit)
  | 0, _ => none
  | k + 1, x => B34_254 N (F34_254 N k) x

noncomputable def C34_254 (N : Nat) (k : Nat) : Cut := ⟨[14, 10, 0, 12, 3, 15], X34_254, tellX I34_254 (F34_254 N k) O34_254⟩

theorem B34_254_eq (N : Nat) (f : (Int × Int × ByteArray × Int × Int × (List (Int × (Int × (Int × Unit))))) → Option (Unit)) (x0 : Int) (x1 : Int) (x2 : ByteArray) (x3 : Int) (x4 : Int) (x5 : (List (Int × (Int × (Int × Unit))))) : (roundEv (mkE Try.prog ownT (tab34 N) []) Try.f34.ntmps A34 (loopAt (bod Try.f34) 254) 254 ⟨[14, 10, 0, 12, 3, 15], X34_254, tellX I34_254 f O34_254⟩ (J34_254 (x0, x1, x2, x3, x4, x5))).run D34_254 = B34_254 N f (x0, x1, x2, x3, x4, x5) := by kernel_rfl

theorem C34_254_ok (N : Nat) (k : Nat) : ∀ c', At (bod Try.f34) 254 c' → CutOK Try.prog Try.f34.ntmps (idsL A34) c' (C34_254 N k) :=
  loop_ok (E := (mkE Try.prog ownT (tab34 N) [])) (mkE_ok mix (tab34_ok N)) (cutsIn_ok trivial) (fuel := 200) (by decide +kernel) (by kernel_rfl) I34_254_ok D34_254_ok (B34_254 N) (F34_254 N) (fun _ => rfl) (fun _ _ => rfl) (fun f x => match x with | (x0, x1, x2, x3, x4, x5) => B34_254_eq N f x0 x1 x2 x3 x4 x5) k

noncomputable def I34_254b : Pk → Option (Int × Int × ByteArray × Int × Int × (List (Int × (Int × (Int × Unit)))) × (List Int) × Int × (List Int))
  | ⟨[.sl 1 (none), .v ((Value.pointer none)), .adr 0 [], .adr 2 [], .v (.int .i64 x0), .v (.int .i64 x1)], [some (.var (.agg [.v (.string x2), .v (.int .i64 x3), .v (.int .i64 x4)])), some (.row (Ty.cons (Ty.int IntKind.i64) (Ty.cons (Ty.int IntKind.i64) (Ty.cons (Ty.int IntKind.i64) Ty.unit))) 63 x5), some (.var (.agg [.arr (Ty.int IntKind.i64) 16 x6, .sl 3 (none), .v (.int .i64 x7)])), some (.row (Ty.int IntKind.i64) 3 x8)]⟩ => some (x0, x1, x2, x3, x4, x5, x6, x7, x8)
  | _ => none

noncomputable def J34_254b (x : Int × Int × ByteArray × Int × Int × (List (Int × (Int × (Int × Unit)))) × (List Int) × Int × (List Int)) : Pk := ⟨[.sl 1 (none), .v ((Value.pointer none)), .adr 0 [], .adr 2 [], .v (.int .i64 (x.1)), .v (.int .i64 (x.2.1))], [some (.var (.agg [.v (.string (x.2.2.1)), .v (.int .i64 (x.2.2.2.1)), .v (.int .i64 (x.2.2.2.2.1))])), some (.row (Ty.cons (Ty.int IntKind.i64) (Ty.cons (Ty.int IntKind.i64) (Ty.cons (Ty.int IntKind.i64) Ty.unit))) 63 (x.2.2.2.2.2.1)), some (.var (.agg [.arr (Ty.int IntKind.i64) 16 (x.2.2.2.2.2.2.1), .sl 3 (none), .v (.int .i64 (x.2.2.2.2.2.2.2.1))])), some (.row (Ty.int IntKind.i64) 3 (x.2.2.2.2.2.2.2.2))]⟩

theorem I34_254b_ok : ∀ pk x, I34_254b pk = some x → pk = J34_254b x := by
  intro pk x h
  unfold I34_254b at h
  split at h <;> first | (cases h; rfl) | cases h

noncomputable def O34_254b (r : Unit) : Tr (Ex × Pk) := .fail

noncomputable def D34_254b : Ex × Pk → Option (Unit)
  | _ => none

theorem D34_254b_ok : ∀ y r, D34_254b y = some r → ∀ z, (O34_254b r).to z → y = z := by
  intro y r h
  unfold D34_254b at h
  split at h <;> first | (cases h; intro z hz; exact Option.some.inj hz) | cases h

noncomputable def B34_254b (N : Nat) (f : (Int × Int × ByteArray × Int × Int × (List (Int × (Int × (Int × Unit)))) × (List Int) × Int × (List Int)) → Option (Unit)) : (Int × Int × ByteArray × Int × Int × (List (Int × (Int × (Int × Unit)))) × (List Int) × Int × (List Int)) → Option (Unit)
  | (x0, x1, x2, x3, x4, x5, x6, x7, x8) =>
  none

noncomputable def F34_254b (N : Nat) : Nat → (Int × Int × ByteArray × Int × Int × (List (Int × (Int × (Int × Unit)))) × (List Int) × Int × (List Int)) → Option (Unit)
  | 0, _ => none
  | k + 1, x => B34_254b N (F34_254b N k) x

noncomputable def C34_254b (N : Nat) (k : Nat) : Cut := ⟨[14, 10, 0, 12, 3, 15], X34_254, tellX I34_254b (F34_254b N k) O34_254b⟩

theorem B34_254b_eq (N : Nat) (f : (Int × Int × ByteArray × Int × Int × (List (Int × (Int × (Int × Unit)))) × (List Int) × Int × (List Int)) → Option (Unit)) (x0 : Int) (x1 : Int) (x2 : ByteArray) (x3 : Int) (x4 : Int) (x5 : (List (Int × (Int × (Int × Unit))))) (x6 : (List Int)) (x7 : Int) (x8 : (List Int)) : (roundEv (mkE Try.prog ownT (tab34 N) [(254, (C34_254 N N))]) Try.f34.ntmps A34 (loopAt (bod Try.f34) 254) 254 ⟨[14, 10, 0, 12, 3, 15], X34_254, tellX I34_254b f O34_254b⟩ (J34_254b (x0, x1, x2, x3, x4, x5, x6, x7, x8))).run D34_254b = B34_254b N f (x0, x1, x2, x3, x4, x5, x6, x7, x8) := by kernel_rfl

theorem C34_254b_ok (N : Nat) (k : Nat) : ∀ c', At (bod Try.f34) 254 c' → CutOK Try.prog Try.f34.ntmps (idsL A34) c' (C34_254b N k) :=
  loop_ok (E := (mkE Try.prog ownT (tab34 N) [(254, (C34_254 N N))])) (mkE_ok mix (tab34_ok N)) (cutsIn_ok ⟨fun c' h => (C34_254_ok N N c' h), trivial⟩) (fuel := 200) (by decide +kernel) (by kernel_rfl) I34_254b_ok D34_254b_ok (B34_254b N) (F34_254b N) (fun _ => rfl) (fun _ _ => rfl) (fun f x => match x with | (x0, x1, x2, x3, x4, x5, x6, x7, x8) => B34_254b_eq N f x0 x1 x2 x3 x4 x5 x6 x7 x8) k

noncomputable def I34_254c : Pk → Option (Int × Int × ByteArray × Int × Int × (List (Int × (Int × (Int × Unit)))) × (List Int) × Int × (List Int))
  | ⟨[.sl 1 (none), .adr 2 [], .adr 0 [], .v ((Value.pointer none)), .v (.int .i64 x0), .v (.int .i64 x1)], [some (.var (.agg [.v (.string x2), .v (.int .i64 x3), .v (.int .i64 x4)])), some (.row (Ty.cons (Ty.int IntKind.i64) (Ty.cons (Ty.int IntKind.i64) (Ty.cons (Ty.int IntKind.i64) Ty.unit))) 63 x5), some (.var (.agg [.arr (Ty.int IntKind.i64) 16 x6, .sl 3 (none), .v (.int .i64 x7)])), some (.row (Ty.int IntKind.i64) 3 x8)]⟩ => some (x0, x1, x2, x3, x4, x5, x6, x7, x8)
  | _ => none

noncomputable def J34_254c (x : Int × Int × ByteArray × Int × Int × (List (Int × (Int × (Int × Unit)))) × (List Int) × Int × (List Int)) : Pk := ⟨[.sl 1 (none), .adr 2 [], .adr 0 [], .v ((Value.pointer none)), .v (.int .i64 (x.1)), .v (.int .i64 (x.2.1))], [some (.var (.agg [.v (.string (x.2.2.1)), .v (.int .i64 (x.2.2.2.1)), .v (.int .i64 (x.2.2.2.2.1))])), some (.row (Ty.cons (Ty.int IntKind.i64) (Ty.cons (Ty.int IntKind.i64) (Ty.cons (Ty.int IntKind.i64) Ty.unit))) 63 (x.2.2.2.2.2.1)), some (.var (.agg [.arr (Ty.int IntKind.i64) 16 (x.2.2.2.2.2.2.1), .sl 3 (none), .v (.int .i64 (x.2.2.2.2.2.2.2.1))])), some (.row (Ty.int IntKind.i64) 3 (x.2.2.2.2.2.2.2.2))]⟩

theorem I34_254c_ok : ∀ pk x, I34_254c pk = some x → pk = J34_254c x := by
  intro pk x h
  unfold I34_254c at h
  split at h <;> first | (cases h; rfl) | cases h

noncomputable def O34_254c (r : Int × ByteArray × Int × Int × (List (Int × (Int × (Int × Unit))))) : Tr (Ex × Pk) := .ret (.ret, ⟨[.sl 1 (none), .v (.int .i64 (r.1))], [some (.var (.agg [.v (.string (r.2.1)), .v (.int .i64 (r.2.2.1)), .v (.int .i64 (r.2.2.2.1))])), some (.row (Ty.cons (Ty.int IntKind.i64) (Ty.cons (Ty.int IntKind.i64) (Ty.cons (Ty.int IntKind.i64) Ty.unit))) 63 (r.2.2.2.2))]⟩)

noncomputable def D34_254c : Ex × Pk → Option (Int × ByteArray × Int × Int × (List (Int × (Int × (Int × Unit)))))
  | (.ret, ⟨[.sl 1 (none), .v (.int .i64 x0)], [some (.var (.agg [.v (.string x1), .v (.int .i64 x2), .v (.int .i64 x3)])), some (.row (Ty.cons (Ty.int IntKind.i64) (Ty.cons (Ty.int IntKind.i64) (Ty.cons (Ty.int IntKind.i64) Ty.unit))) 63 x4)]⟩) => some ((x0, x1, x2, x3, x4))
  | _ => none

theorem D34_254c_ok : ∀ y r, D34_254c y = some r → ∀ z, (O34_254c r).to z → y = z := by
  intro y r h
  unfold D34_254c at h
  split at h <;> first | (cases h; intro z hz; exact Option.some.inj hz) | cases h

noncomputable def B34_254c (N : Nat) (f : (Int × Int × ByteArray × Int × Int × (List (Int × (Int × (Int × Unit)))) × (List Int) × Int × (List Int)) → Option (Int × ByteArray × Int × Int × (List (Int × (Int × (Int × Unit)))))) : (Int × Int × ByteArray × Int × Int × (List (Int × (Int × (Int × Unit)))) × (List Int) × Int × (List Int)) → Option (Int × ByteArray × Int × Int × (List (Int × (Int × (Int × Unit)))))
  | (x0, x1, x2, x3, x4, x5, x6, x7, x8) =>
  Option.bind (F23 N (x6, x7, x2, x3, x4, x8)) fun y0 =>
  iteP (Prod.fst (Prod.snd y0) != (0 : Int)) (
    some ((Prod.fst (Prod.snd y0), Prod.fst (Prod.snd (Prod.snd (Prod.snd (Prod.snd y0)))), Prod.fst (Prod.snd (Prod.snd (Prod.snd (Prod.snd (Prod.snd y0))))), Prod.fst (Prod.snd (Prod.snd (Prod.snd (Prod.snd (Prod.snd (Prod.snd y0)))))), []))) (
    iteP (Prod.fst y0 == (256 : Int)) (
      some (((0 : Int), Prod.fst (Prod.snd (Prod.snd (Prod.snd (Prod.snd y0)))), Prod.fst (Prod.snd (Prod.snd (Prod.snd (Prod.snd (Prod.snd y0))))), Prod.fst (Prod.snd (Prod.snd (Prod.snd (Prod.snd (Prod.snd (Prod.snd y0)))))), x5))) (
      iteP (decide (Prod.fst y0 > (256 : Int))) (
        none) (
        iteP (decide (IntKind.wrap IntKind.i64 (x1 + (1 : Int)) > x0)) (
          some (((4 : Int), Prod.fst (Prod.snd (Prod.snd (Prod.snd (Prod.snd y0)))), Prod.fst (Prod.snd (Prod.snd (Prod.snd (Prod.snd (Prod.snd y0))))), Prod.fst (Prod.snd (Prod.snd (Prod.snd (Prod.snd (Prod.snd (Prod.snd y0)))))), []))) (
          iteP (decide ((List.length x5 + List.length [(Prod.fst y0, (0 : Int), (0 : Int), ())]) * (24 : Nat) ≤ (140737488355328 : Nat) ∧ List.length x5 + List.length [(Prod.fst y0, (0 : Int), (0 : Int), ())] ≤ (140737488355328 : Nat))) (
            Option.bind (f (x0, IntKind.wrap IntKind.i64 (x1 + (1 : Int)), Prod.fst (Prod.snd (Prod.snd (Prod.snd (Prod.snd y0)))), Prod.fst (Prod.snd (Prod.snd (Prod.snd (Prod.snd (Prod.snd y0))))), Prod.fst (Prod.snd (Prod.snd (Prod.snd (Prod.snd (Prod.snd (Prod.snd y0)))))), x5 ++ [(Prod.fst y0, (0 : Int), (0 : Int), ())], Prod.fst (Prod.snd (Prod.snd y0)), Prod.fst (Prod.snd (Prod.snd (Prod.snd y0))), Prod.snd (Prod.snd (Prod.snd (Prod.snd (Prod.snd (Prod.snd (Prod.snd y0)))))))) fun r => some r) (
            none)))))

noncomputable def F34_254c (N : Nat) : Nat → (Int × Int × ByteArray × Int × Int × (List (Int × (Int × (Int × Unit)))) × (List Int) × Int × (List Int)) → Option (Int × ByteArray × Int × Int × (List (Int × (Int × (Int × Unit)))))
  | 0, _ => none
  | k + 1, x => B34_254c N (F34_254c N k) x

noncomputable def C34_254c (N : Nat) (k : Nat) : Cut := ⟨[14, 10, 0, 12, 3, 15], X34_254, tellX I34_254c (F34_254c N k) O34_254c⟩

theorem B34_254c_eq (N : Nat) (f : (Int × Int × ByteArray × Int × Int × (List (Int × (Int × (Int × Unit)))) × (List Int) × Int × (List Int)) → Option (Int × ByteArray × Int × Int × (List (Int × (Int × (Int × Unit)))))) (x0 : Int) (x1 : Int) (x2 : ByteArray) (x3 : Int) (x4 : Int) (x5 : (List (Int × (Int × (Int × Unit))))) (x6 : (List Int)) (x7 : Int) (x8 : (List Int)) : (roundEv (mkE Try.prog ownT (tab34 N) [(254, (orC I34_254 (C34_254 N N) (C34_254b N N)))]) Try.f34.ntmps A34 (loopAt (bod Try.f34) 254) 254 ⟨[14, 10, 0, 12, 3, 15], X34_254, tellX I34_254c f O34_254c⟩ (J34_254c (x0, x1, x2, x3, x4, x5, x6, x7, x8))).run D34_254c = B34_254c N f (x0, x1, x2, x3, x4, x5, x6, x7, x8) := by kernel_rfl

theorem C34_254c_ok (N : Nat) (k : Nat) : ∀ c', At (bod Try.f34) 254 c' → CutOK Try.prog Try.f34.ntmps (idsL A34) c' (C34_254c N k) :=
  loop_ok (E := (mkE Try.prog ownT (tab34 N) [(254, (orC I34_254 (C34_254 N N) (C34_254b N N)))])) (mkE_ok mix (tab34_ok N)) (cutsIn_ok ⟨fun c' h => (orC_ok (C34_254_ok N N c' h) (C34_254b_ok N N c' h) rfl rfl), trivial⟩) (fuel := 200) (by decide +kernel) (by kernel_rfl) I34_254c_ok D34_254c_ok (B34_254c N) (F34_254c N) (fun _ => rfl) (fun _ _ => rfl) (fun f x => match x with | (x0, x1, x2, x3, x4, x5, x6, x7, x8) => B34_254c_eq N f x0 x1 x2 x3 x4 x5 x6 x7 x8) k

noncomputable def I34_254d : Pk → Option (Int × Int × ByteArray × Int × Int × (List (Int × (Int × (Int × Unit)))) × (List Int) × Int × (List Int) × Int × (List Int) × (List Int))
  | ⟨[.sl 1 (none), .adr 2 [], .adr 0 [], .adr 3 [], .v (.int .i64 x0), .v (.int .i64 x1)], [some (.var (.agg [.v (.string x2), .v (.int .i64 x3), .v (.int .i64 x4)])), some (.row (Ty.cons (Ty.int IntKind.i64) (Ty.cons (Ty.int IntKind.i64) (Ty.cons (Ty.int IntKind.i64) Ty.unit))) 63 x5), some (.var (.agg [.arr (Ty.int IntKind.i64) 16 x6, .sl 4 (none), .v (.int .i64 x7)])), some (.var (.agg [.arr (Ty.int IntKind.i64) 16 x8, .sl 5 (none), .v (.int .i64 x9)])), some (.row (Ty.int IntKind.i64) 3 x10), some (.row (Ty.int IntKind.i64) 3 x11)]⟩ => some (x0, x1, x2, x3, x4, x5, x6, x7, x8, x9, x10, x11)
  | _ => none

noncomputable def J34_254d (x : Int × Int × ByteArray × Int × Int × (List (Int × (Int × (Int × Unit)))) × (List Int) × Int × (List Int) × Int × (List Int) × (List Int)) : Pk := ⟨[.sl 1 (none), .adr 2 [], .adr 0 [], .adr 3 [], .v (.int .i64 (x.1)), .v (.int .i64 (x.2.1))], [some (.var (.agg [.v (.string (x.2.2.1)), .v (.int .i64 (x.2.2.2.1)), .v (.int .i64 (x.2.2.2.2.1))])), some (.row (Ty.cons (Ty.int IntKind.i64) (Ty.cons (Ty.int IntKind.i64) (Ty.cons (Ty.int IntKind.i64) Ty.unit))) 63 (x.2.2.2.2.2.1)), some (.var (.agg [.arr (Ty.int IntKind.i64) 16 (x.2.2.2.2.2.2.1), .sl 4 (none), .v (.int .i64 (x.2.2.2.2.2.2.2.1))])), some (.var (.agg [.arr (Ty.int IntKind.i64) 16 (x.2.2.2.2.2.2.2.2.1), .sl 5 (none), .v (.int .i64 (x.2.2.2.2.2.2.2.2.2.1))])), some (.row (Ty.int IntKind.i64) 3 (x.2.2.2.2.2.2.2.2.2.2.1)), some (.row (Ty.int IntKind.i64) 3 (x.2.2.2.2.2.2.2.2.2.2.2))]⟩

theorem I34_254d_ok : ∀ pk x, I34_254d pk = some x → pk = J34_254d x := by
  intro pk x h
  unfold I34_254d at h
  split at h <;> first | (cases h; rfl) | cases h

noncomputable def O34_254d (r : Int × ByteArray × Int × Int × (List (Int × (Int × (Int × Unit))))) : Tr (Ex × Pk) := .ret (.ret, ⟨[.sl 1 (none), .v (.int .i64 (r.1))], [some (.var (.agg [.v (.string (r.2.1)), .v (.int .i64 (r.2.2.1)), .v (.int .i64 (r.2.2.2.1))])), some (.row (Ty.cons (Ty.int IntKind.i64) (Ty.cons (Ty.int IntKind.i64) (Ty.cons (Ty.int IntKind.i64) Ty.unit))) 63 (r.2.2.2.2))]⟩)

noncomputable def D34_254d : Ex × Pk → Option (Int × ByteArray × Int × Int × (List (Int × (Int × (Int × Unit)))))
  | (.ret, ⟨[.sl 1 (none), .v (.int .i64 x0)], [some (.var (.agg [.v (.string x1), .v (.int .i64 x2), .v (.int .i64 x3)])), some (.row (Ty.cons (Ty.int IntKind.i64) (Ty.cons (Ty.int IntKind.i64) (Ty.cons (Ty.int IntKind.i64) Ty.unit))) 63 x4)]⟩) => some ((x0, x1, x2, x3, x4))
  | _ => none

theorem D34_254d_ok : ∀ y r, D34_254d y = some r → ∀ z, (O34_254d r).to z → y = z := by
  intro y r h
  unfold D34_254d at h
  split at h <;> first | (cases h; intro z hz; exact Option.some.inj hz) | cases h

noncomputable def B34_254d (N : Nat) (f : (Int × Int × ByteArray × Int × Int × (List (Int × (Int × (Int × Unit)))) × (List Int) × Int × (List Int) × Int × (List Int) × (List Int)) → Option (Int × ByteArray × Int × Int × (List (Int × (Int × (Int × Unit)))))) : (Int × Int × ByteArray × Int × Int × (List (Int × (Int × (Int × Unit)))) × (List Int) × Int × (List Int) × Int × (List Int) × (List Int)) → Option (Int × ByteArray × Int × Int × (List (Int × (Int × (Int × Unit)))))
  | (x0, x1, x2, x3, x4, x5, x6, x7, x8, x9, x10, x11) =>
  Option.bind (F23 N (x6, x7, x2, x3, x4, x10)) fun y0 =>
  iteP (Prod.fst (Prod.snd y0) != (0 : Int)) (
    some ((Prod.fst (Prod.snd y0), Prod.fst (Prod.snd (Prod.snd (Prod.snd (Prod.snd y0)))), Prod.fst (Prod.snd (Prod.snd (Prod.snd (Prod.snd (Prod.snd y0))))), Prod.fst (Prod.snd (Prod.snd (Prod.snd (Prod.snd (Prod.snd (Prod.snd y0)))))), []))) (
    iteP (Prod.fst y0 == (256 : Int)) (
      some (((0 : Int), Prod.fst (Prod.snd (Prod.snd (Prod.snd (Prod.snd y0)))), Prod.fst (Prod.snd (Prod.snd (Prod.snd (Prod.snd (Prod.snd y0))))), Prod.fst (Prod.snd (Prod.snd (Prod.snd (Prod.snd (Prod.snd (Prod.snd y0)))))), x5))) (
      iteP (decide (Prod.fst y0 > (256 : Int))) (
        Option.bind (F53 N (Prod.fst y0, Prod.fst (Prod.snd (Prod.snd (Prod.snd (Prod.snd y0)))), Prod.fst (Prod.snd (Prod.snd (Prod.snd (Prod.snd (Prod.snd y0))))), Prod.fst (Prod.snd (Prod.snd (Prod.snd (Prod.snd (Prod.snd (Prod.snd y0)))))), x8, x9, x11)) fun y1 =>
        iteP (Prod.fst (Prod.snd (Prod.snd (Prod.snd y1))) != (0 : Int)) (
          some ((Prod.fst (Prod.snd (Prod.snd (Prod.snd y1))), Prod.fst (Prod.snd (Prod.snd (Prod.snd (Prod.snd y1)))), Prod.fst (Prod.snd (Prod.snd (Prod.snd (Prod.snd (Prod.snd y1))))), Prod.fst (Prod.snd (Prod.snd (Prod.snd (Prod.snd (Prod.snd (Prod.snd y1)))))), []))) (
          iteP (decide (IntKind.wrap IntKind.i64 (x1 + if (1 : Int) > Prod.fst (Prod.snd y1) then (1 : Int) else Prod.fst (Prod.snd y1)) > x0)) (
            some (((4 : Int), Prod.fst (Prod.snd (Prod.snd (Prod.snd (Prod.snd y1)))), Prod.fst (Prod.snd (Prod.snd (Prod.snd (Prod.snd (Prod.snd y1))))), Prod.fst (Prod.snd (Prod.snd (Prod.snd (Prod.snd (Prod.snd (Prod.snd y1)))))), []))) (
            iteP (decide ((List.length x5 + List.length [(Prod.fst y1, Prod.fst (Prod.snd y1), Prod.fst (Prod.snd (Prod.snd y1)), ())]) * (24 : Nat) ≤ (140737488355328 : Nat) ∧ List.length x5 + List.length [(Prod.fst y1, Prod.fst (Prod.snd y1), Prod.fst (Prod.snd (Prod.snd y1)), ())] ≤ (140737488355328 : Nat))) (
              Option.bind (f (x0, IntKind.wrap IntKind.i64 (x1 + if (1 : Int) > Prod.fst (Prod.snd y1) then (1 : Int) else Prod.fst (Prod.snd y1)), Prod.fst (Prod.snd (Prod.snd (Prod.snd (Prod.snd y1)))), Prod.fst (Prod.snd (Prod.snd (Prod.snd (Prod.snd (Prod.snd y1))))), Prod.fst (Prod.snd (Prod.snd (Prod.snd (Prod.snd (Prod.snd (Prod.snd y1)))))), x5 ++ [(Prod.fst y1, Prod.fst (Prod.snd y1), Prod.fst (Prod.snd (Prod.snd y1)), ())], Prod.fst (Prod.snd (Prod.snd y0)), Prod.fst (Prod.snd (Prod.snd (Prod.snd y0))), Prod.fst (Prod.snd (Prod.snd (Prod.snd (Prod.snd (Prod.snd (Prod.snd (Prod.snd y1))))))), Prod.fst (Prod.snd (Prod.snd (Prod.snd (Prod.snd (Prod.snd (Prod.snd (Prod.snd (Prod.snd y1)))))))), Prod.snd (Prod.snd (Prod.snd (Prod.snd (Prod.snd (Prod.snd (Prod.snd y0)))))), Prod.snd (Prod.snd (Prod.snd (Prod.snd (Prod.snd (Prod.snd (Prod.snd (Prod.snd (Prod.snd y1)))))))))) fun r => some r) (
              none)))) (
        iteP (decide (IntKind.wrap IntKind.i64 (x1 + (1 : Int)) > x0)) (
          some (((4 : Int), Prod.fst (Prod.snd (Prod.snd (Prod.snd (Prod.snd y0)))), Prod.fst (Prod.snd (Prod.snd (Prod.snd (Prod.snd (Prod.snd y0))))), Prod.fst (Prod.snd (Prod.snd (Prod.snd (Prod.snd (Prod.snd (Prod.snd y0)))))), []))) (
          iteP (decide ((List.length x5 + List.length [(Prod.fst y0, (0 : Int), (0 : Int), ())]) * (24 : Nat) ≤ (140737488355328 : Nat) ∧ List.length x5 + List.length [(Prod.fst y0, (0 : Int), (0 : Int), ())] ≤ (140737488355328 : Nat))) (
            Option.bind (f (x0, IntKind.wrap IntKind.i64 (x1 + (1 : Int)), Prod.fst (Prod.snd (Prod.snd (Prod.snd (Prod.snd y0)))), Prod.fst (Prod.snd (Prod.snd (Prod.snd (Prod.snd (Prod.snd y0))))), Prod.fst (Prod.snd (Prod.snd (Prod.snd (Prod.snd (Prod.snd (Prod.snd y0)))))), x5 ++ [(Prod.fst y0, (0 : Int), (0 : Int), ())], Prod.fst (Prod.snd (Prod.snd y0)), Prod.fst (Prod.snd (Prod.snd (Prod.snd y0))), x8, x9, Prod.snd (Prod.snd (Prod.snd (Prod.snd (Prod.snd (Prod.snd (Prod.snd y0)))))), x11)) fun r => some r) (
            none)))))

noncomputable def F34_254d (N : Nat) : Nat → (Int × Int × ByteArray × Int × Int × (List (Int × (Int × (Int × Unit)))) × (List Int) × Int × (List Int) × Int × (List Int) × (List Int)) → Option (Int × ByteArray × Int × Int × (List (Int × (Int × (Int × Unit)))))
  | 0, _ => none
  | k + 1, x => B34_254d N (F34_254d N k) x

noncomputable def C34_254d (N : Nat) (k : Nat) : Cut := ⟨[14, 10, 0, 12, 3, 15], X34_254, tellX I34_254d (F34_254d N k) O34_254d⟩

theorem B34_254d_eq (N : Nat) (f : (Int × Int × ByteArray × Int × Int × (List (Int × (Int × (Int × Unit)))) × (List Int) × Int × (List Int) × Int × (List Int) × (List Int)) → Option (Int × ByteArray × Int × Int × (List (Int × (Int × (Int × Unit)))))) (x0 : Int) (x1 : Int) (x2 : ByteArray) (x3 : Int) (x4 : Int) (x5 : (List (Int × (Int × (Int × Unit))))) (x6 : (List Int)) (x7 : Int) (x8 : (List Int)) (x9 : Int) (x10 : (List Int)) (x11 : (List Int)) : (roundEv (mkE Try.prog ownT (tab34 N) [(254, (orC I34_254 (C34_254 N N) (orC I34_254b (C34_254b N N) (C34_254c N N))))]) Try.f34.ntmps A34 (loopAt (bod Try.f34) 254) 254 ⟨[14, 10, 0, 12, 3, 15], X34_254, tellX I34_254d f O34_254d⟩ (J34_254d (x0, x1, x2, x3, x4, x5, x6, x7, x8, x9, x10, x11))).run D34_254d = B34_254d N f (x0, x1, x2, x3, x4, x5, x6, x7, x8, x9, x10, x11) := by kernel_rfl

theorem C34_254d_ok (N : Nat) (k : Nat) : ∀ c', At (bod Try.f34) 254 c' → CutOK Try.prog Try.f34.ntmps (idsL A34) c' (C34_254d N k) :=
  loop_ok (E := (mkE Try.prog ownT (tab34 N) [(254, (orC I34_254 (C34_254 N N) (orC I34_254b (C34_254b N N) (C34_254c N N))))])) (mkE_ok mix (tab34_ok N)) (cutsIn_ok ⟨fun c' h => (orC_ok (C34_254_ok N N c' h) (orC_ok (C34_254b_ok N N c' h) (C34_254c_ok N N c' h) rfl rfl) rfl rfl), trivial⟩) (fuel := 200) (by decide +kernel) (by kernel_rfl) I34_254d_ok D34_254d_ok (B34_254d N) (F34_254d N) (fun _ => rfl) (fun _ _ => rfl) (fun f x => match x with | (x0, x1, x2, x3, x4, x5, x6, x7, x8, x9, x10, x11) => B34_254d_eq N f x0 x1 x2 x3 x4 x5 x6 x7 x8 x9 x10 x11) k

noncomputable def O34 (r : Int × ByteArray × Int × Int × (List (Int × (Int × (Int × Unit))))) : Tr (Pk) := .ret ⟨[.tup [.sl 1 (none), .v (.int .i64 (r.1))]], [some (.var (.agg [.v (.string (r.2.1)), .v (.int .i64 (r.2.2.1)), .v (.int .i64 (r.2.2.2.1))])), some (.row (Ty.cons (Ty.int IntKind.i64) (Ty.cons (Ty.int IntKind.i64) (Ty.cons (Ty.int IntKind.i64) Ty.unit))) 63 (r.2.2.2.2))]⟩

noncomputable def D34 : Pk → Option (Int × ByteArray × Int × Int × (List (Int × (Int × (Int × Unit)))))
  | ⟨[.tup [.sl 1 (none), .v (.int .i64 x0)]], [some (.var (.agg [.v (.string x1), .v (.int .i64 x2), .v (.int .i64 x3)])), some (.row (Ty.cons (Ty.int IntKind.i64) (Ty.cons (Ty.int IntKind.i64) (Ty.cons (Ty.int IntKind.i64) Ty.unit))) 63 x4)]⟩ => some ((x0, x1, x2, x3, x4))
  | _ => none

theorem D34_ok : ∀ y r, D34 y = some r → ∀ z, (O34 r).to z → y = z := by
  intro y r h
  unfold D34 at h
  split at h <;> first | (cases h; intro z hz; exact Option.some.inj hz) | cases h

noncomputable def F34 (N : Nat) : ((List Int) × (List Int) × Int × ByteArray × Int × Int) → Option (Int × ByteArray × Int × Int × (List (Int × (Int × (Int × Unit)))))
  | (x0, x1, x2, x3, x4, x5) =>
  Option.bind (F20 N x0) fun y0 =>
  match y0 with
  | .inl y1 =>
    Option.bind (F20 N x1) fun y2 =>
    match y2 with
    | .inl y3 =>
      iteP (y1 != (0 : Int)) (
        some (((50 : Int), x3, x4, x5, []))) (
        iteP (y3 != (0 : Int)) (
          some (((50 : Int), x3, x4, x5, []))) (
          Option.bind (F34_254 N N (x2, (0 : Int), x3, x4, x5, [])) fun y4 =>
          none))
    | .inr y3 =>
      iteP (y1 != (0 : Int)) (
        some (((50 : Int), x3, x4, x5, []))) (
        iteP (Prod.fst y3 != (0 : Int)) (
          some (((50 : Int), x3, x4, x5, []))) (
          Option.bind (F34_254b N N (x2, (0 : Int), x3, x4, x5, [], Prod.fst (Prod.snd y3), Prod.fst (Prod.snd (Prod.snd y3)), Prod.snd (Prod.snd (Prod.snd y3)))) fun y5 =>
          none))
  | .inr y1 =>
    Option.bind (F20 N x1) fun y6 =>
    match y6 with
    | .inl y7 =>
      iteP (Prod.fst y1 != (0 : Int)) (
        some (((50 : Int), x3, x4, x5, []))) (
        iteP (y7 != (0 : Int)) (
          some (((50 : Int), x3, x4, x5, []))) (
          Option.bind (F34_254c N N (x2, (0 : Int), x3, x4, x5, [], Prod.fst (Prod.snd y1), Prod.fst (Prod.snd (Prod.snd y1)), Prod.snd (Prod.snd (Prod.snd y1)))) fun y8 =>
          some ((Prod.fst y8, Prod.fst (Prod.snd y8), Prod.fst (Prod.snd (Prod.snd y8)), Prod.fst (Prod.snd (Prod.snd (Prod.snd y8))), Prod.snd (Prod.snd (Prod.snd (Prod.snd y8)))))))
    | .inr y7 =>
      iteP (Prod.fst y1 != (0 : Int)) (
        some (((50 : Int), x3, x4, x5, []))) (
        iteP (Prod.fst y7 != (0 : Int)) (
          some (((50 : Int), x3, x4, x5, []))) (
          Option.bind (F34_254d N N (x2, (0 : Int), x3, x4, x5, [], Prod.fst (Prod.snd y1), Prod.fst (Prod.snd (Prod.snd y1)), Prod.fst (Prod.snd y7), Prod.fst (Prod.snd (Prod.snd y7)), Prod.snd (Prod.snd (Prod.snd y1)), Prod.snd (Prod.snd (Prod.snd y7)))) fun y9 =>
          some ((Prod.fst y9, Prod.fst (Prod.snd y9), Prod.fst (Prod.snd (Prod.snd y9)), Prod.fst (Prod.snd (Prod.snd (Prod.snd y9))), Prod.snd (Prod.snd (Prod.snd (Prod.snd y9)))))))

theorem F34_eq (N : Nat) (x0 : (List Int)) (x1 : (List Int)) (x2 : Int) (x3 : ByteArray) (x4 : Int) (x5 : Int) : (fnEv (mkE Try.prog ownT (tab34 N) [(254, (orC I34_254 (C34_254 N N) (orC I34_254b (C34_254b N N) (orC I34_254c (C34_254c N N) (C34_254d N N)))))]) Try.f34 (J34 (x0, x1, x2, x3, x4, x5))).run D34 = F34 N (x0, x1, x2, x3, x4, x5) := by kernel_rfl

noncomputable def T34 (N : Nat) : Pk → Tr Pk := tell I34 (F34 N) O34

theorem T34_ok (N : Nat) : FOK Try.prog 34 (T34 N) :=
  (tell_ok (E := (mkE Try.prog ownT (tab34 N) [(254, (orC I34_254 (C34_254 N N) (orC I34_254b (C34_254b N N) (orC I34_254c (C34_254c N N) (C34_254d N N)))))])) (mkE_ok mix (tab34_ok N)) Try.func34 (show Try.f34.body = some (bod Try.f34) by kernel_rfl) (by decide +kernel) (F := F34 N) I34_ok D34_ok (args := A34) (fun _ => by kernel_rfl) (fun _ => by show 4 ≤ Try.f34.ntmps; exact of_decide_eq_true (by kernel_rfl)) (cutsIn_ok ⟨fun c' h => (orC_ok (C34_254_ok N N c' h) (orC_ok (C34_254b_ok N N c' h) (orC_ok (C34_254c_ok N N c' h) (C34_254d_ok N N c' h) rfl rfl) rfl rfl) rfl rfl), trivial⟩) (fun x => match x with | (x0, x1, x2, x3, x4, x5) => F34_eq N x0 x1 x2 x3 x4 x5))

/-! ## f29: mirador/miradorlaw07.works -/

noncomputable def I29 : Pk → Option (Unit)
  | ⟨[], []⟩ => some ()
  | _ => none

noncomputable def J29 (x : Unit) : Pk := ⟨[], []⟩

theorem I29_ok : ∀ pk x, I29 pk = some x → pk = J29 x := by
  intro pk x h
  unfold I29 at h
  split at h <;> first | (cases h; rfl) | cases h

noncomputable def A29 : List TV := []

noncomputable def tab29 (N : Nat) : List (Nat × (Pk → Tr Pk)) := [(48, T48 N), (49, T49 N), (31, T31 N), (33, T33 N), (27, T27 N), (22, T22 N), (34, T34 N)]

theorem tab29_ok (N : Nat) : TabOK Try.prog (tab29 N) := ⟨T48_ok N, ⟨T49_ok N, ⟨T31_ok N, ⟨T33_ok N, ⟨T27_ok N, ⟨T22_ok N, ⟨T34_ok N, trivial⟩⟩⟩⟩⟩⟩⟩

noncomputable def O29 (r : Bool) : Tr (Pk) := .ret ⟨[.v (.bool (r))], []⟩

noncomputable def D29 : Pk → Option (Bool)
  | ⟨[.v (.bool x0)], []⟩ => some (x0)
  | _ => none

theorem D29_ok : ∀ y r, D29 y = some r → ∀ z, (O29 r).to z → y = z := by
  intro y r h
  unfold D29 at h
  split at h <;> first | (cases h; intro z hz; exact Option.some.inj hz) | cases h

noncomputable def F29 (N : Nat) : (Unit) → Option (Bool)
  | () =>
  Option.bind (F48 N (12 : Int)) fun y0 =>
  Option.bind (F49 N (24577 : Int)) fun y1 =>
  Option.bind (F31 N ()) fun y2 =>
  Option.bind (F33 N (Prod.fst y2, Prod.snd y2, [((97 : Int), (0 : Int), (0 : Int), ()), ((0 : Int), (3 : Int), (1 : Int), ())], (0 : Int), (0 : Int), [])) fun y3 =>
  Option.bind (F27 N (Prod.snd (Prod.snd (Prod.snd y3)), Prod.fst (Prod.snd y3), Prod.fst (Prod.snd (Prod.snd y3)), ())) fun y4 =>
  Option.bind (F22 N y4) fun y5 =>
  Option.bind (F34 N (Prod.fst y2, Prod.snd y2, (9 : Int), Prod.fst y5, Prod.fst (Prod.snd y5), Prod.snd (Prod.snd y5))) fun y6 =>
  iteP (Prod.fst y0 == (265 : Int)) (
    iteP (Prod.fst (Prod.snd y0) == (1 : Int)) (
      iteP (Prod.snd (Prod.snd y0) == (1 : Int)) (
        iteP (Prod.fst y1 == (29 : Int)) (
          iteP (Prod.fst (Prod.snd y1) == (0 : Int)) (
            iteP (Prod.snd (Prod.snd y1) == (13 : Int)) (
              iteP ((↑(List.length (Prod.fst y2)) : Int) == (288 : Int)) (
                iteP ((↑(List.length (Prod.snd y2)) : Int) == (30 : Int)) (
                  iteP (Prod.fst y3 == (0 : Int)) (
                    iteP (Prod.fst y6 == (0 : Int)) (
                      iteP ((↑(List.length (Prod.snd (Prod.snd (Prod.snd (Prod.snd y6))))) : Int) == (2 : Int)) (
                        iteP (within (1 : Int) (List.length (Prod.snd (Prod.snd (Prod.snd (Prod.snd y6)))))) (
                          Option.bind ((Prod.snd (Prod.snd (Prod.snd (Prod.snd y6))))[(1 : Nat)]?) fun y7 =>
                          some (Prod.fst (Prod.snd y7) == (3 : Int))) (
                          none)) (
                        some (false))) (
                      some (false))) (
                    some (false))) (
                  some (false))) (
                some (false))) (
              some (false))) (
            some (false))) (
          some (false))) (
        some (false))) (
      some (false))) (
    some (false))

theorem F29_eq (N : Nat)  : (fnEv (mkE Try.prog ownT (tab29 N) []) Try.f29 (J29 ())).run D29 = F29 N () := by kernel_rfl

noncomputable def T29 (N : Nat) : Pk → Tr Pk := tell I29 (F29 N) O29

theorem T29_ok (N : Nat) : FOK Try.prog 29 (T29 N) :=
  (tell_ok (E := (mkE Try.prog ownT (tab29 N) [])) (mkE_ok mix (tab29_ok N)) Try.func29 (show Try.f29.body = some (bod Try.f29) by kernel_rfl) (by decide +kernel) (F := F29 N) I29_ok D29_ok (args := A29) (fun _ => by kernel_rfl) (fun _ => by show 0 ≤ Try.f29.ntmps; exact of_decide_eq_true (by kernel_rfl)) (cutsIn_ok trivial) (fun x => match x with | () => F29_eq N ))

/-! ## f35: mirador/miradorref07.Same -/

noncomputable def I35 : Pk → Option ((List (Int × (Int × (Int × Unit)))) × (List (Int × (Int × (Int × Unit)))))
  | ⟨[.ro (.cons (.int .i64) (.cons (.int .i64) (.cons (.int .i64) .unit))) x0, .ro (.cons (.int .i64) (.cons (.int .i64) (.cons (.int .i64) .unit))) x1], []⟩ => some (x0, x1)
  | _ => none

noncomputable def J35 (x : (List (Int × (Int × (Int × Unit)))) × (List (Int × (Int × (Int × Unit))))) : Pk := ⟨[.ro (.cons (.int .i64) (.cons (.int .i64) (.cons (.int .i64) .unit))) (x.1), .ro (.cons (.int .i64) (.cons (.int .i64) (.cons (.int .i64) .unit))) (x.2)], []⟩

theorem I35_ok : ∀ pk x, I35 pk = some x → pk = J35 x := by
  intro pk x h
  unfold I35 at h
  split at h <;> first | (cases h; rfl) | cases h

noncomputable def A35 : List TV := []

noncomputable def tab35 (N : Nat) : List (Nat × (Pk → Tr Pk)) := []

theorem tab35_ok (N : Nat) : TabOK Try.prog (tab35 N) := trivial

def X35_58 : Ex → List Nat
  | .ret => [4]
  | .exit 0 => []
  | _ => []

noncomputable def I35_58 : Pk → Option ((List (Int × (Int × (Int × Unit)))) × (List (Int × (Int × (Int × Unit)))) × Int)
  | ⟨[.ro (Ty.cons (Ty.int IntKind.i64) (Ty.cons (Ty.int IntKind.i64) (Ty.cons (Ty.int IntKind.i64) Ty.unit))) x0, .ro (Ty.cons (Ty.int IntKind.i64) (Ty.cons (Ty.int IntKind.i64) (Ty.cons (Ty.int IntKind.i64) Ty.unit))) x1, .v (.int .i64 x2)], []⟩ => some (x0, x1, x2)
  | _ => none

noncomputable def J35_58 (x : (List (Int × (Int × (Int × Unit)))) × (List (Int × (Int × (Int × Unit)))) × Int) : Pk := ⟨[.ro (Ty.cons (Ty.int IntKind.i64) (Ty.cons (Ty.int IntKind.i64) (Ty.cons (Ty.int IntKind.i64) Ty.unit))) (x.1), .ro (Ty.cons (Ty.int IntKind.i64) (Ty.cons (Ty.int IntKind.i64) (Ty.cons (Ty.int IntKind.i64) Ty.unit))) (x.2.1), .v (.int .i64 (x.2.2))], []⟩

theorem I35_58_ok : ∀ pk x, I35_58 pk = some x → pk = J35_58 x := by
  intro pk x h
  unfold I35_58 at h
  split at h <;> first | (cases h; rfl) | cases h

noncomputable def O35_58 (r : ((Bool) ⊕ (Unit))) : Tr (Ex × Pk) := .sum _ _ r (fun u => .ret (.ret, ⟨[.v (.bool (u))], []⟩)) (fun v => .ret (.exit 0, ⟨[], []⟩))

noncomputable def D35_58 : Ex × Pk → Option (((Bool) ⊕ (Unit)))
  | (.ret, ⟨[.v (.bool x0)], []⟩) => some (.inl (x0))
  | (.exit 0, ⟨[], []⟩) => some (.inr (()))
  | _ => none

theorem D35_58_ok : ∀ y r, D35_58 y = some r → ∀ z, (O35_58 r).to z → y = z := by
  intro y r h
  unfold D35_58 at h
  split at h <;> first | (cases h; intro z hz; exact Option.some.inj hz) | cases h

noncomputable def B35_58 (N : Nat) (f : ((List (Int × (Int × (Int × Unit)))) × (List (Int × (Int × (Int × Unit)))) × Int) → Option (((Bool) ⊕ (Unit)))) : ((List (Int × (Int × (Int × Unit)))) × (List (Int × (Int × (Int × Unit)))) × Int) → Option (((Bool) ⊕ (Unit)))
  | (x0, x1, x2) =>
  iteP (decide (x2 < (↑(List.length x0) : Int))) (
    iteP (within x2 (List.length x0)) (
      Option.bind (x0[Int.toNat x2]?) fun y0 =>
      iteP (within x2 (List.length x1)) (
        Option.bind (x1[Int.toNat x2]?) fun y1 =>
        iteP (!(Prod.fst y0 == Prod.fst y1 && (Prod.fst (Prod.snd y0) == Prod.fst (Prod.snd y1) && (Prod.fst (Prod.snd (Prod.snd y0)) == Prod.fst (Prod.snd (Prod.snd y1)) && true)))) (
          some (.inl (false))) (
          Option.bind (f (x0, x1, IntKind.wrap IntKind.i64 (x2 + (1 : Int)))) fun r => match r with | .inl (y) => some (.inl (y)) | .inr (y) => some (.inr (y)))) (
        none)) (
      none)) (
    some (.inr (())))

noncomputable def F35_58 (N : Nat) : Nat → ((List (Int × (Int × (Int × Unit)))) × (List (Int × (Int × (Int × Unit)))) × Int) → Option (((Bool) ⊕ (Unit)))
  | 0, _ => none
  | k + 1, x => B35_58 N (F35_58 N k) x

noncomputable def C35_58 (N : Nat) (k : Nat) : Cut := ⟨[0, 1, 5], X35_58, tellX I35_58 (F35_58 N k) O35_58⟩

theorem B35_58_eq (N : Nat) (f : ((List (Int × (Int × (Int × Unit)))) × (List (Int × (Int × (Int × Unit)))) × Int) → Option (((Bool) ⊕ (Unit)))) (x0 : (List (Int × (Int × (Int × Unit))))) (x1 : (List (Int × (Int × (Int × Unit))))) (x2 : Int) : (roundEv (mkE Try.prog ownT (tab35 N) []) Try.f35.ntmps A35 (loopAt (bod Try.f35) 58) 58 ⟨[0, 1, 5], X35_58, tellX I35_58 f O35_58⟩ (J35_58 (x0, x1, x2))).run D35_58 = B35_58 N f (x0, x1, x2) := by kernel_rfl

theorem C35_58_ok (N : Nat) (k : Nat) : ∀ c', At (bod Try.f35) 58 c' → CutOK Try.prog Try.f35.ntmps (idsL A35) c' (C35_58 N k) :=
  loop_ok (E := (mkE Try.prog ownT (tab35 N) [])) (mkE_ok mix (tab35_ok N)) (cutsIn_ok trivial) (fuel := 200) (by decide +kernel) (by kernel_rfl) I35_58_ok D35_58_ok (B35_58 N) (F35_58 N) (fun _ => rfl) (fun _ _ => rfl) (fun f x => match x with | (x0, x1, x2) => B35_58_eq N f x0 x1 x2) k

noncomputable def O35 (r : Bool) : Tr (Pk) := .ret ⟨[.v (.bool (r))], []⟩

noncomputable def D35 : Pk → Option (Bool)
  | ⟨[.v (.bool x0)], []⟩ => some (x0)
  | _ => none

theorem D35_ok : ∀ y r, D35 y = some r → ∀ z, (O35 r).to z → y = z := by
  intro y r h
  unfold D35 at h
  split at h <;> first | (cases h; intro z hz; exact Option.some.inj hz) | cases h

noncomputable def F35 (N : Nat) : ((List (Int × (Int × (Int × Unit)))) × (List (Int × (Int × (Int × Unit))))) → Option (Bool)
  | (x0, x1) =>
  iteP ((↑(List.length x0) : Int) != (↑(List.length x1) : Int)) (
    some (false)) (
    Option.bind (F35_58 N N (x0, x1, (0 : Int))) fun y0 =>
    match y0 with
    | .inl y1 =>
      some (y1)
    | .inr y1 =>
      some (true))

theorem F35_eq (N : Nat) (x0 : (List (Int × (Int × (Int × Unit))))) (x1 : (List (Int × (Int × (Int × Unit))))) : (fnEv (mkE Try.prog ownT (tab35 N) [(58, (C35_58 N N))]) Try.f35 (J35 (x0, x1))).run D35 = F35 N (x0, x1) := by kernel_rfl

noncomputable def T35 (N : Nat) : Pk → Tr Pk := tell I35 (F35 N) O35

theorem T35_ok (N : Nat) : FOK Try.prog 35 (T35 N) :=
  (tell_ok (E := (mkE Try.prog ownT (tab35 N) [(58, (C35_58 N N))])) (mkE_ok mix (tab35_ok N)) Try.func35 (show Try.f35.body = some (bod Try.f35) by kernel_rfl) (by decide +kernel) (F := F35 N) I35_ok D35_ok (args := A35) (fun _ => by kernel_rfl) (fun _ => by show 2 ≤ Try.f35.ntmps; exact of_decide_eq_true (by kernel_rfl)) (cutsIn_ok ⟨fun c' h => (C35_58_ok N N c' h), trivial⟩) (fun x => match x with | (x0, x1) => F35_eq N x0 x1))


end Go.Proofs.Ytpjkklailofkjaa.Am

set_option linter.unusedVariables false
set_option maxRecDepth 100000
namespace Go.Proofs.Ytpjkklailofkjaa.Am
open Go.Am

/-! ## f10: mirador/miradorlaw07.SymbolsBack -/

noncomputable def I10 : Pk → Option ((List (Int × (Int × (Int × Unit)))) × ByteArray)
  | ⟨[.ro (.cons (.int .i64) (.cons (.int .i64) (.cons (.int .i64) .unit))) x0, .v (.string x1)], []⟩ => some (x0, x1)
  | _ => none

noncomputable def J10 (x : (List (Int × (Int × (Int × Unit)))) × ByteArray) : Pk := ⟨[.ro (.cons (.int .i64) (.cons (.int .i64) (.cons (.int .i64) .unit))) (x.1), .v (.string (x.2))], []⟩

theorem I10_ok : ∀ pk x, I10 pk = some x → pk = J10 x := by
  intro pk x h
  unfold I10 at h
  split at h <;> first | (cases h; rfl) | cases h

noncomputable def A10 : List TV := []

noncomputable def tab10 (N : Nat) : List (Nat × (Pk → Tr Pk)) := [(29, T29 N), (30, T30 N), (31, T31 N), (32, T32 N), (17, T17 N), (33, T33 N), (27, T27 N), (22, T22 N), (34, T34 N), (35, T35 N), (25, T25 N), (28, T28 N)]

theorem tab10_ok (N : Nat) : TabOK Try.prog (tab10 N) := ⟨T29_ok N, ⟨T30_ok N, ⟨T31_ok N, ⟨T32_ok N, ⟨T17_ok N, ⟨T33_ok N, ⟨T27_ok N, ⟨T22_ok N, ⟨T34_ok N, ⟨T35_ok N, ⟨T25_ok N, ⟨T28_ok N, trivial⟩⟩⟩⟩⟩⟩⟩⟩⟩⟩⟩⟩

def X10_250 : Ex → List Nat
  | .ret => [4]
  | .exit 0 => [5, 0, 1]
  | _ => []

def X10_506 : Ex → List Nat
  | .ret => [4]
  | .exit 2 => [5]
  | _ => []

noncomputable def I10_250 : Pk → Option (ByteArray × (List (Int × (Int × (Int × Unit)))) × Int × Bool)
  | ⟨[.v (.string x0), .ro (Ty.cons (Ty.int IntKind.i64) (Ty.cons (Ty.int IntKind.i64) (Ty.cons (Ty.int IntKind.i64) Ty.unit))) x1, .v (.int .i64 x2), .v (.bool x3)], []⟩ => some (x0, x1, x2, x3)
  | _ => none

noncomputable def J10_250 (x : ByteArray × (List (Int × (Int × (Int × Unit)))) × Int × Bool) : Pk := ⟨[.v (.string (x.1)), .ro (Ty.cons (Ty.int IntKind.i64) (Ty.cons (Ty.int IntKind.i64) (Ty.cons (Ty.int IntKind.i64) Ty.unit))) (x.2.1), .v (.int .i64 (x.2.2.1)), .v (.bool (x.2.2.2))], []⟩

theorem I10_250_ok : ∀ pk x, I10_250 pk = some x → pk = J10_250 x := by
  intro pk x h
  unfold I10_250 at h
  split at h <;> first | (cases h; rfl) | cases h

noncomputable def O10_250 (r : ((Bool) ⊕ (Bool × (List (Int × (Int × (Int × Unit)))) × ByteArray))) : Tr (Ex × Pk) := .sum _ _ r (fun u => .ret (.ret, ⟨[.v (.bool (u))], []⟩)) (fun v => .ret (.exit 0, ⟨[.v (.bool (v.1)), .ro (Ty.cons (Ty.int IntKind.i64) (Ty.cons (Ty.int IntKind.i64) (Ty.cons (Ty.int IntKind.i64) Ty.unit))) (v.2.1), .v (.string (v.2.2))], []⟩))

noncomputable def D10_250 : Ex × Pk → Option (((Bool) ⊕ (Bool × (List (Int × (Int × (Int × Unit)))) × ByteArray)))
  | (.ret, ⟨[.v (.bool x0)], []⟩) => some (.inl (x0))
  | (.exit 0, ⟨[.v (.bool x0), .ro (Ty.cons (Ty.int IntKind.i64) (Ty.cons (Ty.int IntKind.i64) (Ty.cons (Ty.int IntKind.i64) Ty.unit))) x1, .v (.string x2)], []⟩) => some (.inr ((x0, x1, x2)))
  | _ => none

theorem D10_250_ok : ∀ y r, D10_250 y = some r → ∀ z, (O10_250 r).to z → y = z := by
  intro y r h
  unfold D10_250 at h
  split at h <;> first | (cases h; intro z hz; exact Option.some.inj hz) | cases h

noncomputable def B10_250 (N : Nat) (f : (ByteArray × (List (Int × (Int × (Int × Unit)))) × Int × Bool) → Option (((Bool) ⊕ (Bool × (List (Int × (Int × (Int × Unit)))) × ByteArray)))) : (ByteArray × (List (Int × (Int × (Int × Unit)))) × Int × Bool) → Option (((Bool) ⊕ (Bool × (List (Int × (Int × (Int × Unit)))) × ByteArray)))
  | (x0, x1, x2, x3) =>
  iteP (decide (x2 < (↑(List.length x1) : Int))) (
    iteP (within x2 (List.length x1)) (
      Option.bind (x1[Int.toNat x2]?) fun y0 =>
      Option.bind (F30 N (Prod.fst y0, Prod.fst (Prod.snd y0), Prod.fst (Prod.snd (Prod.snd y0)))) fun y1 =>
      iteP (!y1) (
        some (.inl (x3))) (
        Option.bind (f (x0, x1, IntKind.wrap IntKind.i64 (x2 + (1 : Int)), x3)) fun r => match r with | .inl (y) => some (.inl (y)) | .inr (y) => some (.inr (y)))) (
      none)) (
    some (.inr ((x3, x1, x0))))

noncomputable def F10_250 (N : Nat) : Nat → (ByteArray × (List (Int × (Int × (Int × Unit)))) × Int × Bool) → Option (((Bool) ⊕ (Bool × (List (Int × (Int × (Int × Unit)))) × ByteArray)))
  | 0, _ => none
  | k + 1, x => B10_250 N (F10_250 N k) x

noncomputable def C10_250 (N : Nat) (k : Nat) : Cut := ⟨[1, 0, 6, 5], X10_250, tellX I10_250 (F10_250 N k) O10_250⟩

theorem B10_250_eq (N : Nat) (f : (ByteArray × (List (Int × (Int × (Int × Unit)))) × Int × Bool) → Option (((Bool) ⊕ (Bool × (List (Int × (Int × (Int × Unit)))) × ByteArray)))) (x0 : ByteArray) (x1 : (List (Int × (Int × (Int × Unit))))) (x2 : Int) (x3 : Bool) : (roundEv (mkE Try.prog ownT (tab10 N) []) Try.f10.ntmps A10 (loopAt (bod Try.f10) 250) 250 ⟨[1, 0, 6, 5], X10_250, tellX I10_250 f O10_250⟩ (J10_250 (x0, x1, x2, x3))).run D10_250 = B10_250 N f (x0, x1, x2, x3) := by kernel_rfl

theorem C10_250_ok (N : Nat) (k : Nat) : ∀ c', At (bod Try.f10) 250 c' → CutOK Try.prog Try.f10.ntmps (idsL A10) c' (C10_250 N k) :=
  loop_ok (E := (mkE Try.prog ownT (tab10 N) [])) (mkE_ok mix (tab10_ok N)) (cutsIn_ok trivial) (fuel := 200) (by decide +kernel) (by kernel_rfl) I10_250_ok D10_250_ok (B10_250 N) (F10_250 N) (fun _ => rfl) (fun _ _ => rfl) (fun f x => match x with | (x0, x1, x2, x3) => B10_250_eq N f x0 x1 x2 x3) k

noncomputable def I10_506 : Pk → Option (Int × Bool × (List (Int × (Int × (Int × Unit)))) × ByteArray)
  | ⟨[.v (.int .i64 x0), .v (.bool x1), .ro (Ty.cons (Ty.int IntKind.i64) (Ty.cons (Ty.int IntKind.i64) (Ty.cons (Ty.int IntKind.i64) Ty.unit))) x2, .v (.string x3)], []⟩ => some (x0, x1, x2, x3)
  | _ => none

noncomputable def J10_506 (x : Int × Bool × (List (Int × (Int × (Int × Unit)))) × ByteArray) : Pk := ⟨[.v (.int .i64 (x.1)), .v (.bool (x.2.1)), .ro (Ty.cons (Ty.int IntKind.i64) (Ty.cons (Ty.int IntKind.i64) (Ty.cons (Ty.int IntKind.i64) Ty.unit))) (x.2.2.1), .v (.string (x.2.2.2))], []⟩

theorem I10_506_ok : ∀ pk x, I10_506 pk = some x → pk = J10_506 x := by
  intro pk x h
  unfold I10_506 at h
  split at h <;> first | (cases h; rfl) | cases h

noncomputable def O10_506 (r : ((Bool) ⊕ (Bool))) : Tr (Ex × Pk) := .sum _ _ r (fun u => .ret (.ret, ⟨[.v (.bool (u))], []⟩)) (fun v => .ret (.exit 2, ⟨[.v (.bool (v))], []⟩))

noncomputable def D10_506 : Ex × Pk → Option (((Bool) ⊕ (Bool)))
  | (.ret, ⟨[.v (.bool x0)], []⟩) => some (.inl (x0))
  | (.exit 2, ⟨[.v (.bool x0)], []⟩) => some (.inr (x0))
  | _ => none

theorem D10_506_ok : ∀ y r, D10_506 y = some r → ∀ z, (O10_506 r).to z → y = z := by
  intro y r h
  unfold D10_506 at h
  split at h <;> first | (cases h; intro z hz; exact Option.some.inj hz) | cases h

noncomputable def B10_506 (N : Nat) (f : (Int × Bool × (List (Int × (Int × (Int × Unit)))) × ByteArray) → Option (((Bool) ⊕ (Bool)))) : (Int × Bool × (List (Int × (Int × (Int × Unit)))) × ByteArray) → Option (((Bool) ⊕ (Bool)))
  | (x0, x1, x2, x3) =>
  iteP (decide (x0 < (2 : Int))) (
    Option.bind (F31 N ()) fun y0 =>
    iteP (x0 == (1 : Int)) (
      Option.bind (F32 N x2) fun y1 =>
      Option.bind (F17 N (Prod.fst y1, (15 : Int))) fun y2 =>
      Option.bind (F17 N (Prod.snd y1, (15 : Int))) fun y3 =>
      iteP (Prod.fst y2 != (0 : Int)) (
        some (.inl (false))) (
        iteP (Prod.fst y3 != (0 : Int)) (
          some (.inl (false))) (
          Option.bind (F33 N (Prod.snd y2, Prod.snd y3, x2, (0 : Int), (0 : Int), [])) fun y4 =>
          Option.bind (F27 N (Prod.snd (Prod.snd (Prod.snd y4)), Prod.fst (Prod.snd y4), Prod.fst (Prod.snd (Prod.snd y4)), ())) fun y5 =>
          iteP (decide ((↑(ByteArray.size y5 + ByteArray.size x3) : Int) > (9223372036854775807 : Int))) (
            none) (
            Option.bind (F22 N (y5 ++ x3)) fun y6 =>
            Option.bind (F34 N (Prod.snd y2, Prod.snd y3, (1073741824 : Int), Prod.fst y6, Prod.fst (Prod.snd y6), Prod.snd (Prod.snd y6))) fun y7 =>
            Option.bind (F35 N (x2, Prod.snd (Prod.snd (Prod.snd (Prod.snd y7))))) fun y8 =>
            iteP (Prod.fst y4 != (0 : Int)) (
              some (.inl (false))) (
              iteP (Prod.fst y7 != (0 : Int)) (
                some (.inl (false))) (
                iteP (!y8) (
                  some (.inl (false))) (
                  Option.bind (F25 N (Prod.fst (Prod.snd y7), Prod.fst (Prod.snd (Prod.snd y7)), Prod.fst (Prod.snd (Prod.snd (Prod.snd y7))), ())) fun y9 =>
                  Option.bind (F28 N (Prod.snd (Prod.snd (Prod.snd y4)), Prod.fst (Prod.snd y4), Prod.fst (Prod.snd (Prod.snd y4)), ())) fun y10 =>
                  iteP (y9 != y10) (
                    some (.inl (false))) (
                    Option.bind (f (IntKind.wrap IntKind.i64 (x0 + (1 : Int)), x1, x2, x3)) fun r => match r with | .inl (y) => some (.inl (y)) | .inr (y) => some (.inr (y)))))))))) (
      Option.bind (F33 N (Prod.fst y0, Prod.snd y0, x2, (0 : Int), (0 : Int), [])) fun y11 =>
      Option.bind (F27 N (Prod.snd (Prod.snd (Prod.snd y11)), Prod.fst (Prod.snd y11), Prod.fst (Prod.snd (Prod.snd y11)), ())) fun y12 =>
      iteP (decide ((↑(ByteArray.size y12 + ByteArray.size x3) : Int) > (9223372036854775807 : Int))) (
        none) (
        Option.bind (F22 N (y12 ++ x3)) fun y13 =>
        Option.bind (F34 N (Prod.fst y0, Prod.snd y0, (1073741824 : Int), Prod.fst y13, Prod.fst (Prod.snd y13), Prod.snd (Prod.snd y13))) fun y14 =>
        Option.bind (F35 N (x2, Prod.snd (Prod.snd (Prod.snd (Prod.snd y14))))) fun y15 =>
        iteP (Prod.fst y11 != (0 : Int)) (
          some (.inl (false))) (
          iteP (Prod.fst y14 != (0 : Int)) (
            some (.inl (false))) (
            iteP (!y15) (
              some (.inl (false))) (
              Option.bind (F25 N (Prod.fst (Prod.snd y14), Prod.fst (Prod.snd (Prod.snd y14)), Prod.fst (Prod.snd (Prod.snd (Prod.snd y14))), ())) fun y16 =>
              Option.bind (F28 N (Prod.snd (Prod.snd (Prod.snd y11)), Prod.fst (Prod.snd y11), Prod.fst (Prod.snd (Prod.snd y11)), ())) fun y17 =>
              iteP (y16 != y17) (
                some (.inl (false))) (
                Option.bind (f (IntKind.wrap IntKind.i64 (x0 + (1 : Int)), x1, x2, x3)) fun r => match r with | .inl (y) => some (.inl (y)) | .inr (y) => some (.inr (y))))))))) (
    some (.inr (x1)))

noncomputable def F10_506 (N : Nat) : Nat → (Int × Bool × (List (Int × (Int × (Int × Unit)))) × ByteArray) → Option (((Bool) ⊕ (Bool)))
  | 0, _ => none
  | k + 1, x => B10_506 N (F10_506 N k) x

noncomputable def C10_506 (N : Nat) (k : Nat) : Cut := ⟨[7, 5, 0, 1], X10_506, tellX I10_506 (F10_506 N k) O10_506⟩

theorem B10_506_eq (N : Nat) (f : (Int × Bool × (List (Int × (Int × (Int × Unit)))) × ByteArray) → Option (((Bool) ⊕ (Bool)))) (x0 : Int) (x1 : Bool) (x2 : (List (Int × (Int × (Int × Unit))))) (x3 : ByteArray) : (roundEv (mkE Try.prog ownT (tab10 N) [(250, (C10_250 N N))]) Try.f10.ntmps A10 (loopAt (bod Try.f10) 506) 506 ⟨[7, 5, 0, 1], X10_506, tellX I10_506 f O10_506⟩ (J10_506 (x0, x1, x2, x3))).run D10_506 = B10_506 N f (x0, x1, x2, x3) := by kernel_rfl

theorem C10_506_ok (N : Nat) (k : Nat) : ∀ c', At (bod Try.f10) 506 c' → CutOK Try.prog Try.f10.ntmps (idsL A10) c' (C10_506 N k) :=
  loop_ok (E := (mkE Try.prog ownT (tab10 N) [(250, (C10_250 N N))])) (mkE_ok mix (tab10_ok N)) (cutsIn_ok ⟨fun c' h => (C10_250_ok N N c' h), trivial⟩) (fuel := 200) (by decide +kernel) (by kernel_rfl) I10_506_ok D10_506_ok (B10_506 N) (F10_506 N) (fun _ => rfl) (fun _ _ => rfl) (fun f x => match x with | (x0, x1, x2, x3) => B10_506_eq N f x0 x1 x2 x3) k

noncomputable def O10 (r : Bool) : Tr (Pk) := .ret ⟨[.v (.bool (r))], []⟩

noncomputable def D10 : Pk → Option (Bool)
  | ⟨[.v (.bool x0)], []⟩ => some (x0)
  | _ => none

theorem D10_ok : ∀ y r, D10 y = some r → ∀ z, (O10 r).to z → y = z := by
  intro y r h
  unfold D10 at h
  split at h <;> first | (cases h; intro z hz; exact Option.some.inj hz) | cases h

noncomputable def F10 (N : Nat) : ((List (Int × (Int × (Int × Unit)))) × ByteArray) → Option (Bool)
  | (x0, x1) =>
  Option.bind (F29 N ()) fun y0 =>
  iteP (!y0) (
    some (false)) (
    iteP (decide ((↑(List.length x0) : Int) > (60 : Int))) (
      some (y0)) (
      iteP (decide ((↑(ByteArray.size x1) : Int) > (60 : Int))) (
        some (y0)) (
        Option.bind (F10_250 N N (x1, x0, (0 : Int), y0)) fun y1 =>
        match y1 with
        | .inl y2 =>
          some (y2)
        | .inr y2 =>
          Option.bind (F10_506 N N ((0 : Int), Prod.fst y2, Prod.fst (Prod.snd y2), Prod.snd (Prod.snd y2))) fun y3 =>
          match y3 with
          | .inl y4 =>
            some (y4)
          | .inr y4 =>
            some (y4))))

theorem F10_eq (N : Nat) (x0 : (List (Int × (Int × (Int × Unit))))) (x1 : ByteArray) : (fnEv (mkE Try.prog ownT (tab10 N) [(250, (C10_250 N N)), (506, (C10_506 N N))]) Try.f10 (J10 (x0, x1))).run D10 = F10 N (x0, x1) := by kernel_rfl

noncomputable def T10 (N : Nat) : Pk → Tr Pk := tell I10 (F10 N) O10

theorem T10_ok (N : Nat) : FOK Try.prog 10 (T10 N) :=
  (tell_ok (E := (mkE Try.prog ownT (tab10 N) [(250, (C10_250 N N)), (506, (C10_506 N N))])) (mkE_ok mix (tab10_ok N)) Try.func10 (show Try.f10.body = some (bod Try.f10) by kernel_rfl) (by decide +kernel) (F := F10 N) I10_ok D10_ok (args := A10) (fun _ => by kernel_rfl) (fun _ => by show 2 ≤ Try.f10.ntmps; exact of_decide_eq_true (by kernel_rfl)) (cutsIn_ok ⟨fun c' h => (C10_250_ok N N c' h), ⟨fun c' h => (C10_506_ok N N c' h), trivial⟩⟩) (fun x => match x with | (x0, x1) => F10_eq N x0 x1))


end Go.Proofs.Ytpjkklailofkjaa.Am
