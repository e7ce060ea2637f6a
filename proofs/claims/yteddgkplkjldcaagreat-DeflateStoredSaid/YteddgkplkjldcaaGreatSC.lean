/- The seat's Go functions come to the Lean functions written here, wherever these give an answer (part C). -/
import Derived.Test.YteddgkplkjldcaaGreatSB
set_option linter.unusedVariables false
set_option maxRecDepth 100000
namespace Go.Proofs.YteddgkplkjldcaaGreat.Am
open Go.Am

/-! ## f154a: slices.stableCmpFunc[mirador/huffman.bundle] -/

noncomputable def I154a : Pk → Option (Nat × Nat × Int × (List (Int × ((List Int) × Unit))))
  | ⟨[.sl 0 (some (x0, x1)), .v (.int .i64 x2), .v (.func (.func 126) ⟨[]⟩ ⟨[]⟩)], [some (.row (.cons (.int .i64) (.cons (.sl (.int .i64)) .unit)) 137 x3)]⟩ => some (x0, x1, x2, x3)
  | _ => none

noncomputable def J154a (x : Nat × Nat × Int × (List (Int × ((List Int) × Unit)))) : Pk := ⟨[.sl 0 (some ((x.1), (x.2.1))), .v (.int .i64 (x.2.2.1)), .v (.func (.func 126) ⟨[]⟩ ⟨[]⟩)], [some (.row (.cons (.int .i64) (.cons (.sl (.int .i64)) .unit)) 137 (x.2.2.2))]⟩

theorem I154a_ok : ∀ pk x, I154a pk = some x → pk = J154a x := by
  intro pk x h
  unfold I154a at h
  split at h <;> first | (cases h; rfl) | cases h

noncomputable def A154a : List TV := [.adr 0 []]

noncomputable def tab154a (N : Nat) : List (Nat × (Pk → Tr Pk)) := [(168, T168 N), (169, T169 N), (126, T126 N)]

theorem tab154a_ok (N : Nat) : TabOK Tryz.prog (tab154a N) := ⟨T168_ok N, ⟨T169_ok N, ⟨T126_ok N, trivial⟩⟩⟩

def X154a_28 : Ex → List Nat
  | .ret => []
  | .exit 0 => [7, 1, 0, 2, 6]
  | _ => []

def X154a_3988 : Ex → List Nat
  | .ret => []
  | .exit 4 => [7, 6, 1, 0, 2]
  | .exit 3 => [1, 0, 2, 6]
  | .exit 2 => []
  | _ => []

def X154a_62 : Ex → List Nat
  | .ret => []
  | .exit 2 => []
  | _ => []

noncomputable def I154a_28 : Pk → Option (Int × Int × Int × Nat × Nat × Int × (List (Int × ((List Int) × Unit))))
  | ⟨[.v (.int .i64 x0), .v (.int .i64 x1), .v (.int .i64 x2), .sl 0 (some ((x3, x4))), .v ((Value.func (Fn.func (126 : FuncId)) (Array.mk []) (Array.mk []))), .v (.int .i64 x5)], [some (.row (Ty.cons (Ty.int IntKind.i64) (Ty.cons (Ty.sl (Ty.int IntKind.i64)) Ty.unit)) 137 x6)]⟩ => some (x0, x1, x2, x3, x4, x5, x6)
  | _ => none

noncomputable def J154a_28 (x : Int × Int × Int × Nat × Nat × Int × (List (Int × ((List Int) × Unit)))) : Pk := ⟨[.v (.int .i64 (x.1)), .v (.int .i64 (x.2.1)), .v (.int .i64 (x.2.2.1)), .sl 0 (some (((x.2.2.2.1), (x.2.2.2.2.1)))), .v ((Value.func (Fn.func (126 : FuncId)) (Array.mk []) (Array.mk []))), .v (.int .i64 (x.2.2.2.2.2.1))], [some (.row (Ty.cons (Ty.int IntKind.i64) (Ty.cons (Ty.sl (Ty.int IntKind.i64)) Ty.unit)) 137 (x.2.2.2.2.2.2))]⟩

theorem I154a_28_ok : ∀ pk x, I154a_28 pk = some x → pk = J154a_28 x := by
  intro pk x h
  unfold I154a_28 at h
  split at h <;> first | (cases h; rfl) | cases h

noncomputable def O154a_28 (r : Int × Int × Nat × Nat × Int × (List (Int × ((List Int) × Unit)))) : Tr (Ex × Pk) := .ret (.exit 0, ⟨[.v (.int .i64 (r.1)), .v (.int .i64 (r.2.1)), .sl 0 (some (((r.2.2.1), (r.2.2.2.1)))), .v ((Value.func (Fn.func (126 : FuncId)) (Array.mk []) (Array.mk []))), .v (.int .i64 (r.2.2.2.2.1))], [some (.row (Ty.cons (Ty.int IntKind.i64) (Ty.cons (Ty.sl (Ty.int IntKind.i64)) Ty.unit)) 137 (r.2.2.2.2.2))]⟩)

noncomputable def D154a_28 : Ex × Pk → Option (Int × Int × Nat × Nat × Int × (List (Int × ((List Int) × Unit))))
  | (.exit 0, ⟨[.v (.int .i64 x0), .v (.int .i64 x1), .sl 0 (some ((x2, x3))), .v ((Value.func (Fn.func (126 : FuncId)) (Array.mk []) (Array.mk []))), .v (.int .i64 x4)], [some (.row (Ty.cons (Ty.int IntKind.i64) (Ty.cons (Ty.sl (Ty.int IntKind.i64)) Ty.unit)) 137 x5)]⟩) => some ((x0, x1, x2, x3, x4, x5))
  | _ => none

theorem D154a_28_ok : ∀ y r, D154a_28 y = some r → ∀ z, (O154a_28 r).to z → y = z := by
  intro y r h
  unfold D154a_28 at h
  split at h <;> first | (cases h; intro z hz; exact Option.some.inj hz) | cases h

noncomputable def B154a_28 (N : Nat) (f : (Int × Int × Int × Nat × Nat × Int × (List (Int × ((List Int) × Unit)))) → Option (Int × Int × Nat × Nat × Int × (List (Int × ((List Int) × Unit))))) : (Int × Int × Int × Nat × Nat × Int × (List (Int × ((List Int) × Unit)))) → Option (Int × Int × Nat × Nat × Int × (List (Int × ((List Int) × Unit))))
  | (x0, x1, x2, x3, x4, x5, x6) =>
  iteP (decide (x1 ≤ x2)) (
    Option.bind (F168a N (x3, x4, x0, x1, x6)) fun y0 =>
    Option.bind (f (x1, IntKind.wrap IntKind.i64 (x1 + x5), x2, x3, x4, x5, y0)) fun r => some r) (
    some ((x0, x2, x3, x4, x5, x6)))

noncomputable def F154a_28 (N : Nat) : Nat → (Int × Int × Int × Nat × Nat × Int × (List (Int × ((List Int) × Unit)))) → Option (Int × Int × Nat × Nat × Int × (List (Int × ((List Int) × Unit))))
  | 0, _ => none
  | k + 1, x => B154a_28 N (F154a_28 N k) x

noncomputable def C154a_28 (N : Nat) (k : Nat) : Cut := ⟨[7, 8, 1, 0, 2, 6], X154a_28, tellX I154a_28 (F154a_28 N k) O154a_28⟩

theorem B154a_28_eq (N : Nat) (f : (Int × Int × Int × Nat × Nat × Int × (List (Int × ((List Int) × Unit)))) → Option (Int × Int × Nat × Nat × Int × (List (Int × ((List Int) × Unit))))) (x0 : Int) (x1 : Int) (x2 : Int) (x3 : Nat) (x4 : Nat) (x5 : Int) (x6 : (List (Int × ((List Int) × Unit)))) : (roundEv (mkE Tryz.prog ownT (tab154a N) []) Tryz.f154.ntmps A154a (loopAt (bod Tryz.f154) 28) 28 ⟨[7, 8, 1, 0, 2, 6], X154a_28, tellX I154a_28 f O154a_28⟩ (J154a_28 (x0, x1, x2, x3, x4, x5, x6))).run D154a_28 = B154a_28 N f (x0, x1, x2, x3, x4, x5, x6) := by kernel_rfl

theorem C154a_28_ok (N : Nat) (k : Nat) : ∀ c', At (bod Tryz.f154) 28 c' → CutOK Tryz.prog Tryz.f154.ntmps (idsL A154a) c' (C154a_28 N k) :=
  loop_ok (E := (mkE Tryz.prog ownT (tab154a N) [])) (mkE_ok mix (tab154a_ok N)) (cutsIn_ok trivial) (fuel := 200) (by decide +kernel) (by kernel_rfl) I154a_28_ok D154a_28_ok (B154a_28 N) (F154a_28 N) (fun _ => rfl) (fun _ _ => rfl) (fun f x => match x with | (x0, x1, x2, x3, x4, x5, x6) => B154a_28_eq N f x0 x1 x2 x3 x4 x5 x6) k

noncomputable def I154a_62 : Pk → Option (Int × Nat × Nat × Int × (List (Int × ((List Int) × Unit))))
  | ⟨[.v (.int .i64 x0), .sl 0 (some ((x1, x2))), .v ((Value.func (Fn.func (126 : FuncId)) (Array.mk []) (Array.mk []))), .v (.int .i64 x3)], [some (.row (Ty.cons (Ty.int IntKind.i64) (Ty.cons (Ty.sl (Ty.int IntKind.i64)) Ty.unit)) 137 x4)]⟩ => some (x0, x1, x2, x3, x4)
  | _ => none

noncomputable def J154a_62 (x : Int × Nat × Nat × Int × (List (Int × ((List Int) × Unit)))) : Pk := ⟨[.v (.int .i64 (x.1)), .sl 0 (some (((x.2.1), (x.2.2.1)))), .v ((Value.func (Fn.func (126 : FuncId)) (Array.mk []) (Array.mk []))), .v (.int .i64 (x.2.2.2.1))], [some (.row (Ty.cons (Ty.int IntKind.i64) (Ty.cons (Ty.sl (Ty.int IntKind.i64)) Ty.unit)) 137 (x.2.2.2.2))]⟩

theorem I154a_62_ok : ∀ pk x, I154a_62 pk = some x → pk = J154a_62 x := by
  intro pk x h
  unfold I154a_62 at h
  split at h <;> first | (cases h; rfl) | cases h

noncomputable def I154a_3988 : Pk → Option (Int × Int × Int × Nat × Nat × Int × (List (Int × ((List Int) × Unit))))
  | ⟨[.v (.int .i64 x0), .v (.int .i64 x1), .v (.int .i64 x2), .sl 0 (some ((x3, x4))), .v ((Value.func (Fn.func (126 : FuncId)) (Array.mk []) (Array.mk []))), .v (.int .i64 x5)], [some (.row (Ty.cons (Ty.int IntKind.i64) (Ty.cons (Ty.sl (Ty.int IntKind.i64)) Ty.unit)) 137 x6)]⟩ => some (x0, x1, x2, x3, x4, x5, x6)
  | _ => none

noncomputable def J154a_3988 (x : Int × Int × Int × Nat × Nat × Int × (List (Int × ((List Int) × Unit)))) : Pk := ⟨[.v (.int .i64 (x.1)), .v (.int .i64 (x.2.1)), .v (.int .i64 (x.2.2.1)), .sl 0 (some (((x.2.2.2.1), (x.2.2.2.2.1)))), .v ((Value.func (Fn.func (126 : FuncId)) (Array.mk []) (Array.mk []))), .v (.int .i64 (x.2.2.2.2.2.1))], [some (.row (Ty.cons (Ty.int IntKind.i64) (Ty.cons (Ty.sl (Ty.int IntKind.i64)) Ty.unit)) 137 (x.2.2.2.2.2.2))]⟩

theorem I154a_3988_ok : ∀ pk x, I154a_3988 pk = some x → pk = J154a_3988 x := by
  intro pk x h
  unfold I154a_3988 at h
  split at h <;> first | (cases h; rfl) | cases h

noncomputable def O154a_3988 (r : Int × Int × Int × Nat × Nat × (List (Int × ((List Int) × Unit)))) : Tr (Ex × Pk) := .ret (.exit 4, ⟨[.v (.int .i64 (r.1)), .v (.int .i64 (r.2.1)), .v (.int .i64 (r.2.2.1)), .sl 0 (some (((r.2.2.2.1), (r.2.2.2.2.1)))), .v ((Value.func (Fn.func (126 : FuncId)) (Array.mk []) (Array.mk [])))], [some (.row (Ty.cons (Ty.int IntKind.i64) (Ty.cons (Ty.sl (Ty.int IntKind.i64)) Ty.unit)) 137 (r.2.2.2.2.2))]⟩)

noncomputable def D154a_3988 : Ex × Pk → Option (Int × Int × Int × Nat × Nat × (List (Int × ((List Int) × Unit))))
  | (.exit 4, ⟨[.v (.int .i64 x0), .v (.int .i64 x1), .v (.int .i64 x2), .sl 0 (some ((x3, x4))), .v ((Value.func (Fn.func (126 : FuncId)) (Array.mk []) (Array.mk [])))], [some (.row (Ty.cons (Ty.int IntKind.i64) (Ty.cons (Ty.sl (Ty.int IntKind.i64)) Ty.unit)) 137 x5)]⟩) => some ((x0, x1, x2, x3, x4, x5))
  | _ => none

theorem D154a_3988_ok : ∀ y r, D154a_3988 y = some r → ∀ z, (O154a_3988 r).to z → y = z := by
  intro y r h
  unfold D154a_3988 at h
  split at h <;> first | (cases h; intro z hz; exact Option.some.inj hz) | cases h

noncomputable def B154a_3988 (N : Nat) (f : (Int × Int × Int × Nat × Nat × Int × (List (Int × ((List Int) × Unit)))) → Option (Int × Int × Int × Nat × Nat × (List (Int × ((List Int) × Unit))))) : (Int × Int × Int × Nat × Nat × Int × (List (Int × ((List Int) × Unit)))) → Option (Int × Int × Int × Nat × Nat × (List (Int × ((List Int) × Unit))))
  | (x0, x1, x2, x3, x4, x5, x6) =>
  iteP (decide (x1 ≤ x2)) (
    Option.bind (F169a N (x3, x4, x0, IntKind.wrap IntKind.i64 (x0 + x5), x1, x6)) fun y0 =>
    Option.bind (f (x1, IntKind.wrap IntKind.i64 (x1 + IntKind.wrap IntKind.i64 ((2 : Int) * x5)), x2, x3, x4, x5, y0)) fun r => some r) (
    some ((x0, x5, x2, x3, x4, x6)))

noncomputable def F154a_3988 (N : Nat) : Nat → (Int × Int × Int × Nat × Nat × Int × (List (Int × ((List Int) × Unit)))) → Option (Int × Int × Int × Nat × Nat × (List (Int × ((List Int) × Unit))))
  | 0, _ => none
  | k + 1, x => B154a_3988 N (F154a_3988 N k) x

noncomputable def C154a_3988 (N : Nat) (k : Nat) : Cut := ⟨[7, 8, 1, 0, 2, 6], X154a_3988, tellX I154a_3988 (F154a_3988 N k) O154a_3988⟩

theorem B154a_3988_eq (N : Nat) (f : (Int × Int × Int × Nat × Nat × Int × (List (Int × ((List Int) × Unit)))) → Option (Int × Int × Int × Nat × Nat × (List (Int × ((List Int) × Unit))))) (x0 : Int) (x1 : Int) (x2 : Int) (x3 : Nat) (x4 : Nat) (x5 : Int) (x6 : (List (Int × ((List Int) × Unit)))) : (roundEv (mkE Tryz.prog ownT (tab154a N) [(28, (C154a_28 N N))]) Tryz.f154.ntmps A154a (loopAt (bod Tryz.f154) 3988) 3988 ⟨[7, 8, 1, 0, 2, 6], X154a_3988, tellX I154a_3988 f O154a_3988⟩ (J154a_3988 (x0, x1, x2, x3, x4, x5, x6))).run D154a_3988 = B154a_3988 N f (x0, x1, x2, x3, x4, x5, x6) := by kernel_rfl

theorem C154a_3988_ok (N : Nat) (k : Nat) : ∀ c', At (bod Tryz.f154) 3988 c' → CutOK Tryz.prog Tryz.f154.ntmps (idsL A154a) c' (C154a_3988 N k) :=
  loop_ok (E := (mkE Tryz.prog ownT (tab154a N) [(28, (C154a_28 N N))])) (mkE_ok mix (tab154a_ok N)) (cutsIn_ok ⟨fun c' h => (C154a_28_ok N N c' h), trivial⟩) (fuel := 200) (by decide +kernel) (by kernel_rfl) I154a_3988_ok D154a_3988_ok (B154a_3988 N) (F154a_3988 N) (fun _ => rfl) (fun _ _ => rfl) (fun f x => match x with | (x0, x1, x2, x3, x4, x5, x6) => B154a_3988_eq N f x0 x1 x2 x3 x4 x5 x6) k

noncomputable def O154a_62 (r : (List (Int × ((List Int) × Unit)))) : Tr (Ex × Pk) := .ret (.exit 2, ⟨[], [some (.row (Ty.cons (Ty.int IntKind.i64) (Ty.cons (Ty.sl (Ty.int IntKind.i64)) Ty.unit)) 137 (r))]⟩)

noncomputable def D154a_62 : Ex × Pk → Option ((List (Int × ((List Int) × Unit))))
  | (.exit 2, ⟨[], [some (.row (Ty.cons (Ty.int IntKind.i64) (Ty.cons (Ty.sl (Ty.int IntKind.i64)) Ty.unit)) 137 x0)]⟩) => some (x0)
  | _ => none

theorem D154a_62_ok : ∀ y r, D154a_62 y = some r → ∀ z, (O154a_62 r).to z → y = z := by
  intro y r h
  unfold D154a_62 at h
  split at h <;> first | (cases h; intro z hz; exact Option.some.inj hz) | cases h

noncomputable def B154a_62 (N : Nat) (f : (Int × Nat × Nat × Int × (List (Int × ((List Int) × Unit)))) → Option ((List (Int × ((List Int) × Unit))))) : (Int × Nat × Nat × Int × (List (Int × ((List Int) × Unit)))) → Option ((List (Int × ((List Int) × Unit))))
  | (x0, x1, x2, x3, x4) =>
  iteP (decide (x3 < x0)) (
    Option.bind (F154a_3988 N N ((0 : Int), IntKind.wrap IntKind.i64 ((2 : Int) * x3), x0, x1, x2, x3, x4)) fun y0 =>
    iteP (decide (IntKind.wrap IntKind.i64 (Prod.fst y0 + Prod.fst (Prod.snd y0)) < Prod.fst (Prod.snd (Prod.snd y0)))) (
      Option.bind (F169a N (Prod.fst (Prod.snd (Prod.snd (Prod.snd y0))), Prod.fst (Prod.snd (Prod.snd (Prod.snd (Prod.snd y0)))), Prod.fst y0, IntKind.wrap IntKind.i64 (Prod.fst y0 + Prod.fst (Prod.snd y0)), Prod.fst (Prod.snd (Prod.snd y0)), Prod.snd (Prod.snd (Prod.snd (Prod.snd (Prod.snd y0)))))) fun y1 =>
      Option.bind (f (Prod.fst (Prod.snd (Prod.snd y0)), Prod.fst (Prod.snd (Prod.snd (Prod.snd y0))), Prod.fst (Prod.snd (Prod.snd (Prod.snd (Prod.snd y0)))), IntKind.wrap IntKind.i64 (Prod.fst (Prod.snd y0) * (2 : Int)), y1)) fun r => some r) (
      Option.bind (f (Prod.fst (Prod.snd (Prod.snd y0)), Prod.fst (Prod.snd (Prod.snd (Prod.snd y0))), Prod.fst (Prod.snd (Prod.snd (Prod.snd (Prod.snd y0)))), IntKind.wrap IntKind.i64 (Prod.fst (Prod.snd y0) * (2 : Int)), Prod.snd (Prod.snd (Prod.snd (Prod.snd (Prod.snd y0)))))) fun r => some r)) (
    some (x4))

noncomputable def F154a_62 (N : Nat) : Nat → (Int × Nat × Nat × Int × (List (Int × ((List Int) × Unit)))) → Option ((List (Int × ((List Int) × Unit))))
  | 0, _ => none
  | k + 1, x => B154a_62 N (F154a_62 N k) x

noncomputable def C154a_62 (N : Nat) (k : Nat) : Cut := ⟨[1, 0, 2, 6], X154a_62, tellX I154a_62 (F154a_62 N k) O154a_62⟩

theorem B154a_62_eq (N : Nat) (f : (Int × Nat × Nat × Int × (List (Int × ((List Int) × Unit)))) → Option ((List (Int × ((List Int) × Unit))))) (x0 : Int) (x1 : Nat) (x2 : Nat) (x3 : Int) (x4 : (List (Int × ((List Int) × Unit)))) : (roundEv (mkE Tryz.prog ownT (tab154a N) [(28, (C154a_28 N N)), (3988, (C154a_3988 N N))]) Tryz.f154.ntmps A154a (loopAt (bod Tryz.f154) 62) 62 ⟨[1, 0, 2, 6], X154a_62, tellX I154a_62 f O154a_62⟩ (J154a_62 (x0, x1, x2, x3, x4))).run D154a_62 = B154a_62 N f (x0, x1, x2, x3, x4) := by kernel_rfl

theorem C154a_62_ok (N : Nat) (k : Nat) : ∀ c', At (bod Tryz.f154) 62 c' → CutOK Tryz.prog Tryz.f154.ntmps (idsL A154a) c' (C154a_62 N k) :=
  loop_ok (E := (mkE Tryz.prog ownT (tab154a N) [(28, (C154a_28 N N)), (3988, (C154a_3988 N N))])) (mkE_ok mix (tab154a_ok N)) (cutsIn_ok ⟨fun c' h => (C154a_28_ok N N c' h), ⟨fun c' h => (C154a_3988_ok N N c' h), trivial⟩⟩) (fuel := 200) (by decide +kernel) (by kernel_rfl) I154a_62_ok D154a_62_ok (B154a_62 N) (F154a_62 N) (fun _ => rfl) (fun _ _ => rfl) (fun f x => match x with | (x0, x1, x2, x3, x4) => B154a_62_eq N f x0 x1 x2 x3 x4) k

noncomputable def O154a (r : (List (Int × ((List Int) × Unit)))) : Tr (Pk) := .ret ⟨[.tup []], [some (.row (Ty.cons (Ty.int IntKind.i64) (Ty.cons (Ty.sl (Ty.int IntKind.i64)) Ty.unit)) 137 (r))]⟩

noncomputable def D154a : Pk → Option ((List (Int × ((List Int) × Unit))))
  | ⟨[.tup []], [some (.row (Ty.cons (Ty.int IntKind.i64) (Ty.cons (Ty.sl (Ty.int IntKind.i64)) Ty.unit)) 137 x0)]⟩ => some (x0)
  | _ => none

theorem D154a_ok : ∀ y r, D154a y = some r → ∀ z, (O154a r).to z → y = z := by
  intro y r h
  unfold D154a at h
  split at h <;> first | (cases h; intro z hz; exact Option.some.inj hz) | cases h

noncomputable def F154a (N : Nat) : (Nat × Nat × Int × (List (Int × ((List Int) × Unit)))) → Option ((List (Int × ((List Int) × Unit))))
  | (x0, x1, x2, x3) =>
  Option.bind (F154a_28 N N ((0 : Int), (20 : Int), x2, x0, x1, (20 : Int), x3)) fun y0 =>
  Option.bind (F168a N (Prod.fst (Prod.snd (Prod.snd y0)), Prod.fst (Prod.snd (Prod.snd (Prod.snd y0))), Prod.fst y0, Prod.fst (Prod.snd y0), Prod.snd (Prod.snd (Prod.snd (Prod.snd (Prod.snd y0)))))) fun y1 =>
  Option.bind (F154a_62 N N (Prod.fst (Prod.snd y0), Prod.fst (Prod.snd (Prod.snd y0)), Prod.fst (Prod.snd (Prod.snd (Prod.snd y0))), Prod.fst (Prod.snd (Prod.snd (Prod.snd (Prod.snd y0)))), y1)) fun y2 =>
  some (y2)

theorem F154a_eq (N : Nat) (x0 : Nat) (x1 : Nat) (x2 : Int) (x3 : (List (Int × ((List Int) × Unit)))) : (fnEv (mkE Tryz.prog ownT (tab154a N) [(28, (C154a_28 N N)), (3988, (C154a_3988 N N)), (62, (C154a_62 N N))]) Tryz.f154 (J154a (x0, x1, x2, x3))).run D154a = F154a N (x0, x1, x2, x3) := by kernel_rfl

noncomputable def V154a (N : Nat) : Pk → Tr Pk := tell I154a (F154a N) O154a

theorem V154a_ok (N : Nat) : FOK Tryz.prog 154 (V154a N) :=
  (tell_ok (E := (mkE Tryz.prog ownT (tab154a N) [(28, (C154a_28 N N)), (3988, (C154a_3988 N N)), (62, (C154a_62 N N))])) (mkE_ok mix (tab154a_ok N)) Tryz.func154 (show Tryz.f154.body = some (bod Tryz.f154) by kernel_rfl) (by decide +kernel) (F := F154a N) I154a_ok D154a_ok (args := A154a) (fun _ => by kernel_rfl) (fun _ => by show 3 ≤ Tryz.f154.ntmps; exact of_decide_eq_true (by kernel_rfl)) (cutsIn_ok ⟨fun c' h => (C154a_28_ok N N c' h), ⟨fun c' h => (C154a_3988_ok N N c' h), ⟨fun c' h => (C154a_62_ok N N c' h), trivial⟩⟩⟩) (fun x => match x with | (x0, x1, x2, x3) => F154a_eq N x0 x1 x2 x3))

noncomputable def T154 (N : Nat) : Pk → Tr Pk := (V154a N)

theorem T154_ok (N : Nat) : FOK Tryz.prog 154 (T154 N) := (V154a_ok N)

/-! ## f125a: slices.SortStableFunc[[]mirador/huffman.bundle,mirador/huffman.bundle] -/

noncomputable def I125a : Pk → Option (Nat × Nat × (List (Int × ((List Int) × Unit))))
  | ⟨[.sl 0 (some (x0, x1)), .v (.func (.func 126) ⟨[]⟩ ⟨[]⟩)], [some (.row (.cons (.int .i64) (.cons (.sl (.int .i64)) .unit)) 137 x2)]⟩ => some (x0, x1, x2)
  | _ => none

noncomputable def J125a (x : Nat × Nat × (List (Int × ((List Int) × Unit)))) : Pk := ⟨[.sl 0 (some ((x.1), (x.2.1))), .v (.func (.func 126) ⟨[]⟩ ⟨[]⟩)], [some (.row (.cons (.int .i64) (.cons (.sl (.int .i64)) .unit)) 137 (x.2.2))]⟩

theorem I125a_ok : ∀ pk x, I125a pk = some x → pk = J125a x := by
  intro pk x h
  unfold I125a at h
  split at h <;> first | (cases h; rfl) | cases h

noncomputable def A125a : List TV := [.adr 0 []]

noncomputable def tab125a (N : Nat) : List (Nat × (Pk → Tr Pk)) := [(154, T154 N), (126, T126 N)]

theorem tab125a_ok (N : Nat) : TabOK Tryz.prog (tab125a N) := ⟨T154_ok N, ⟨T126_ok N, trivial⟩⟩

noncomputable def O125a (r : (List (Int × ((List Int) × Unit)))) : Tr (Pk) := .ret ⟨[.tup []], [some (.row (Ty.cons (Ty.int IntKind.i64) (Ty.cons (Ty.sl (Ty.int IntKind.i64)) Ty.unit)) 137 (r))]⟩

noncomputable def D125a : Pk → Option ((List (Int × ((List Int) × Unit))))
  | ⟨[.tup []], [some (.row (Ty.cons (Ty.int IntKind.i64) (Ty.cons (Ty.sl (Ty.int IntKind.i64)) Ty.unit)) 137 x0)]⟩ => some (x0)
  | _ => none

theorem D125a_ok : ∀ y r, D125a y = some r → ∀ z, (O125a r).to z → y = z := by
  intro y r h
  unfold D125a at h
  split at h <;> first | (cases h; intro z hz; exact Option.some.inj hz) | cases h

noncomputable def F125a (N : Nat) : (Nat × Nat × (List (Int × ((List Int) × Unit)))) → Option ((List (Int × ((List Int) × Unit))))
  | (x0, x1, x2) =>
  Option.bind (F154a N (x0, x1, (↑x1 : Int), x2)) fun y0 =>
  some (y0)

theorem F125a_eq (N : Nat) (x0 : Nat) (x1 : Nat) (x2 : (List (Int × ((List Int) × Unit)))) : (fnEv (mkE Tryz.prog ownT (tab125a N) []) Tryz.f125 (J125a (x0, x1, x2))).run D125a = F125a N (x0, x1, x2) := by kernel_rfl

noncomputable def V125a (N : Nat) : Pk → Tr Pk := tell I125a (F125a N) O125a

theorem V125a_ok (N : Nat) : FOK Tryz.prog 125 (V125a N) :=
  (tell_ok (E := (mkE Tryz.prog ownT (tab125a N) [])) (mkE_ok mix (tab125a_ok N)) Tryz.func125 (show Tryz.f125.body = some (bod Tryz.f125) by kernel_rfl) (by decide +kernel) (F := F125a N) I125a_ok D125a_ok (args := A125a) (fun _ => by kernel_rfl) (fun _ => by show 2 ≤ Tryz.f125.ntmps; exact of_decide_eq_true (by kernel_rfl)) (cutsIn_ok trivial) (fun x => match x with | (x0, x1, x2) => F125a_eq N x0 x1 x2))

noncomputable def T125 (N : Nat) : Pk → Tr Pk := (V125a N)

theorem T125_ok (N : Nat) : FOK Tryz.prog 125 (T125 N) := (V125a_ok N)

/-! ## f94: mirador/huffman.merged -/

noncomputable def I94 : Pk → Option ((List (Int × ((List Int) × Unit))) × (List (Int × ((List Int) × Unit))))
  | ⟨[.ro (.cons (.int .i64) (.cons (.sl (.int .i64)) .unit)) x0, .ro (.cons (.int .i64) (.cons (.sl (.int .i64)) .unit)) x1], []⟩ => some (x0, x1)
  | _ => none

noncomputable def J94 (x : (List (Int × ((List Int) × Unit))) × (List (Int × ((List Int) × Unit)))) : Pk := ⟨[.ro (.cons (.int .i64) (.cons (.sl (.int .i64)) .unit)) (x.1), .ro (.cons (.int .i64) (.cons (.sl (.int .i64)) .unit)) (x.2)], []⟩

theorem I94_ok : ∀ pk x, I94 pk = some x → pk = J94 x := by
  intro pk x h
  unfold I94 at h
  split at h <;> first | (cases h; rfl) | cases h

noncomputable def A94 : List TV := []

noncomputable def tab94 (N : Nat) : List (Nat × (Pk → Tr Pk)) := [(124, T124 N), (125, T125 N)]

theorem tab94_ok (N : Nat) : TabOK Tryz.prog (tab94 N) := ⟨T124_ok N, ⟨T125_ok N, trivial⟩⟩

noncomputable def O94 (r : (List (Int × ((List Int) × Unit)))) : Tr (Pk) := .ret ⟨[.sl 0 (none)], [some (.row (Ty.cons (Ty.int IntKind.i64) (Ty.cons (Ty.sl (Ty.int IntKind.i64)) Ty.unit)) 137 (r))]⟩

noncomputable def D94 : Pk → Option ((List (Int × ((List Int) × Unit))))
  | ⟨[.sl 0 (none)], [some (.row (Ty.cons (Ty.int IntKind.i64) (Ty.cons (Ty.sl (Ty.int IntKind.i64)) Ty.unit)) 137 x0)]⟩ => some (x0)
  | _ => none

theorem D94_ok : ∀ y r, D94 y = some r → ∀ z, (O94 r).to z → y = z := by
  intro y r h
  unfold D94 at h
  split at h <;> first | (cases h; intro z hz; exact Option.some.inj hz) | cases h

noncomputable def F94 (N : Nat) : ((List (Int × ((List Int) × Unit))) × (List (Int × ((List Int) × Unit)))) → Option ((List (Int × ((List Int) × Unit))))
  | (x0, x1) =>
  Option.bind (F124 N [x0, x1]) fun y0 =>
  Option.bind (F125a N ((0 : Nat), List.length y0, y0)) fun y1 =>
  some (y1)

theorem F94_eq (N : Nat) (x0 : (List (Int × ((List Int) × Unit)))) (x1 : (List (Int × ((List Int) × Unit)))) : (fnEv (mkE Tryz.prog ownT (tab94 N) []) Tryz.f94 (J94 (x0, x1))).run D94 = F94 N (x0, x1) := by kernel_rfl

noncomputable def T94 (N : Nat) : Pk → Tr Pk := postT frzP (tell I94 (F94 N) O94)

theorem T94_ok (N : Nat) : FOK Tryz.prog 94 (T94 N) :=
  postT_ok frzP_ok (tell_ok (E := (mkE Tryz.prog ownT (tab94 N) [])) (mkE_ok mix (tab94_ok N)) Tryz.func94 (show Tryz.f94.body = some (bod Tryz.f94) by kernel_rfl) (by decide +kernel) (F := F94 N) I94_ok D94_ok (args := A94) (fun _ => by kernel_rfl) (fun _ => by show 2 ≤ Tryz.f94.ntmps; exact of_decide_eq_true (by kernel_rfl)) (cutsIn_ok trivial) (fun x => match x with | (x0, x1) => F94_eq N x0 x1))

/-! ## f93: mirador/huffman.coins -/

noncomputable def I93 : Pk → Option ((List Int))
  | ⟨[.ro (.int .i64) x0], []⟩ => some x0
  | _ => none

noncomputable def J93 (x : (List Int)) : Pk := ⟨[.ro (.int .i64) (x)], []⟩

theorem I93_ok : ∀ pk x, I93 pk = some x → pk = J93 x := by
  intro pk x h
  unfold I93 at h
  split at h <;> first | (cases h; rfl) | cases h

noncomputable def A93 : List TV := []

noncomputable def tab93 (N : Nat) : List (Nat × (Pk → Tr Pk)) := [(94, T94 N)]

theorem tab93_ok (N : Nat) : TabOK Tryz.prog (tab93 N) := ⟨T94_ok N, trivial⟩

def X93_58 : Ex → List Nat
  | .ret => [2, 3]
  | .exit 0 => [4]
  | _ => []

noncomputable def I93_58 : Pk → Option (Int × (List Int) × Int × (List (Int × ((List Int) × Unit))))
  | ⟨[.v (.int .i64 x0), .ro (Ty.int IntKind.i64) x1, .v (.int .i64 x2), .sl 0 (none)], [some (.row (Ty.cons (Ty.int IntKind.i64) (Ty.cons (Ty.sl (Ty.int IntKind.i64)) Ty.unit)) 137 x3)]⟩ => some (x0, x1, x2, x3)
  | _ => none

noncomputable def J93_58 (x : Int × (List Int) × Int × (List (Int × ((List Int) × Unit)))) : Pk := ⟨[.v (.int .i64 (x.1)), .ro (Ty.int IntKind.i64) (x.2.1), .v (.int .i64 (x.2.2.1)), .sl 0 (none)], [some (.row (Ty.cons (Ty.int IntKind.i64) (Ty.cons (Ty.sl (Ty.int IntKind.i64)) Ty.unit)) 137 (x.2.2.2))]⟩

theorem I93_58_ok : ∀ pk x, I93_58 pk = some x → pk = J93_58 x := by
  intro pk x h
  unfold I93_58 at h
  split at h <;> first | (cases h; rfl) | cases h

noncomputable def O93_58 (r : ((Int × (List (Int × ((List Int) × Unit)))) ⊕ ((List (Int × ((List Int) × Unit)))))) : Tr (Ex × Pk) := .sum _ _ r (fun u => .ret (.ret, ⟨[.sl 0 (none), .v (.int .i64 (u.1))], [some (.row (Ty.cons (Ty.int IntKind.i64) (Ty.cons (Ty.sl (Ty.int IntKind.i64)) Ty.unit)) 137 (u.2))]⟩)) (fun v => .ret (.exit 0, ⟨[.sl 0 (none)], [some (.row (Ty.cons (Ty.int IntKind.i64) (Ty.cons (Ty.sl (Ty.int IntKind.i64)) Ty.unit)) 137 (v))]⟩))

noncomputable def D93_58 : Ex × Pk → Option (((Int × (List (Int × ((List Int) × Unit)))) ⊕ ((List (Int × ((List Int) × Unit))))))
  | (.ret, ⟨[.sl 0 (none), .v (.int .i64 x0)], [some (.row (Ty.cons (Ty.int IntKind.i64) (Ty.cons (Ty.sl (Ty.int IntKind.i64)) Ty.unit)) 137 x1)]⟩) => some (.inl ((x0, x1)))
  | (.exit 0, ⟨[.sl 0 (none)], [some (.row (Ty.cons (Ty.int IntKind.i64) (Ty.cons (Ty.sl (Ty.int IntKind.i64)) Ty.unit)) 137 x0)]⟩) => some (.inr (x0))
  | _ => none

theorem D93_58_ok : ∀ y r, D93_58 y = some r → ∀ z, (O93_58 r).to z → y = z := by
  intro y r h
  unfold D93_58 at h
  split at h <;> first | (cases h; intro z hz; exact Option.some.inj hz) | cases h

noncomputable def B93_58 (N : Nat) (f : (Int × (List Int) × Int × (List (Int × ((List Int) × Unit)))) → Option (((Int × (List (Int × ((List Int) × Unit)))) ⊕ ((List (Int × ((List Int) × Unit))))))) : (Int × (List Int) × Int × (List (Int × ((List Int) × Unit)))) → Option (((Int × (List (Int × ((List Int) × Unit)))) ⊕ ((List (Int × ((List Int) × Unit))))))
  | (x0, x1, x2, x3) =>
  iteP (decide (x2 < x0)) (
    iteP (within x2 (List.length x1)) (
      Option.bind (x1[Int.toNat x2]?) fun y0 =>
      iteP (decide (y0 < (0 : Int))) (
        some (.inl (((1 : Int), [])))) (
        iteP (decide (y0 > (1073741824 : Int))) (
          some (.inl (((1 : Int), [])))) (
          iteP (decide (y0 > (0 : Int))) (
            iteP (decide ((List.length x3 + List.length [(y0, [x2], ())]) * (32 : Nat) ≤ (140737488355328 : Nat) ∧ List.length x3 + List.length [(y0, [x2], ())] ≤ (140737488355328 : Nat))) (
              Option.bind (f (x0, x1, IntKind.wrap IntKind.i64 (x2 + (1 : Int)), x3 ++ [(y0, [x2], ())])) fun r => match r with | .inl (y) => some (.inl (y)) | .inr (y) => some (.inr (y))) (
              none)) (
            Option.bind (f (x0, x1, IntKind.wrap IntKind.i64 (x2 + (1 : Int)), x3)) fun r => match r with | .inl (y) => some (.inl (y)) | .inr (y) => some (.inr (y)))))) (
      none)) (
    some (.inr (x3)))

noncomputable def F93_58 (N : Nat) : Nat → (Int × (List Int) × Int × (List (Int × ((List Int) × Unit)))) → Option (((Int × (List (Int × ((List Int) × Unit)))) ⊕ ((List (Int × ((List Int) × Unit))))))
  | 0, _ => none
  | k + 1, x => B93_58 N (F93_58 N k) x

noncomputable def C93_58 (N : Nat) (k : Nat) : Cut := ⟨[8, 7, 9, 4], X93_58, tellX I93_58 (F93_58 N k) O93_58⟩

theorem B93_58_eq (N : Nat) (f : (Int × (List Int) × Int × (List (Int × ((List Int) × Unit)))) → Option (((Int × (List (Int × ((List Int) × Unit)))) ⊕ ((List (Int × ((List Int) × Unit))))))) (x0 : Int) (x1 : (List Int)) (x2 : Int) (x3 : (List (Int × ((List Int) × Unit)))) : (roundEv (mkE Tryz.prog ownT (tab93 N) []) Tryz.f93.ntmps A93 (loopAt (bod Tryz.f93) 58) 58 ⟨[8, 7, 9, 4], X93_58, tellX I93_58 f O93_58⟩ (J93_58 (x0, x1, x2, x3))).run D93_58 = B93_58 N f (x0, x1, x2, x3) := by kernel_rfl

theorem C93_58_ok (N : Nat) (k : Nat) : ∀ c', At (bod Tryz.f93) 58 c' → CutOK Tryz.prog Tryz.f93.ntmps (idsL A93) c' (C93_58 N k) :=
  loop_ok (E := (mkE Tryz.prog ownT (tab93 N) [])) (mkE_ok mix (tab93_ok N)) (cutsIn_ok trivial) (fuel := 200) (by decide +kernel) (by kernel_rfl) I93_58_ok D93_58_ok (B93_58 N) (F93_58 N) (fun _ => rfl) (fun _ _ => rfl) (fun f x => match x with | (x0, x1, x2, x3) => B93_58_eq N f x0 x1 x2 x3) k

noncomputable def O93 (r : ((Int × (List (Int × ((List Int) × Unit)))) ⊕ ((List (Int × ((List Int) × Unit))) × Int))) : Tr (Pk) := .sum _ _ r (fun u => .ret ⟨[.tup [.sl 0 (none), .v (.int .i64 (u.1))]], [some (.row (Ty.cons (Ty.int IntKind.i64) (Ty.cons (Ty.sl (Ty.int IntKind.i64)) Ty.unit)) 137 (u.2))]⟩) (fun v => .ret ⟨[.tup [.ro (Ty.cons (Ty.int IntKind.i64) (Ty.cons (Ty.sl (Ty.int IntKind.i64)) Ty.unit)) (v.1), .v (.int .i64 (v.2))]], []⟩)

noncomputable def D93 : Pk → Option (((Int × (List (Int × ((List Int) × Unit)))) ⊕ ((List (Int × ((List Int) × Unit))) × Int)))
  | ⟨[.tup [.sl 0 (none), .v (.int .i64 x0)]], [some (.row (Ty.cons (Ty.int IntKind.i64) (Ty.cons (Ty.sl (Ty.int IntKind.i64)) Ty.unit)) 137 x1)]⟩ => some (.inl ((x0, x1)))
  | ⟨[.tup [.ro (Ty.cons (Ty.int IntKind.i64) (Ty.cons (Ty.sl (Ty.int IntKind.i64)) Ty.unit)) x0, .v (.int .i64 x1)]], []⟩ => some (.inr ((x0, x1)))
  | _ => none

theorem D93_ok : ∀ y r, D93 y = some r → ∀ z, (O93 r).to z → y = z := by
  intro y r h
  unfold D93 at h
  split at h <;> first | (cases h; intro z hz; exact Option.some.inj hz) | cases h

noncomputable def F93 (N : Nat) : ((List Int)) → Option (((Int × (List (Int × ((List Int) × Unit)))) ⊕ ((List (Int × ((List Int) × Unit))) × Int)))
  | x0 =>
  Option.bind (F93_58 N N ((↑(List.length x0) : Int), x0, (0 : Int), [])) fun y0 =>
  match y0 with
  | .inl y1 =>
    some (.inl ((Prod.fst y1, Prod.snd y1)))
  | .inr y1 =>
    Option.bind (F94 N (y1, [])) fun y2 =>
    some (.inr ((y2, (0 : Int))))

theorem F93_eq (N : Nat) (x0 : (List Int)) : (fnEv (mkE Tryz.prog ownT (tab93 N) [(58, (C93_58 N N))]) Tryz.f93 (J93 x0)).run D93 = F93 N x0 := by kernel_rfl

noncomputable def T93 (N : Nat) : Pk → Tr Pk := postT frzP (tell I93 (F93 N) O93)

theorem T93_ok (N : Nat) : FOK Tryz.prog 93 (T93 N) :=
  postT_ok frzP_ok (tell_ok (E := (mkE Tryz.prog ownT (tab93 N) [(58, (C93_58 N N))])) (mkE_ok mix (tab93_ok N)) Tryz.func93 (show Tryz.f93.body = some (bod Tryz.f93) by kernel_rfl) (by decide +kernel) (F := F93 N) I93_ok D93_ok (args := A93) (fun _ => by kernel_rfl) (fun _ => by show 1 ≤ Tryz.f93.ntmps; exact of_decide_eq_true (by kernel_rfl)) (cutsIn_ok ⟨fun c' h => (C93_58_ok N N c' h), trivial⟩) (fun x => match x with | x0 => F93_eq N x0))

/-! ## f92: slices.Grow[[]int,int] -/

noncomputable def I92 : Pk → Option (Int)
  | ⟨[.v (.slice none 0 0), .v (.int .i64 x0)], []⟩ => some x0
  | _ => none

noncomputable def J92 (x : Int) : Pk := ⟨[.v (.slice none 0 0), .v (.int .i64 (x))], []⟩

theorem I92_ok : ∀ pk x, I92 pk = some x → pk = J92 x := by
  intro pk x h
  unfold I92 at h
  split at h <;> first | (cases h; rfl) | cases h

noncomputable def A92 : List TV := []

noncomputable def tab92 (N : Nat) : List (Nat × (Pk → Tr Pk)) := []

theorem tab92_ok (N : Nat) : TabOK Tryz.prog (tab92 N) := trivial

noncomputable def O92 (r : (((List Int)) ⊕ ((List Int)))) : Tr (Pk) := .sum _ _ r (fun u => .ret ⟨[.sl 0 (some ((0, 0)))], [some (.row (Ty.int IntKind.i64) 3 (u))]⟩) (fun v => .ret ⟨[.sl 0 (none)], [some (.row (Ty.int IntKind.i64) 3 (v))]⟩)

noncomputable def D92 : Pk → Option ((((List Int)) ⊕ ((List Int))))
  | ⟨[.sl 0 (some ((0, 0)))], [some (.row (Ty.int IntKind.i64) 3 x0)]⟩ => some (.inl (x0))
  | ⟨[.sl 0 (none)], [some (.row (Ty.int IntKind.i64) 3 x0)]⟩ => some (.inr (x0))
  | _ => none

theorem D92_ok : ∀ y r, D92 y = some r → ∀ z, (O92 r).to z → y = z := by
  intro y r h
  unfold D92 at h
  split at h <;> first | (cases h; intro z hz; exact Option.some.inj hz) | cases h

noncomputable def F92 (N : Nat) : (Int) → Option ((((List Int)) ⊕ ((List Int))))
  | x0 =>
  iteP (decide (x0 < (0 : Int))) (
    none) (
    iteP (decide (IntKind.wrap IntKind.i64 (x0 - (0 : Int)) > (0 : Int))) (
      iteP (decide ((0 : Int) < IntKind.wrap IntKind.i64 (x0 - (0 : Int)) ∧ IntKind.wrap IntKind.i64 (x0 - (0 : Int)) * (8 : Int) ≤ (140737488355328 : Int) ∧ IntKind.wrap IntKind.i64 (x0 - (0 : Int)) ≤ (140737488355328 : Int))) (
        iteP (decide ((0 : Int) ≤ (0 : Int) ∧ (0 : Int) ≤ (↑(List.length (List.replicate (Int.toNat (IntKind.wrap IntKind.i64 (x0 - (0 : Int)))) (0 : Int))) : Int))) (
          some (.inl (List.replicate (Int.toNat (IntKind.wrap IntKind.i64 (x0 - (0 : Int)))) (0 : Int)))) (
          none)) (
        none)) (
      some (.inr ([]))))

theorem F92_eq (N : Nat) (x0 : Int) : (fnEv (mkE Tryz.prog ownT (tab92 N) []) Tryz.f92 (J92 x0)).run D92 = F92 N x0 := by kernel_rfl

noncomputable def T92 (N : Nat) : Pk → Tr Pk := postT (trimP (Ty.int IntKind.i64) 3) (tell I92 (F92 N) O92)

theorem T92_ok (N : Nat) : FOK Tryz.prog 92 (T92 N) :=
  postT_ok (trimP_ok _ _) (tell_ok (E := (mkE Tryz.prog ownT (tab92 N) [])) (mkE_ok mix (tab92_ok N)) Tryz.func92 (show Tryz.f92.body = some (bod Tryz.f92) by kernel_rfl) (by decide +kernel) (F := F92 N) I92_ok D92_ok (args := A92) (fun _ => by kernel_rfl) (fun _ => by show 2 ≤ Tryz.f92.ntmps; exact of_decide_eq_true (by kernel_rfl)) (cutsIn_ok trivial) (fun x => match x with | x0 => F92_eq N x0))

/-! ## f55: slices.Concat[[]int,int] -/

noncomputable def I55 : Pk → Option ((List (List Int)))
  | ⟨[.ro (.sl (.int .i64)) x0], []⟩ => some x0
  | _ => none

noncomputable def J55 (x : (List (List Int))) : Pk := ⟨[.ro (.sl (.int .i64)) (x)], []⟩

theorem I55_ok : ∀ pk x, I55 pk = some x → pk = J55 x := by
  intro pk x h
  unfold I55 at h
  split at h <;> first | (cases h; rfl) | cases h

noncomputable def A55 : List TV := []

noncomputable def tab55 (N : Nat) : List (Nat × (Pk → Tr Pk)) := [(92, T92 N)]

theorem tab55_ok (N : Nat) : TabOK Tryz.prog (tab55 N) := ⟨T92_ok N, trivial⟩

def X55_58 : Ex → List Nat
  | .ret => [2]
  | .exit 0 => [3, 0]
  | _ => []

def X55_250 : Ex → List Nat
  | .ret => [2]
  | .exit 2 => [6]
  | _ => []

noncomputable def I55_58 : Pk → Option (Int × Int × Int × (List (List Int)) × (List (List Int)))
  | ⟨[.v (.int .i64 x0), .v (.int .i64 x1), .v (.int .i64 x2), .ro (Ty.sl (Ty.int IntKind.i64)) x3, .ro (Ty.sl (Ty.int IntKind.i64)) x4], []⟩ => some (x0, x1, x2, x3, x4)
  | _ => none

noncomputable def J55_58 (x : Int × Int × Int × (List (List Int)) × (List (List Int))) : Pk := ⟨[.v (.int .i64 (x.1)), .v (.int .i64 (x.2.1)), .v (.int .i64 (x.2.2.1)), .ro (Ty.sl (Ty.int IntKind.i64)) (x.2.2.2.1), .ro (Ty.sl (Ty.int IntKind.i64)) (x.2.2.2.2)], []⟩

theorem I55_58_ok : ∀ pk x, I55_58 pk = some x → pk = J55_58 x := by
  intro pk x h
  unfold I55_58 at h
  split at h <;> first | (cases h; rfl) | cases h

noncomputable def O55_58 (r : Int × (List (List Int))) : Tr (Ex × Pk) := .ret (.exit 0, ⟨[.v (.int .i64 (r.1)), .ro (Ty.sl (Ty.int IntKind.i64)) (r.2)], []⟩)

noncomputable def D55_58 : Ex × Pk → Option (Int × (List (List Int)))
  | (.exit 0, ⟨[.v (.int .i64 x0), .ro (Ty.sl (Ty.int IntKind.i64)) x1], []⟩) => some ((x0, x1))
  | _ => none

theorem D55_58_ok : ∀ y r, D55_58 y = some r → ∀ z, (O55_58 r).to z → y = z := by
  intro y r h
  unfold D55_58 at h
  split at h <;> first | (cases h; intro z hz; exact Option.some.inj hz) | cases h

noncomputable def B55_58 (N : Nat) (f : (Int × Int × Int × (List (List Int)) × (List (List Int))) → Option (Int × (List (List Int)))) : (Int × Int × Int × (List (List Int)) × (List (List Int))) → Option (Int × (List (List Int)))
  | (x0, x1, x2, x3, x4) =>
  iteP (decide (x1 < x2)) (
    iteP (within x1 (List.length x4)) (
      Option.bind (x4[Int.toNat x1]?) fun y0 =>
      iteP (decide (IntKind.wrap IntKind.i64 (x0 + (↑(List.length y0) : Int)) < (0 : Int))) (
        none) (
        Option.bind (f (IntKind.wrap IntKind.i64 (x0 + (↑(List.length y0) : Int)), IntKind.wrap IntKind.i64 (x1 + (1 : Int)), x2, x3, x4)) fun r => some r)) (
      none)) (
    some ((x0, x3)))

noncomputable def F55_58 (N : Nat) : Nat → (Int × Int × Int × (List (List Int)) × (List (List Int))) → Option (Int × (List (List Int)))
  | 0, _ => none
  | k + 1, x => B55_58 N (F55_58 N k) x

noncomputable def C55_58 (N : Nat) (k : Nat) : Cut := ⟨[3, 11, 10, 0, 9], X55_58, tellX I55_58 (F55_58 N k) O55_58⟩

theorem B55_58_eq (N : Nat) (f : (Int × Int × Int × (List (List Int)) × (List (List Int))) → Option (Int × (List (List Int)))) (x0 : Int) (x1 : Int) (x2 : Int) (x3 : (List (List Int))) (x4 : (List (List Int))) : (roundEv (mkE Tryz.prog ownT (tab55 N) []) Tryz.f55.ntmps A55 (loopAt (bod Tryz.f55) 58) 58 ⟨[3, 11, 10, 0, 9], X55_58, tellX I55_58 f O55_58⟩ (J55_58 (x0, x1, x2, x3, x4))).run D55_58 = B55_58 N f (x0, x1, x2, x3, x4) := by kernel_rfl

theorem C55_58_ok (N : Nat) (k : Nat) : ∀ c', At (bod Tryz.f55) 58 c' → CutOK Tryz.prog Tryz.f55.ntmps (idsL A55) c' (C55_58 N k) :=
  loop_ok (E := (mkE Tryz.prog ownT (tab55 N) [])) (mkE_ok mix (tab55_ok N)) (cutsIn_ok trivial) (fuel := 200) (by decide +kernel) (by kernel_rfl) I55_58_ok D55_58_ok (B55_58 N) (F55_58 N) (fun _ => rfl) (fun _ _ => rfl) (fun f x => match x with | (x0, x1, x2, x3, x4) => B55_58_eq N f x0 x1 x2 x3 x4) k

noncomputable def I55_250 : Pk → Option (Int × Int × (List (List Int)) × (List Int))
  | ⟨[.sl 0 (none), .v (.int .i64 x0), .v (.int .i64 x1), .ro (Ty.sl (Ty.int IntKind.i64)) x2], [some (.row (Ty.int IntKind.i64) 3 x3)]⟩ => some (x0, x1, x2, x3)
  | _ => none

noncomputable def J55_250 (x : Int × Int × (List (List Int)) × (List Int)) : Pk := ⟨[.sl 0 (none), .v (.int .i64 (x.1)), .v (.int .i64 (x.2.1)), .ro (Ty.sl (Ty.int IntKind.i64)) (x.2.2.1)], [some (.row (Ty.int IntKind.i64) 3 (x.2.2.2))]⟩

theorem I55_250_ok : ∀ pk x, I55_250 pk = some x → pk = J55_250 x := by
  intro pk x h
  unfold I55_250 at h
  split at h <;> first | (cases h; rfl) | cases h

noncomputable def O55_250 (r : (List Int)) : Tr (Ex × Pk) := .ret (.exit 2, ⟨[.sl 0 (none)], [some (.row (Ty.int IntKind.i64) 3 (r))]⟩)

noncomputable def D55_250 : Ex × Pk → Option ((List Int))
  | (.exit 2, ⟨[.sl 0 (none)], [some (.row (Ty.int IntKind.i64) 3 x0)]⟩) => some (x0)
  | _ => none

theorem D55_250_ok : ∀ y r, D55_250 y = some r → ∀ z, (O55_250 r).to z → y = z := by
  intro y r h
  unfold D55_250 at h
  split at h <;> first | (cases h; intro z hz; exact Option.some.inj hz) | cases h

noncomputable def B55_250 (N : Nat) (f : (Int × Int × (List (List Int)) × (List Int)) → Option ((List Int))) : (Int × Int × (List (List Int)) × (List Int)) → Option ((List Int))
  | (x0, x1, x2, x3) =>
  iteP (decide (x0 < x1)) (
    iteP (within x0 (List.length x2)) (
      Option.bind (x2[Int.toNat x0]?) fun y0 =>
      iteP (decide ((List.length x3 + List.length y0) * (8 : Nat) ≤ (140737488355328 : Nat) ∧ List.length x3 + List.length y0 ≤ (140737488355328 : Nat))) (
        Option.bind (f (IntKind.wrap IntKind.i64 (x0 + (1 : Int)), x1, x2, x3 ++ y0)) fun r => some r) (
        none)) (
      none)) (
    some (x3))

noncomputable def F55_250 (N : Nat) : Nat → (Int × Int × (List (List Int)) × (List Int)) → Option ((List Int))
  | 0, _ => none
  | k + 1, x => B55_250 N (F55_250 N k) x

noncomputable def C55_250 (N : Nat) (k : Nat) : Cut := ⟨[6, 27, 26, 25], X55_250, tellX I55_250 (F55_250 N k) O55_250⟩

theorem B55_250_eq (N : Nat) (f : (Int × Int × (List (List Int)) × (List Int)) → Option ((List Int))) (x0 : Int) (x1 : Int) (x2 : (List (List Int))) (x3 : (List Int)) : (roundEv (mkE Tryz.prog ownT (tab55 N) [(58, (C55_58 N N))]) Tryz.f55.ntmps A55 (loopAt (bod Tryz.f55) 250) 250 ⟨[6, 27, 26, 25], X55_250, tellX I55_250 f O55_250⟩ (J55_250 (x0, x1, x2, x3))).run D55_250 = B55_250 N f (x0, x1, x2, x3) := by kernel_rfl

theorem C55_250_ok (N : Nat) (k : Nat) : ∀ c', At (bod Tryz.f55) 250 c' → CutOK Tryz.prog Tryz.f55.ntmps (idsL A55) c' (C55_250 N k) :=
  loop_ok (E := (mkE Tryz.prog ownT (tab55 N) [(58, (C55_58 N N))])) (mkE_ok mix (tab55_ok N)) (cutsIn_ok ⟨fun c' h => (C55_58_ok N N c' h), trivial⟩) (fuel := 200) (by decide +kernel) (by kernel_rfl) I55_250_ok D55_250_ok (B55_250 N) (F55_250 N) (fun _ => rfl) (fun _ _ => rfl) (fun f x => match x with | (x0, x1, x2, x3) => B55_250_eq N f x0 x1 x2 x3) k

noncomputable def O55 (r : (List Int)) : Tr (Pk) := .ret ⟨[.sl 0 (none)], [some (.row (Ty.int IntKind.i64) 3 (r))]⟩

noncomputable def D55 : Pk → Option ((List Int))
  | ⟨[.sl 0 (none)], [some (.row (Ty.int IntKind.i64) 3 x0)]⟩ => some (x0)
  | _ => none

theorem D55_ok : ∀ y r, D55 y = some r → ∀ z, (O55 r).to z → y = z := by
  intro y r h
  unfold D55 at h
  split at h <;> first | (cases h; intro z hz; exact Option.some.inj hz) | cases h

noncomputable def F55 (N : Nat) : ((List (List Int))) → Option ((List Int))
  | x0 =>
  Option.bind (F55_58 N N ((0 : Int), (0 : Int), (↑(List.length x0) : Int), x0, x0)) fun y0 =>
  Option.bind (F92 N (Prod.fst y0)) fun y1 =>
  match y1 with
  | .inl y2 =>
    Option.bind (F55_250 N N ((0 : Int), (↑(List.length (Prod.snd y0)) : Int), Prod.snd y0, [])) fun y3 =>
    some (y3)
  | .inr y2 =>
    Option.bind (F55_250 N N ((0 : Int), (↑(List.length (Prod.snd y0)) : Int), Prod.snd y0, y2)) fun y4 =>
    some (y4)

theorem F55_eq (N : Nat) (x0 : (List (List Int))) : (fnEv (mkE Tryz.prog ownT (tab55 N) [(58, (C55_58 N N)), (250, (C55_250 N N))]) Tryz.f55 (J55 x0)).run D55 = F55 N x0 := by kernel_rfl

noncomputable def T55 (N : Nat) : Pk → Tr Pk := tell I55 (F55 N) O55

theorem T55_ok (N : Nat) : FOK Tryz.prog 55 (T55 N) :=
  (tell_ok (E := (mkE Tryz.prog ownT (tab55 N) [(58, (C55_58 N N)), (250, (C55_250 N N))])) (mkE_ok mix (tab55_ok N)) Tryz.func55 (show Tryz.f55.body = some (bod Tryz.f55) by kernel_rfl) (by decide +kernel) (F := F55 N) I55_ok D55_ok (args := A55) (fun _ => by kernel_rfl) (fun _ => by show 1 ≤ Tryz.f55.ntmps; exact of_decide_eq_true (by kernel_rfl)) (cutsIn_ok ⟨fun c' h => (C55_58_ok N N c' h), ⟨fun c' h => (C55_250_ok N N c' h), trivial⟩⟩) (fun x => match x with | x0 => F55_eq N x0))

/-! ## f95: mirador/huffman.paired -/

noncomputable def I95 : Pk → Option ((List (Int × ((List Int) × Unit))))
  | ⟨[.ro (.cons (.int .i64) (.cons (.sl (.int .i64)) .unit)) x0], []⟩ => some x0
  | _ => none

noncomputable def J95 (x : (List (Int × ((List Int) × Unit)))) : Pk := ⟨[.ro (.cons (.int .i64) (.cons (.sl (.int .i64)) .unit)) (x)], []⟩

theorem I95_ok : ∀ pk x, I95 pk = some x → pk = J95 x := by
  intro pk x h
  unfold I95 at h
  split at h <;> first | (cases h; rfl) | cases h

noncomputable def A95 : List TV := []

noncomputable def tab95 (N : Nat) : List (Nat × (Pk → Tr Pk)) := [(55, T55 N)]

theorem tab95_ok (N : Nat) : TabOK Tryz.prog (tab95 N) := ⟨T55_ok N, trivial⟩

def X95_58 : Ex → List Nat
  | .ret => [2]
  | .exit 0 => [3]
  | _ => []

noncomputable def I95_58 : Pk → Option (Int × (List (Int × ((List Int) × Unit))) × (List (Int × ((List Int) × Unit))))
  | ⟨[.sl 0 (none), .v (.int .i64 x0), .ro (Ty.cons (Ty.int IntKind.i64) (Ty.cons (Ty.sl (Ty.int IntKind.i64)) Ty.unit)) x1], [some (.row (Ty.cons (Ty.int IntKind.i64) (Ty.cons (Ty.sl (Ty.int IntKind.i64)) Ty.unit)) 137 x2)]⟩ => some (x0, x1, x2)
  | _ => none

noncomputable def J95_58 (x : Int × (List (Int × ((List Int) × Unit))) × (List (Int × ((List Int) × Unit)))) : Pk := ⟨[.sl 0 (none), .v (.int .i64 (x.1)), .ro (Ty.cons (Ty.int IntKind.i64) (Ty.cons (Ty.sl (Ty.int IntKind.i64)) Ty.unit)) (x.2.1)], [some (.row (Ty.cons (Ty.int IntKind.i64) (Ty.cons (Ty.sl (Ty.int IntKind.i64)) Ty.unit)) 137 (x.2.2))]⟩

theorem I95_58_ok : ∀ pk x, I95_58 pk = some x → pk = J95_58 x := by
  intro pk x h
  unfold I95_58 at h
  split at h <;> first | (cases h; rfl) | cases h

noncomputable def O95_58 (r : (List (Int × ((List Int) × Unit)))) : Tr (Ex × Pk) := .ret (.exit 0, ⟨[.sl 0 (none)], [some (.row (Ty.cons (Ty.int IntKind.i64) (Ty.cons (Ty.sl (Ty.int IntKind.i64)) Ty.unit)) 137 (r))]⟩)

noncomputable def D95_58 : Ex × Pk → Option ((List (Int × ((List Int) × Unit))))
  | (.exit 0, ⟨[.sl 0 (none)], [some (.row (Ty.cons (Ty.int IntKind.i64) (Ty.cons (Ty.sl (Ty.int IntKind.i64)) Ty.unit)) 137 x0)]⟩) => some (x0)
  | _ => none

theorem D95_58_ok : ∀ y r, D95_58 y = some r → ∀ z, (O95_58 r).to z → y = z := by
  intro y r h
  unfold D95_58 at h
  split at h <;> first | (cases h; intro z hz; exact Option.some.inj hz) | cases h

noncomputable def B95_58 (N : Nat) (f : (Int × (List (Int × ((List Int) × Unit))) × (List (Int × ((List Int) × Unit)))) → Option ((List (Int × ((List Int) × Unit))))) : (Int × (List (Int × ((List Int) × Unit))) × (List (Int × ((List Int) × Unit)))) → Option ((List (Int × ((List Int) × Unit))))
  | (x0, x1, x2) =>
  iteP (decide (IntKind.wrap IntKind.i64 (x0 + (1 : Int)) < (↑(List.length x1) : Int))) (
    iteP (within x0 (List.length x1)) (
      Option.bind (x1[Int.toNat x0]?) fun y0 =>
      iteP (within (IntKind.wrap IntKind.i64 (x0 + (1 : Int))) (List.length x1)) (
        Option.bind (x1[Int.toNat (IntKind.wrap IntKind.i64 (x0 + (1 : Int)))]?) fun y1 =>
        iteP (within x0 (List.length x1)) (
          Option.bind (x1[Int.toNat x0]?) fun y2 =>
          iteP (within (IntKind.wrap IntKind.i64 (x0 + (1 : Int))) (List.length x1)) (
            Option.bind (x1[Int.toNat (IntKind.wrap IntKind.i64 (x0 + (1 : Int)))]?) fun y3 =>
            Option.bind (F55 N [Prod.fst (Prod.snd y2), Prod.fst (Prod.snd y3)]) fun y4 =>
            iteP (decide ((List.length x2 + List.length [(IntKind.wrap IntKind.i64 (Prod.fst y0 + Prod.fst y1), y4, ())]) * (32 : Nat) ≤ (140737488355328 : Nat) ∧ List.length x2 + List.length [(IntKind.wrap IntKind.i64 (Prod.fst y0 + Prod.fst y1), y4, ())] ≤ (140737488355328 : Nat))) (
              Option.bind (f (IntKind.wrap IntKind.i64 (x0 + (2 : Int)), x1, x2 ++ [(IntKind.wrap IntKind.i64 (Prod.fst y0 + Prod.fst y1), y4, ())])) fun r => some r) (
              none)) (
            none)) (
          none)) (
        none)) (
      none)) (
    some (x2))

noncomputable def F95_58 (N : Nat) : Nat → (Int × (List (Int × ((List Int) × Unit))) × (List (Int × ((List Int) × Unit)))) → Option ((List (Int × ((List Int) × Unit))))
  | 0, _ => none
  | k + 1, x => B95_58 N (F95_58 N k) x

noncomputable def C95_58 (N : Nat) (k : Nat) : Cut := ⟨[3, 4, 0], X95_58, tellX I95_58 (F95_58 N k) O95_58⟩

theorem B95_58_eq (N : Nat) (f : (Int × (List (Int × ((List Int) × Unit))) × (List (Int × ((List Int) × Unit)))) → Option ((List (Int × ((List Int) × Unit))))) (x0 : Int) (x1 : (List (Int × ((List Int) × Unit)))) (x2 : (List (Int × ((List Int) × Unit)))) : (roundEv (mkE Tryz.prog ownT (tab95 N) []) Tryz.f95.ntmps A95 (loopAt (bod Tryz.f95) 58) 58 ⟨[3, 4, 0], X95_58, tellX I95_58 f O95_58⟩ (J95_58 (x0, x1, x2))).run D95_58 = B95_58 N f (x0, x1, x2) := by kernel_rfl

theorem C95_58_ok (N : Nat) (k : Nat) : ∀ c', At (bod Tryz.f95) 58 c' → CutOK Tryz.prog Tryz.f95.ntmps (idsL A95) c' (C95_58 N k) :=
  loop_ok (E := (mkE Tryz.prog ownT (tab95 N) [])) (mkE_ok mix (tab95_ok N)) (cutsIn_ok trivial) (fuel := 200) (by decide +kernel) (by kernel_rfl) I95_58_ok D95_58_ok (B95_58 N) (F95_58 N) (fun _ => rfl) (fun _ _ => rfl) (fun f x => match x with | (x0, x1, x2) => B95_58_eq N f x0 x1 x2) k

noncomputable def O95 (r : (List (Int × ((List Int) × Unit)))) : Tr (Pk) := .ret ⟨[.sl 0 (none)], [some (.row (Ty.cons (Ty.int IntKind.i64) (Ty.cons (Ty.sl (Ty.int IntKind.i64)) Ty.unit)) 137 (r))]⟩

noncomputable def D95 : Pk → Option ((List (Int × ((List Int) × Unit))))
  | ⟨[.sl 0 (none)], [some (.row (Ty.cons (Ty.int IntKind.i64) (Ty.cons (Ty.sl (Ty.int IntKind.i64)) Ty.unit)) 137 x0)]⟩ => some (x0)
  | _ => none

theorem D95_ok : ∀ y r, D95 y = some r → ∀ z, (O95 r).to z → y = z := by
  intro y r h
  unfold D95 at h
  split at h <;> first | (cases h; intro z hz; exact Option.some.inj hz) | cases h

noncomputable def F95 (N : Nat) : ((List (Int × ((List Int) × Unit)))) → Option ((List (Int × ((List Int) × Unit))))
  | x0 =>
  Option.bind (F95_58 N N ((0 : Int), x0, [])) fun y0 =>
  some (y0)

theorem F95_eq (N : Nat) (x0 : (List (Int × ((List Int) × Unit)))) : (fnEv (mkE Tryz.prog ownT (tab95 N) [(58, (C95_58 N N))]) Tryz.f95 (J95 x0)).run D95 = F95 N x0 := by kernel_rfl

noncomputable def T95 (N : Nat) : Pk → Tr Pk := postT frzP (tell I95 (F95 N) O95)

theorem T95_ok (N : Nat) : FOK Tryz.prog 95 (T95 N) :=
  postT_ok frzP_ok (tell_ok (E := (mkE Tryz.prog ownT (tab95 N) [(58, (C95_58 N N))])) (mkE_ok mix (tab95_ok N)) Tryz.func95 (show Tryz.f95.body = some (bod Tryz.f95) by kernel_rfl) (by decide +kernel) (F := F95 N) I95_ok D95_ok (args := A95) (fun _ => by kernel_rfl) (fun _ => by show 1 ≤ Tryz.f95.ntmps; exact of_decide_eq_true (by kernel_rfl)) (cutsIn_ok ⟨fun c' h => (C95_58_ok N N c' h), trivial⟩) (fun x => match x with | x0 => F95_eq N x0))


end Go.Proofs.YteddgkplkjldcaaGreat.Am

set_option linter.unusedVariables false
set_option maxRecDepth 100000
namespace Go.Proofs.YteddgkplkjldcaaGreat.Am
open Go.Am

/-! ## f56: mirador/huffman.Lengths -/

noncomputable def I56 : Pk → Option ((List Int) × Int)
  | ⟨[.ro (.int .i64) x0, .v (.int .i64 x1)], []⟩ => some (x0, x1)
  | _ => none

noncomputable def J56 (x : (List Int) × Int) : Pk := ⟨[.ro (.int .i64) (x.1), .v (.int .i64 (x.2))], []⟩

theorem I56_ok : ∀ pk x, I56 pk = some x → pk = J56 x := by
  intro pk x h
  unfold I56 at h
  split at h <;> first | (cases h; rfl) | cases h

noncomputable def A56 : List TV := []

noncomputable def tab56 (N : Nat) : List (Nat × (Pk → Tr Pk)) := [(93, T93 N), (95, T95 N), (94, T94 N)]

theorem tab56_ok (N : Nat) : TabOK Tryz.prog (tab56 N) := ⟨T93_ok N, ⟨T95_ok N, ⟨T94_ok N, trivial⟩⟩⟩

def X56_4090 : Ex → List Nat
  | .ret => [4, 5]
  | .exit 1 => [9, 6, 8]
  | _ => []

def X56_2095718 : Ex → List Nat
  | .ret => [4, 5]
  | .exit 5 => [75, 74, 73, 8]
  | .exit 4 => [75, 74, 73, 8]
  | .exit 3 => [8]
  | _ => []

def X56_8186 : Ex → List Nat
  | .ret => [4, 5]
  | .exit 3 => [8]
  | _ => []

noncomputable def I56_4090 : Pk → Option ((List (Int × ((List Int) × Unit))) × Int × Int × (List (Int × ((List Int) × Unit))) × (List Int))
  | ⟨[.ro (Ty.cons (Ty.int IntKind.i64) (Ty.cons (Ty.sl (Ty.int IntKind.i64)) Ty.unit)) x0, .v (.int .i64 x1), .v (.int .i64 x2), .sl 0 (none), .ro (Ty.cons (Ty.int IntKind.i64) (Ty.cons (Ty.sl (Ty.int IntKind.i64)) Ty.unit)) x3], [some (.row (Ty.int IntKind.i64) 3 x4)]⟩ => some (x0, x1, x2, x3, x4)
  | _ => none

noncomputable def J56_4090 (x : (List (Int × ((List Int) × Unit))) × Int × Int × (List (Int × ((List Int) × Unit))) × (List Int)) : Pk := ⟨[.ro (Ty.cons (Ty.int IntKind.i64) (Ty.cons (Ty.sl (Ty.int IntKind.i64)) Ty.unit)) (x.1), .v (.int .i64 (x.2.1)), .v (.int .i64 (x.2.2.1)), .sl 0 (none), .ro (Ty.cons (Ty.int IntKind.i64) (Ty.cons (Ty.sl (Ty.int IntKind.i64)) Ty.unit)) (x.2.2.2.1)], [some (.row (Ty.int IntKind.i64) 3 (x.2.2.2.2))]⟩

theorem I56_4090_ok : ∀ pk x, I56_4090 pk = some x → pk = J56_4090 x := by
  intro pk x h
  unfold I56_4090 at h
  split at h <;> first | (cases h; rfl) | cases h

noncomputable def O56_4090 (r : (List (Int × ((List Int) × Unit))) × (List (Int × ((List Int) × Unit))) × (List Int)) : Tr (Ex × Pk) := .ret (.exit 1, ⟨[.ro (Ty.cons (Ty.int IntKind.i64) (Ty.cons (Ty.sl (Ty.int IntKind.i64)) Ty.unit)) (r.1), .ro (Ty.cons (Ty.int IntKind.i64) (Ty.cons (Ty.sl (Ty.int IntKind.i64)) Ty.unit)) (r.2.1), .sl 0 (none)], [some (.row (Ty.int IntKind.i64) 3 (r.2.2))]⟩)

noncomputable def D56_4090 : Ex × Pk → Option ((List (Int × ((List Int) × Unit))) × (List (Int × ((List Int) × Unit))) × (List Int))
  | (.exit 1, ⟨[.ro (Ty.cons (Ty.int IntKind.i64) (Ty.cons (Ty.sl (Ty.int IntKind.i64)) Ty.unit)) x0, .ro (Ty.cons (Ty.int IntKind.i64) (Ty.cons (Ty.sl (Ty.int IntKind.i64)) Ty.unit)) x1, .sl 0 (none)], [some (.row (Ty.int IntKind.i64) 3 x2)]⟩) => some ((x0, x1, x2))
  | _ => none

theorem D56_4090_ok : ∀ y r, D56_4090 y = some r → ∀ z, (O56_4090 r).to z → y = z := by
  intro y r h
  unfold D56_4090 at h
  split at h <;> first | (cases h; intro z hz; exact Option.some.inj hz) | cases h

noncomputable def B56_4090 (N : Nat) (f : ((List (Int × ((List Int) × Unit))) × Int × Int × (List (Int × ((List Int) × Unit))) × (List Int)) → Option ((List (Int × ((List Int) × Unit))) × (List (Int × ((List Int) × Unit))) × (List Int))) : ((List (Int × ((List Int) × Unit))) × Int × Int × (List (Int × ((List Int) × Unit))) × (List Int)) → Option ((List (Int × ((List Int) × Unit))) × (List (Int × ((List Int) × Unit))) × (List Int))
  | (x0, x1, x2, x3, x4) =>
  iteP (decide (x1 < x2)) (
    Option.bind (F95 N x0) fun y0 =>
    Option.bind (F94 N (x3, y0)) fun y1 =>
    Option.bind (f (y1, IntKind.wrap IntKind.i64 (x1 + (1 : Int)), x2, x3, x4)) fun r => some r) (
    some ((x0, x3, x4)))

noncomputable def F56_4090 (N : Nat) : Nat → ((List (Int × ((List Int) × Unit))) × Int × Int × (List (Int × ((List Int) × Unit))) × (List Int)) → Option ((List (Int × ((List Int) × Unit))) × (List (Int × ((List Int) × Unit))) × (List Int))
  | 0, _ => none
  | k + 1, x => B56_4090 N (F56_4090 N k) x

noncomputable def C56_4090 (N : Nat) (k : Nat) : Cut := ⟨[9, 61, 60, 8, 6], X56_4090, tellX I56_4090 (F56_4090 N k) O56_4090⟩

theorem B56_4090_eq (N : Nat) (f : ((List (Int × ((List Int) × Unit))) × Int × Int × (List (Int × ((List Int) × Unit))) × (List Int)) → Option ((List (Int × ((List Int) × Unit))) × (List (Int × ((List Int) × Unit))) × (List Int))) (x0 : (List (Int × ((List Int) × Unit)))) (x1 : Int) (x2 : Int) (x3 : (List (Int × ((List Int) × Unit)))) (x4 : (List Int)) : (roundEv (mkE Tryz.prog ownT (tab56 N) []) Tryz.f56.ntmps A56 (loopAt (bod Tryz.f56) 4090) 4090 ⟨[9, 61, 60, 8, 6], X56_4090, tellX I56_4090 f O56_4090⟩ (J56_4090 (x0, x1, x2, x3, x4))).run D56_4090 = B56_4090 N f (x0, x1, x2, x3, x4) := by kernel_rfl

theorem C56_4090_ok (N : Nat) (k : Nat) : ∀ c', At (bod Tryz.f56) 4090 c' → CutOK Tryz.prog Tryz.f56.ntmps (idsL A56) c' (C56_4090 N k) :=
  loop_ok (E := (mkE Tryz.prog ownT (tab56 N) [])) (mkE_ok mix (tab56_ok N)) (cutsIn_ok trivial) (fuel := 200) (by decide +kernel) (by kernel_rfl) I56_4090_ok D56_4090_ok (B56_4090 N) (F56_4090 N) (fun _ => rfl) (fun _ _ => rfl) (fun f x => match x with | (x0, x1, x2, x3, x4) => B56_4090_eq N f x0 x1 x2 x3 x4) k

noncomputable def I56_8186 : Pk → Option (Int × (List (Int × ((List Int) × Unit))) × Int × (List Int))
  | ⟨[.v (.int .i64 x0), .ro (Ty.cons (Ty.int IntKind.i64) (Ty.cons (Ty.sl (Ty.int IntKind.i64)) Ty.unit)) x1, .v (.int .i64 x2), .sl 0 (none)], [some (.row (Ty.int IntKind.i64) 3 x3)]⟩ => some (x0, x1, x2, x3)
  | _ => none

noncomputable def J56_8186 (x : Int × (List (Int × ((List Int) × Unit))) × Int × (List Int)) : Pk := ⟨[.v (.int .i64 (x.1)), .ro (Ty.cons (Ty.int IntKind.i64) (Ty.cons (Ty.sl (Ty.int IntKind.i64)) Ty.unit)) (x.2.1), .v (.int .i64 (x.2.2.1)), .sl 0 (none)], [some (.row (Ty.int IntKind.i64) 3 (x.2.2.2))]⟩

theorem I56_8186_ok : ∀ pk x, I56_8186 pk = some x → pk = J56_8186 x := by
  intro pk x h
  unfold I56_8186 at h
  split at h <;> first | (cases h; rfl) | cases h

noncomputable def I56_2095718 : Pk → Option (Int × Int × (List (Int × ((List Int) × Unit))) × Int × Int × (List Int) × (List Int))
  | ⟨[.v (.int .i64 x0), .v (.int .i64 x1), .ro (Ty.cons (Ty.int IntKind.i64) (Ty.cons (Ty.sl (Ty.int IntKind.i64)) Ty.unit)) x2, .v (.int .i64 x3), .v (.int .i64 x4), .ro (Ty.int IntKind.i64) x5, .sl 0 (none)], [some (.row (Ty.int IntKind.i64) 3 x6)]⟩ => some (x0, x1, x2, x3, x4, x5, x6)
  | _ => none

noncomputable def J56_2095718 (x : Int × Int × (List (Int × ((List Int) × Unit))) × Int × Int × (List Int) × (List Int)) : Pk := ⟨[.v (.int .i64 (x.1)), .v (.int .i64 (x.2.1)), .ro (Ty.cons (Ty.int IntKind.i64) (Ty.cons (Ty.sl (Ty.int IntKind.i64)) Ty.unit)) (x.2.2.1), .v (.int .i64 (x.2.2.2.1)), .v (.int .i64 (x.2.2.2.2.1)), .ro (Ty.int IntKind.i64) (x.2.2.2.2.2.1), .sl 0 (none)], [some (.row (Ty.int IntKind.i64) 3 (x.2.2.2.2.2.2))]⟩

theorem I56_2095718_ok : ∀ pk x, I56_2095718 pk = some x → pk = J56_2095718 x := by
  intro pk x h
  unfold I56_2095718 at h
  split at h <;> first | (cases h; rfl) | cases h

noncomputable def O56_2095718 (r : Int × Int × (List (Int × ((List Int) × Unit))) × (List Int)) : Tr (Ex × Pk) := .ret (.exit 5, ⟨[.v (.int .i64 (r.1)), .v (.int .i64 (r.2.1)), .ro (Ty.cons (Ty.int IntKind.i64) (Ty.cons (Ty.sl (Ty.int IntKind.i64)) Ty.unit)) (r.2.2.1), .sl 0 (none)], [some (.row (Ty.int IntKind.i64) 3 (r.2.2.2))]⟩)

noncomputable def D56_2095718 : Ex × Pk → Option (Int × Int × (List (Int × ((List Int) × Unit))) × (List Int))
  | (.exit 5, ⟨[.v (.int .i64 x0), .v (.int .i64 x1), .ro (Ty.cons (Ty.int IntKind.i64) (Ty.cons (Ty.sl (Ty.int IntKind.i64)) Ty.unit)) x2, .sl 0 (none)], [some (.row (Ty.int IntKind.i64) 3 x3)]⟩) => some ((x0, x1, x2, x3))
  | _ => none

theorem D56_2095718_ok : ∀ y r, D56_2095718 y = some r → ∀ z, (O56_2095718 r).to z → y = z := by
  intro y r h
  unfold D56_2095718 at h
  split at h <;> first | (cases h; intro z hz; exact Option.some.inj hz) | cases h

noncomputable def B56_2095718 (N : Nat) (f : (Int × Int × (List (Int × ((List Int) × Unit))) × Int × Int × (List Int) × (List Int)) → Option (Int × Int × (List (Int × ((List Int) × Unit))) × (List Int))) : (Int × Int × (List (Int × ((List Int) × Unit))) × Int × Int × (List Int) × (List Int)) → Option (Int × Int × (List (Int × ((List Int) × Unit))) × (List Int))
  | (x0, x1, x2, x3, x4, x5, x6) =>
  iteP (decide (x0 < x1)) (
    iteP (within x0 (List.length x5)) (
      Option.bind (x5[Int.toNat x0]?) fun y0 =>
      iteP (within y0 (List.length x6)) (
        Option.bind (x6[Int.toNat y0]?) fun y1 =>
        iteP (within y0 (List.length x6)) (
          Option.bind (x6[Int.toNat y0]?) fun y2 =>
          Option.bind (f (IntKind.wrap IntKind.i64 (x0 + (1 : Int)), x1, x2, x3, x4, x5, List.set x6 (Int.toNat y0) (IntKind.wrap IntKind.i64 (y1 + (1 : Int))))) fun r => some r) (
          none)) (
        none)) (
      none)) (
    some ((x4, x3, x2, x6)))

noncomputable def F56_2095718 (N : Nat) : Nat → (Int × Int × (List (Int × ((List Int) × Unit))) × Int × Int × (List Int) × (List Int)) → Option (Int × Int × (List (Int × ((List Int) × Unit))) × (List Int))
  | 0, _ => none
  | k + 1, x => B56_2095718 N (F56_2095718 N k) x

noncomputable def C56_2095718 (N : Nat) (k : Nat) : Cut := ⟨[82, 81, 73, 74, 75, 80, 8], X56_2095718, tellX I56_2095718 (F56_2095718 N k) O56_2095718⟩

theorem B56_2095718_eq (N : Nat) (f : (Int × Int × (List (Int × ((List Int) × Unit))) × Int × Int × (List Int) × (List Int)) → Option (Int × Int × (List (Int × ((List Int) × Unit))) × (List Int))) (x0 : Int) (x1 : Int) (x2 : (List (Int × ((List Int) × Unit)))) (x3 : Int) (x4 : Int) (x5 : (List Int)) (x6 : (List Int)) : (roundEv (mkE Tryz.prog ownT (tab56 N) [(4090, (C56_4090 N N))]) Tryz.f56.ntmps A56 (loopAt (bod Tryz.f56) 2095718) 2095718 ⟨[82, 81, 73, 74, 75, 80, 8], X56_2095718, tellX I56_2095718 f O56_2095718⟩ (J56_2095718 (x0, x1, x2, x3, x4, x5, x6))).run D56_2095718 = B56_2095718 N f (x0, x1, x2, x3, x4, x5, x6) := by kernel_rfl

theorem C56_2095718_ok (N : Nat) (k : Nat) : ∀ c', At (bod Tryz.f56) 2095718 c' → CutOK Tryz.prog Tryz.f56.ntmps (idsL A56) c' (C56_2095718 N k) :=
  loop_ok (E := (mkE Tryz.prog ownT (tab56 N) [(4090, (C56_4090 N N))])) (mkE_ok mix (tab56_ok N)) (cutsIn_ok ⟨fun c' h => (C56_4090_ok N N c' h), trivial⟩) (fuel := 200) (by decide +kernel) (by kernel_rfl) I56_2095718_ok D56_2095718_ok (B56_2095718 N) (F56_2095718 N) (fun _ => rfl) (fun _ _ => rfl) (fun f x => match x with | (x0, x1, x2, x3, x4, x5, x6) => B56_2095718_eq N f x0 x1 x2 x3 x4 x5 x6) k

noncomputable def O56_8186 (r : (List Int)) : Tr (Ex × Pk) := .ret (.exit 3, ⟨[.sl 0 (none)], [some (.row (Ty.int IntKind.i64) 3 (r))]⟩)

noncomputable def D56_8186 : Ex × Pk → Option ((List Int))
  | (.exit 3, ⟨[.sl 0 (none)], [some (.row (Ty.int IntKind.i64) 3 x0)]⟩) => some (x0)
  | _ => none

theorem D56_8186_ok : ∀ y r, D56_8186 y = some r → ∀ z, (O56_8186 r).to z → y = z := by
  intro y r h
  unfold D56_8186 at h
  split at h <;> first | (cases h; intro z hz; exact Option.some.inj hz) | cases h

noncomputable def B56_8186 (N : Nat) (f : (Int × (List (Int × ((List Int) × Unit))) × Int × (List Int)) → Option ((List Int))) : (Int × (List (Int × ((List Int) × Unit))) × Int × (List Int)) → Option ((List Int))
  | (x0, x1, x2, x3) =>
  iteP (decide (x2 < x0)) (
    iteP (within x2 (List.length x1)) (
      Option.bind (x1[Int.toNat x2]?) fun y0 =>
      Option.bind (F56_2095718 N N ((0 : Int), (↑(List.length (Prod.fst (Prod.snd y0))) : Int), x1, x0, x2, Prod.fst (Prod.snd y0), x3)) fun y1 =>
      Option.bind (f (Prod.fst (Prod.snd y1), Prod.fst (Prod.snd (Prod.snd y1)), IntKind.wrap IntKind.i64 (Prod.fst y1 + (1 : Int)), Prod.snd (Prod.snd (Prod.snd y1)))) fun r => some r) (
      none)) (
    some (x3))

noncomputable def F56_8186 (N : Nat) : Nat → (Int × (List (Int × ((List Int) × Unit))) × Int × (List Int)) → Option ((List Int))
  | 0, _ => none
  | k + 1, x => B56_8186 N (F56_8186 N k) x

noncomputable def C56_8186 (N : Nat) (k : Nat) : Cut := ⟨[74, 73, 75, 8], X56_8186, tellX I56_8186 (F56_8186 N k) O56_8186⟩

theorem B56_8186_eq (N : Nat) (f : (Int × (List (Int × ((List Int) × Unit))) × Int × (List Int)) → Option ((List Int))) (x0 : Int) (x1 : (List (Int × ((List Int) × Unit)))) (x2 : Int) (x3 : (List Int)) : (roundEv (mkE Tryz.prog ownT (tab56 N) [(4090, (C56_4090 N N)), (2095718, (C56_2095718 N N))]) Tryz.f56.ntmps A56 (loopAt (bod Tryz.f56) 8186) 8186 ⟨[74, 73, 75, 8], X56_8186, tellX I56_8186 f O56_8186⟩ (J56_8186 (x0, x1, x2, x3))).run D56_8186 = B56_8186 N f (x0, x1, x2, x3) := by kernel_rfl

theorem C56_8186_ok (N : Nat) (k : Nat) : ∀ c', At (bod Tryz.f56) 8186 c' → CutOK Tryz.prog Tryz.f56.ntmps (idsL A56) c' (C56_8186 N k) :=
  loop_ok (E := (mkE Tryz.prog ownT (tab56 N) [(4090, (C56_4090 N N)), (2095718, (C56_2095718 N N))])) (mkE_ok mix (tab56_ok N)) (cutsIn_ok ⟨fun c' h => (C56_4090_ok N N c' h), ⟨fun c' h => (C56_2095718_ok N N c' h), trivial⟩⟩) (fuel := 200) (by decide +kernel) (by kernel_rfl) I56_8186_ok D56_8186_ok (B56_8186 N) (F56_8186 N) (fun _ => rfl) (fun _ _ => rfl) (fun f x => match x with | (x0, x1, x2, x3) => B56_8186_eq N f x0 x1 x2 x3) k

noncomputable def O56 (r : Int × (List Int)) : Tr (Pk) := .ret ⟨[.tup [.sl 0 (none), .v (.int .i64 (r.1))]], [some (.row (Ty.int IntKind.i64) 3 (r.2))]⟩

noncomputable def D56 : Pk → Option (Int × (List Int))
  | ⟨[.tup [.sl 0 (none), .v (.int .i64 x0)]], [some (.row (Ty.int IntKind.i64) 3 x1)]⟩ => some ((x0, x1))
  | _ => none

theorem D56_ok : ∀ y r, D56 y = some r → ∀ z, (O56 r).to z → y = z := by
  intro y r h
  unfold D56 at h
  split at h <;> first | (cases h; intro z hz; exact Option.some.inj hz) | cases h

noncomputable def F56 (N : Nat) : ((List Int) × Int) → Option (Int × (List Int))
  | (x0, x1) =>
  iteP (decide ((↑(List.length x0) : Int) > (320 : Int))) (
    some (((1 : Int), []))) (
    iteP (decide (x1 < (1 : Int))) (
      some (((1 : Int), []))) (
      iteP (decide (x1 > (15 : Int))) (
        some (((1 : Int), []))) (
        Option.bind (F93 N x0) fun y0 =>
        match y0 with
        | .inl y1 =>
          iteP (Prod.fst y1 != (0 : Int)) (
            some ((Prod.fst y1, []))) (
            iteP (decide (x1 < (0 : Int))) (
              none) (
              iteP (decide ((↑(List.length (Prod.snd y1)) : Int) > IntKind.wrap IntKind.i64 ((1 : Int) * (2 : Int) ^ min (Int.toNat x1) (64 : Nat)))) (
                some (((50 : Int), []))) (
                iteP (decide ((0 : Int) ≤ (↑(List.length x0) : Int) ∧ (↑(List.length x0) : Int) ≤ (↑(List.length x0) : Int) ∧ (↑(List.length x0) : Int) * (8 : Int) ≤ (140737488355328 : Int) ∧ (↑(List.length x0) : Int) ≤ (140737488355328 : Int))) (
                  iteP ((↑(List.length (Prod.snd y1)) : Int) == (1 : Int)) (
                    iteP (within (0 : Int) (List.length (Prod.snd y1))) (
                      Option.bind ((Prod.snd y1)[(0 : Nat)]?) fun y2 =>
                      iteP (within (0 : Int) (List.length (Prod.fst (Prod.snd y2)))) (
                        Option.bind ((Prod.fst (Prod.snd y2))[(0 : Nat)]?) fun y3 =>
                        iteP (within y3 (List.length (List.replicate (Int.toNat (↑(List.length x0) : Int)) (0 : Int)))) (
                          Option.bind ((List.replicate (Int.toNat (↑(List.length x0) : Int)) (0 : Int))[Int.toNat y3]?) fun y4 =>
                          iteP (decide ((↑(List.length (Prod.snd y1)) : Int) < (2 : Int))) (
                            some (((0 : Int), List.set (List.replicate (Int.toNat (↑(List.length x0) : Int)) (0 : Int)) (Int.toNat y3) (1 : Int)))) (
                            Option.bind (F56_4090 N N (Prod.snd y1, (0 : Int), IntKind.wrap IntKind.i64 (x1 - (1 : Int)), Prod.snd y1, List.set (List.replicate (Int.toNat (↑(List.length x0) : Int)) (0 : Int)) (Int.toNat y3) (1 : Int))) fun y5 =>
                            iteP (decide ((0 : Int) ≤ IntKind.wrap IntKind.i64 (IntKind.wrap IntKind.i64 ((2 : Int) * (↑(List.length (Prod.fst (Prod.snd y5))) : Int)) - (2 : Int)) ∧ IntKind.wrap IntKind.i64 (IntKind.wrap IntKind.i64 ((2 : Int) * (↑(List.length (Prod.fst (Prod.snd y5))) : Int)) - (2 : Int)) ≤ (↑(List.length (Prod.fst y5)) : Int))) (
                              Option.bind (F56_8186 N N ((↑(List.length (List.take (Int.toNat (IntKind.wrap IntKind.i64 (IntKind.wrap IntKind.i64 ((2 : Int) * (↑(List.length (Prod.fst (Prod.snd y5))) : Int)) - (2 : Int))) - (0 : Nat)) (List.drop (0 : Nat) (Prod.fst y5)))) : Int), List.take (Int.toNat (IntKind.wrap IntKind.i64 (IntKind.wrap IntKind.i64 ((2 : Int) * (↑(List.length (Prod.fst (Prod.snd y5))) : Int)) - (2 : Int))) - (0 : Nat)) (List.drop (0 : Nat) (Prod.fst y5)), (0 : Int), Prod.snd (Prod.snd y5))) fun y6 =>
                              some (((0 : Int), y6))) (
                              none))) (
                          none)) (
                        none)) (
                      none)) (
                    iteP (decide ((↑(List.length (Prod.snd y1)) : Int) < (2 : Int))) (
                      some (((0 : Int), List.replicate (Int.toNat (↑(List.length x0) : Int)) (0 : Int)))) (
                      Option.bind (F56_4090 N N (Prod.snd y1, (0 : Int), IntKind.wrap IntKind.i64 (x1 - (1 : Int)), Prod.snd y1, List.replicate (Int.toNat (↑(List.length x0) : Int)) (0 : Int))) fun y7 =>
                      iteP (decide ((0 : Int) ≤ IntKind.wrap IntKind.i64 (IntKind.wrap IntKind.i64 ((2 : Int) * (↑(List.length (Prod.fst (Prod.snd y7))) : Int)) - (2 : Int)) ∧ IntKind.wrap IntKind.i64 (IntKind.wrap IntKind.i64 ((2 : Int) * (↑(List.length (Prod.fst (Prod.snd y7))) : Int)) - (2 : Int)) ≤ (↑(List.length (Prod.fst y7)) : Int))) (
                        Option.bind (F56_8186 N N ((↑(List.length (List.take (Int.toNat (IntKind.wrap IntKind.i64 (IntKind.wrap IntKind.i64 ((2 : Int) * (↑(List.length (Prod.fst (Prod.snd y7))) : Int)) - (2 : Int))) - (0 : Nat)) (List.drop (0 : Nat) (Prod.fst y7)))) : Int), List.take (Int.toNat (IntKind.wrap IntKind.i64 (IntKind.wrap IntKind.i64 ((2 : Int) * (↑(List.length (Prod.fst (Prod.snd y7))) : Int)) - (2 : Int))) - (0 : Nat)) (List.drop (0 : Nat) (Prod.fst y7)), (0 : Int), Prod.snd (Prod.snd y7))) fun y8 =>
                        some (((0 : Int), y8))) (
                        none)))) (
                  none))))
        | .inr y1 =>
          iteP (Prod.snd y1 != (0 : Int)) (
            some ((Prod.snd y1, []))) (
            iteP (decide (x1 < (0 : Int))) (
              none) (
              iteP (decide ((↑(List.length (Prod.fst y1)) : Int) > IntKind.wrap IntKind.i64 ((1 : Int) * (2 : Int) ^ min (Int.toNat x1) (64 : Nat)))) (
                some (((50 : Int), []))) (
                iteP (decide ((0 : Int) ≤ (↑(List.length x0) : Int) ∧ (↑(List.length x0) : Int) ≤ (↑(List.length x0) : Int) ∧ (↑(List.length x0) : Int) * (8 : Int) ≤ (140737488355328 : Int) ∧ (↑(List.length x0) : Int) ≤ (140737488355328 : Int))) (
                  iteP ((↑(List.length (Prod.fst y1)) : Int) == (1 : Int)) (
                    iteP (within (0 : Int) (List.length (Prod.fst y1))) (
                      Option.bind ((Prod.fst y1)[(0 : Nat)]?) fun y9 =>
                      iteP (within (0 : Int) (List.length (Prod.fst (Prod.snd y9)))) (
                        Option.bind ((Prod.fst (Prod.snd y9))[(0 : Nat)]?) fun y10 =>
                        iteP (within y10 (List.length (List.replicate (Int.toNat (↑(List.length x0) : Int)) (0 : Int)))) (
                          Option.bind ((List.replicate (Int.toNat (↑(List.length x0) : Int)) (0 : Int))[Int.toNat y10]?) fun y11 =>
                          iteP (decide ((↑(List.length (Prod.fst y1)) : Int) < (2 : Int))) (
                            some (((0 : Int), List.set (List.replicate (Int.toNat (↑(List.length x0) : Int)) (0 : Int)) (Int.toNat y10) (1 : Int)))) (
                            Option.bind (F56_4090 N N (Prod.fst y1, (0 : Int), IntKind.wrap IntKind.i64 (x1 - (1 : Int)), Prod.fst y1, List.set (List.replicate (Int.toNat (↑(List.length x0) : Int)) (0 : Int)) (Int.toNat y10) (1 : Int))) fun y12 =>
                            iteP (decide ((0 : Int) ≤ IntKind.wrap IntKind.i64 (IntKind.wrap IntKind.i64 ((2 : Int) * (↑(List.length (Prod.fst (Prod.snd y12))) : Int)) - (2 : Int)) ∧ IntKind.wrap IntKind.i64 (IntKind.wrap IntKind.i64 ((2 : Int) * (↑(List.length (Prod.fst (Prod.snd y12))) : Int)) - (2 : Int)) ≤ (↑(List.length (Prod.fst y12)) : Int))) (
                              Option.bind (F56_8186 N N ((↑(List.length (List.take (Int.toNat (IntKind.wrap IntKind.i64 (IntKind.wrap IntKind.i64 ((2 : Int) * (↑(List.length (Prod.fst (Prod.snd y12))) : Int)) - (2 : Int))) - (0 : Nat)) (List.drop (0 : Nat) (Prod.fst y12)))) : Int), List.take (Int.toNat (IntKind.wrap IntKind.i64 (IntKind.wrap IntKind.i64 ((2 : Int) * (↑(List.length (Prod.fst (Prod.snd y12))) : Int)) - (2 : Int))) - (0 : Nat)) (List.drop (0 : Nat) (Prod.fst y12)), (0 : Int), Prod.snd (Prod.snd y12))) fun y13 =>
                              some (((0 : Int), y13))) (
                              none))) (
                          none)) (
                        none)) (
                      none)) (
                    iteP (decide ((↑(List.length (Prod.fst y1)) : Int) < (2 : Int))) (
                      some (((0 : Int), List.replicate (Int.toNat (↑(List.length x0) : Int)) (0 : Int)))) (
                      Option.bind (F56_4090 N N (Prod.fst y1, (0 : Int), IntKind.wrap IntKind.i64 (x1 - (1 : Int)), Prod.fst y1, List.replicate (Int.toNat (↑(List.length x0) : Int)) (0 : Int))) fun y14 =>
                      iteP (decide ((0 : Int) ≤ IntKind.wrap IntKind.i64 (IntKind.wrap IntKind.i64 ((2 : Int) * (↑(List.length (Prod.fst (Prod.snd y14))) : Int)) - (2 : Int)) ∧ IntKind.wrap IntKind.i64 (IntKind.wrap IntKind.i64 ((2 : Int) * (↑(List.length (Prod.fst (Prod.snd y14))) : Int)) - (2 : Int)) ≤ (↑(List.length (Prod.fst y14)) : Int))) (
                        Option.bind (F56_8186 N N ((↑(List.length (List.take (Int.toNat (IntKind.wrap IntKind.i64 (IntKind.wrap IntKind.i64 ((2 : Int) * (↑(List.length (Prod.fst (Prod.snd y14))) : Int)) - (2 : Int))) - (0 : Nat)) (List.drop (0 : Nat) (Prod.fst y14)))) : Int), List.take (Int.toNat (IntKind.wrap IntKind.i64 (IntKind.wrap IntKind.i64 ((2 : Int) * (↑(List.length (Prod.fst (Prod.snd y14))) : Int)) - (2 : Int))) - (0 : Nat)) (List.drop (0 : Nat) (Prod.fst y14)), (0 : Int), Prod.snd (Prod.snd y14))) fun y15 =>
                        some (((0 : Int), y15))) (
                        none)))) (
                  none)))))))

theorem F56_eq (N : Nat) (x0 : (List Int)) (x1 : Int) : (fnEv (mkE Tryz.prog ownT (tab56 N) [(4090, (C56_4090 N N)), (2095718, (C56_2095718 N N)), (8186, (C56_8186 N N))]) Tryz.f56 (J56 (x0, x1))).run D56 = F56 N (x0, x1) := by kernel_rfl

noncomputable def T56 (N : Nat) : Pk → Tr Pk := tell I56 (F56 N) O56

theorem T56_ok (N : Nat) : FOK Tryz.prog 56 (T56 N) :=
  (tell_ok (E := (mkE Tryz.prog ownT (tab56 N) [(4090, (C56_4090 N N)), (2095718, (C56_2095718 N N)), (8186, (C56_8186 N N))])) (mkE_ok mix (tab56_ok N)) Tryz.func56 (show Tryz.f56.body = some (bod Tryz.f56) by kernel_rfl) (by decide +kernel) (F := F56 N) I56_ok D56_ok (args := A56) (fun _ => by kernel_rfl) (fun _ => by show 2 ≤ Tryz.f56.ntmps; exact of_decide_eq_true (by kernel_rfl)) (cutsIn_ok ⟨fun c' h => (C56_4090_ok N N c' h), ⟨fun c' h => (C56_2095718_ok N N c' h), ⟨fun c' h => (C56_8186_ok N N c' h), trivial⟩⟩⟩) (fun x => match x with | (x0, x1) => F56_eq N x0 x1))

/-! ## f68: mirador/deflate.best -/

noncomputable def I68 : Pk → Option ((List Int))
  | ⟨[.ro (.int .i64) x0], []⟩ => some x0
  | _ => none

noncomputable def J68 (x : (List Int)) : Pk := ⟨[.ro (.int .i64) (x)], []⟩

theorem I68_ok : ∀ pk x, I68 pk = some x → pk = J68 x := by
  intro pk x h
  unfold I68 at h
  split at h <;> first | (cases h; rfl) | cases h

noncomputable def A68 : List TV := []

noncomputable def tab68 (N : Nat) : List (Nat × (Pk → Tr Pk)) := [(56, T56 N)]

theorem tab68_ok (N : Nat) : TabOK Tryz.prog (tab68 N) := ⟨T56_ok N, trivial⟩

noncomputable def O68 (r : (List Int)) : Tr (Pk) := .ret ⟨[.sl 0 (none)], [some (.row (Ty.int IntKind.i64) 3 (r))]⟩

noncomputable def D68 : Pk → Option ((List Int))
  | ⟨[.sl 0 (none)], [some (.row (Ty.int IntKind.i64) 3 x0)]⟩ => some (x0)
  | _ => none

theorem D68_ok : ∀ y r, D68 y = some r → ∀ z, (O68 r).to z → y = z := by
  intro y r h
  unfold D68 at h
  split at h <;> first | (cases h; intro z hz; exact Option.some.inj hz) | cases h

noncomputable def F68 (N : Nat) : ((List Int)) → Option ((List Int))
  | x0 =>
  Option.bind (F56 N (x0, (15 : Int))) fun y0 =>
  some (Prod.snd y0)

theorem F68_eq (N : Nat) (x0 : (List Int)) : (fnEv (mkE Tryz.prog ownT (tab68 N) []) Tryz.f68 (J68 x0)).run D68 = F68 N x0 := by kernel_rfl

noncomputable def T68 (N : Nat) : Pk → Tr Pk := tell I68 (F68 N) O68

theorem T68_ok (N : Nat) : FOK Tryz.prog 68 (T68 N) :=
  (tell_ok (E := (mkE Tryz.prog ownT (tab68 N) [])) (mkE_ok mix (tab68_ok N)) Tryz.func68 (show Tryz.f68.body = some (bod Tryz.f68) by kernel_rfl) (by decide +kernel) (F := F68 N) I68_ok D68_ok (args := A68) (fun _ => by kernel_rfl) (fun _ => by show 1 ≤ Tryz.f68.ntmps; exact of_decide_eq_true (by kernel_rfl)) (cutsIn_ok trivial) (fun x => match x with | x0 => F68_eq N x0))

/-! ## f67: mirador/deflate.trimmed -/

noncomputable def I67 : Pk → Option ((List Int) × Int)
  | ⟨[.ro (.int .i64) x0, .v (.int .i64 x1)], []⟩ => some (x0, x1)
  | _ => none

noncomputable def J67 (x : (List Int) × Int) : Pk := ⟨[.ro (.int .i64) (x.1), .v (.int .i64 (x.2))], []⟩

theorem I67_ok : ∀ pk x, I67 pk = some x → pk = J67 x := by
  intro pk x h
  unfold I67 at h
  split at h <;> first | (cases h; rfl) | cases h

noncomputable def A67 : List TV := []

noncomputable def tab67 (N : Nat) : List (Nat × (Pk → Tr Pk)) := []

theorem tab67_ok (N : Nat) : TabOK Tryz.prog (tab67 N) := trivial

def X67_28 : Ex → List Nat
  | .ret => [4]
  | .exit 0 => [0, 5]
  | _ => []

noncomputable def I67_28 : Pk → Option (Int × Int × (List Int))
  | ⟨[.v (.int .i64 x0), .v (.int .i64 x1), .ro (Ty.int IntKind.i64) x2], []⟩ => some (x0, x1, x2)
  | _ => none

noncomputable def J67_28 (x : Int × Int × (List Int)) : Pk := ⟨[.v (.int .i64 (x.1)), .v (.int .i64 (x.2.1)), .ro (Ty.int IntKind.i64) (x.2.2)], []⟩

theorem I67_28_ok : ∀ pk x, I67_28 pk = some x → pk = J67_28 x := by
  intro pk x h
  unfold I67_28 at h
  split at h <;> first | (cases h; rfl) | cases h

noncomputable def O67_28 (r : (List Int) × Int) : Tr (Ex × Pk) := .ret (.exit 0, ⟨[.ro (Ty.int IntKind.i64) (r.1), .v (.int .i64 (r.2))], []⟩)

noncomputable def D67_28 : Ex × Pk → Option ((List Int) × Int)
  | (.exit 0, ⟨[.ro (Ty.int IntKind.i64) x0, .v (.int .i64 x1)], []⟩) => some ((x0, x1))
  | _ => none

theorem D67_28_ok : ∀ y r, D67_28 y = some r → ∀ z, (O67_28 r).to z → y = z := by
  intro y r h
  unfold D67_28 at h
  split at h <;> first | (cases h; intro z hz; exact Option.some.inj hz) | cases h

noncomputable def B67_28 (N : Nat) (f : (Int × Int × (List Int)) → Option ((List Int) × Int)) : (Int × Int × (List Int)) → Option ((List Int) × Int)
  | (x0, x1, x2) =>
  iteP (decide (x0 > x1)) (
    iteP (within (IntKind.wrap IntKind.i64 (x0 - (1 : Int))) (List.length x2)) (
      Option.bind (x2[Int.toNat (IntKind.wrap IntKind.i64 (x0 - (1 : Int)))]?) fun y0 =>
      iteP (y0 == (0 : Int)) (
        Option.bind (f (IntKind.wrap IntKind.i64 (x0 - (1 : Int)), x1, x2)) fun r => some r) (
        some ((x2, x0)))) (
      none)) (
    some ((x2, x0)))

noncomputable def F67_28 (N : Nat) : Nat → (Int × Int × (List Int)) → Option ((List Int) × Int)
  | 0, _ => none
  | k + 1, x => B67_28 N (F67_28 N k) x

noncomputable def C67_28 (N : Nat) (k : Nat) : Cut := ⟨[5, 1, 0], X67_28, tellX I67_28 (F67_28 N k) O67_28⟩

theorem B67_28_eq (N : Nat) (f : (Int × Int × (List Int)) → Option ((List Int) × Int)) (x0 : Int) (x1 : Int) (x2 : (List Int)) : (roundEv (mkE Tryz.prog ownT (tab67 N) []) Tryz.f67.ntmps A67 (loopAt (bod Tryz.f67) 28) 28 ⟨[5, 1, 0], X67_28, tellX I67_28 f O67_28⟩ (J67_28 (x0, x1, x2))).run D67_28 = B67_28 N f (x0, x1, x2) := by kernel_rfl

theorem C67_28_ok (N : Nat) (k : Nat) : ∀ c', At (bod Tryz.f67) 28 c' → CutOK Tryz.prog Tryz.f67.ntmps (idsL A67) c' (C67_28 N k) :=
  loop_ok (E := (mkE Tryz.prog ownT (tab67 N) [])) (mkE_ok mix (tab67_ok N)) (cutsIn_ok trivial) (fuel := 200) (by decide +kernel) (by kernel_rfl) I67_28_ok D67_28_ok (B67_28 N) (F67_28 N) (fun _ => rfl) (fun _ _ => rfl) (fun f x => match x with | (x0, x1, x2) => B67_28_eq N f x0 x1 x2) k

noncomputable def O67 (r : (List Int)) : Tr (Pk) := .ret ⟨[.ro (Ty.int IntKind.i64) (r)], []⟩

noncomputable def D67 : Pk → Option ((List Int))
  | ⟨[.ro (Ty.int IntKind.i64) x0], []⟩ => some (x0)
  | _ => none

theorem D67_ok : ∀ y r, D67 y = some r → ∀ z, (O67 r).to z → y = z := by
  intro y r h
  unfold D67 at h
  split at h <;> first | (cases h; intro z hz; exact Option.some.inj hz) | cases h

noncomputable def F67 (N : Nat) : ((List Int) × Int) → Option ((List Int))
  | (x0, x1) =>
  Option.bind (F67_28 N N ((↑(List.length x0) : Int), x1, x0)) fun y0 =>
  iteP (decide ((0 : Int) ≤ Prod.snd y0 ∧ Prod.snd y0 ≤ (↑(List.length (Prod.fst y0)) : Int))) (
    some (List.take (Int.toNat (Prod.snd y0) - (0 : Nat)) (List.drop (0 : Nat) (Prod.fst y0)))) (
    none)

theorem F67_eq (N : Nat) (x0 : (List Int)) (x1 : Int) : (fnEv (mkE Tryz.prog ownT (tab67 N) [(28, (C67_28 N N))]) Tryz.f67 (J67 (x0, x1))).run D67 = F67 N (x0, x1) := by kernel_rfl

noncomputable def T67 (N : Nat) : Pk → Tr Pk := tell I67 (F67 N) O67

theorem T67_ok (N : Nat) : FOK Tryz.prog 67 (T67 N) :=
  (tell_ok (E := (mkE Tryz.prog ownT (tab67 N) [(28, (C67_28 N N))])) (mkE_ok mix (tab67_ok N)) Tryz.func67 (show Tryz.f67.body = some (bod Tryz.f67) by kernel_rfl) (by decide +kernel) (F := F67 N) I67_ok D67_ok (args := A67) (fun _ => by kernel_rfl) (fun _ => by show 2 ≤ Tryz.f67.ntmps; exact of_decide_eq_true (by kernel_rfl)) (cutsIn_ok ⟨fun c' h => (C67_28_ok N N c' h), trivial⟩) (fun x => match x with | (x0, x1) => F67_eq N x0 x1))

/-! ## f52: mirador/deflate.Lengths$1 -/

noncomputable def I52 : Pk → Option (Int)
  | ⟨[.v (.int .i64 x0)], []⟩ => some x0
  | _ => none

noncomputable def J52 (x : Int) : Pk := ⟨[.v (.int .i64 (x))], []⟩

theorem I52_ok : ∀ pk x, I52 pk = some x → pk = J52 x := by
  intro pk x h
  unfold I52 at h
  split at h <;> first | (cases h; rfl) | cases h

noncomputable def A52 : List TV := []

noncomputable def tab52 (N : Nat) : List (Nat × (Pk → Tr Pk)) := []

theorem tab52_ok (N : Nat) : TabOK Tryz.prog (tab52 N) := trivial

noncomputable def O52 (r : Bool) : Tr (Pk) := .ret ⟨[.v (.bool (r))], []⟩

noncomputable def D52 : Pk → Option (Bool)
  | ⟨[.v (.bool x0)], []⟩ => some (x0)
  | _ => none

theorem D52_ok : ∀ y r, D52 y = some r → ∀ z, (O52 r).to z → y = z := by
  intro y r h
  unfold D52 at h
  split at h <;> first | (cases h; intro z hz; exact Option.some.inj hz) | cases h

noncomputable def F52 (N : Nat) : (Int) → Option (Bool)
  | x0 =>
  iteP (decide (x0 < (0 : Int))) (
    some (true)) (
    some (decide (x0 > (15 : Int))))

theorem F52_eq (N : Nat) (x0 : Int) : (fnEv (mkE Tryz.prog ownT (tab52 N) []) Tryz.f52 (J52 x0)).run D52 = F52 N x0 := by kernel_rfl

noncomputable def T52 (N : Nat) : Pk → Tr Pk := tell I52 (F52 N) O52

theorem T52_ok (N : Nat) : FOK Tryz.prog 52 (T52 N) :=
  (tell_ok (E := (mkE Tryz.prog ownT (tab52 N) [])) (mkE_ok mix (tab52_ok N)) Tryz.func52 (show Tryz.f52.body = some (bod Tryz.f52) by kernel_rfl) (by decide +kernel) (F := F52 N) I52_ok D52_ok (args := A52) (fun _ => by kernel_rfl) (fun _ => by show 1 ≤ Tryz.f52.ntmps; exact of_decide_eq_true (by kernel_rfl)) (cutsIn_ok trivial) (fun x => match x with | x0 => F52_eq N x0))

/-! ## f90a: slices.IndexFunc[[]int,int] -/

noncomputable def I90a : Pk → Option ((List Int))
  | ⟨[.ro (.int .i64) x0, .v (.func (.func 52) ⟨[]⟩ ⟨[]⟩)], []⟩ => some x0
  | _ => none

noncomputable def J90a (x : (List Int)) : Pk := ⟨[.ro (.int .i64) (x), .v (.func (.func 52) ⟨[]⟩ ⟨[]⟩)], []⟩

theorem I90a_ok : ∀ pk x, I90a pk = some x → pk = J90a x := by
  intro pk x h
  unfold I90a at h
  split at h <;> first | (cases h; rfl) | cases h

noncomputable def A90a : List TV := []

noncomputable def tab90a (N : Nat) : List (Nat × (Pk → Tr Pk)) := [(52, T52 N)]

theorem tab90a_ok (N : Nat) : TabOK Tryz.prog (tab90a N) := ⟨T52_ok N, trivial⟩

def X90a_26 : Ex → List Nat
  | .ret => [4]
  | .exit 0 => []
  | _ => []

noncomputable def I90a_26 : Pk → Option (Int × (List Int) × Int)
  | ⟨[.v (.int .i64 x0), .v ((Value.func (Fn.func (52 : FuncId)) (Array.mk []) (Array.mk []))), .ro (Ty.int IntKind.i64) x1, .v (.int .i64 x2)], []⟩ => some (x0, x1, x2)
  | _ => none

noncomputable def J90a_26 (x : Int × (List Int) × Int) : Pk := ⟨[.v (.int .i64 (x.1)), .v ((Value.func (Fn.func (52 : FuncId)) (Array.mk []) (Array.mk []))), .ro (Ty.int IntKind.i64) (x.2.1), .v (.int .i64 (x.2.2))], []⟩

theorem I90a_26_ok : ∀ pk x, I90a_26 pk = some x → pk = J90a_26 x := by
  intro pk x h
  unfold I90a_26 at h
  split at h <;> first | (cases h; rfl) | cases h

noncomputable def O90a_26 (r : ((Int) ⊕ (Unit))) : Tr (Ex × Pk) := .sum _ _ r (fun u => .ret (.ret, ⟨[.v (.int .i64 (u))], []⟩)) (fun v => .ret (.exit 0, ⟨[], []⟩))

noncomputable def D90a_26 : Ex × Pk → Option (((Int) ⊕ (Unit)))
  | (.ret, ⟨[.v (.int .i64 x0)], []⟩) => some (.inl (x0))
  | (.exit 0, ⟨[], []⟩) => some (.inr (()))
  | _ => none

theorem D90a_26_ok : ∀ y r, D90a_26 y = some r → ∀ z, (O90a_26 r).to z → y = z := by
  intro y r h
  unfold D90a_26 at h
  split at h <;> first | (cases h; intro z hz; exact Option.some.inj hz) | cases h

noncomputable def B90a_26 (N : Nat) (f : (Int × (List Int) × Int) → Option (((Int) ⊕ (Unit)))) : (Int × (List Int) × Int) → Option (((Int) ⊕ (Unit)))
  | (x0, x1, x2) =>
  iteP (decide (x2 < x0)) (
    iteP (within x2 (List.length x1)) (
      Option.bind (x1[Int.toNat x2]?) fun y0 =>
      Option.bind (F52 N y0) fun y1 =>
      iteP (y1) (
        some (.inl (x2))) (
        Option.bind (f (x0, x1, IntKind.wrap IntKind.i64 (x2 + (1 : Int)))) fun r => match r with | .inl (y) => some (.inl (y)) | .inr (y) => some (.inr (y)))) (
      none)) (
    some (.inr (())))

noncomputable def F90a_26 (N : Nat) : Nat → (Int × (List Int) × Int) → Option (((Int) ⊕ (Unit)))
  | 0, _ => none
  | k + 1, x => B90a_26 N (F90a_26 N k) x

noncomputable def C90a_26 (N : Nat) (k : Nat) : Cut := ⟨[7, 1, 0, 8], X90a_26, tellX I90a_26 (F90a_26 N k) O90a_26⟩

theorem B90a_26_eq (N : Nat) (f : (Int × (List Int) × Int) → Option (((Int) ⊕ (Unit)))) (x0 : Int) (x1 : (List Int)) (x2 : Int) : (roundEv (mkE Tryz.prog ownT (tab90a N) []) Tryz.f90.ntmps A90a (loopAt (bod Tryz.f90) 26) 26 ⟨[7, 1, 0, 8], X90a_26, tellX I90a_26 f O90a_26⟩ (J90a_26 (x0, x1, x2))).run D90a_26 = B90a_26 N f (x0, x1, x2) := by kernel_rfl

theorem C90a_26_ok (N : Nat) (k : Nat) : ∀ c', At (bod Tryz.f90) 26 c' → CutOK Tryz.prog Tryz.f90.ntmps (idsL A90a) c' (C90a_26 N k) :=
  loop_ok (E := (mkE Tryz.prog ownT (tab90a N) [])) (mkE_ok mix (tab90a_ok N)) (cutsIn_ok trivial) (fuel := 200) (by decide +kernel) (by kernel_rfl) I90a_26_ok D90a_26_ok (B90a_26 N) (F90a_26 N) (fun _ => rfl) (fun _ _ => rfl) (fun f x => match x with | (x0, x1, x2) => B90a_26_eq N f x0 x1 x2) k

noncomputable def O90a (r : Int) : Tr (Pk) := .ret ⟨[.v (.int .i64 (r))], []⟩

noncomputable def D90a : Pk → Option (Int)
  | ⟨[.v (.int .i64 x0)], []⟩ => some (x0)
  | _ => none

theorem D90a_ok : ∀ y r, D90a y = some r → ∀ z, (O90a r).to z → y = z := by
  intro y r h
  unfold D90a at h
  split at h <;> first | (cases h; intro z hz; exact Option.some.inj hz) | cases h

noncomputable def F90a (N : Nat) : ((List Int)) → Option (Int)
  | x0 =>
  Option.bind (F90a_26 N N ((↑(List.length x0) : Int), x0, (0 : Int))) fun y0 =>
  match y0 with
  | .inl y1 =>
    some (y1)
  | .inr y1 =>
    some ((-1 : Int))

theorem F90a_eq (N : Nat) (x0 : (List Int)) : (fnEv (mkE Tryz.prog ownT (tab90a N) [(26, (C90a_26 N N))]) Tryz.f90 (J90a x0)).run D90a = F90a N x0 := by kernel_rfl

noncomputable def V90a (N : Nat) : Pk → Tr Pk := tell I90a (F90a N) O90a

theorem V90a_ok (N : Nat) : FOK Tryz.prog 90 (V90a N) :=
  (tell_ok (E := (mkE Tryz.prog ownT (tab90a N) [(26, (C90a_26 N N))])) (mkE_ok mix (tab90a_ok N)) Tryz.func90 (show Tryz.f90.body = some (bod Tryz.f90) by kernel_rfl) (by decide +kernel) (F := F90a N) I90a_ok D90a_ok (args := A90a) (fun _ => by kernel_rfl) (fun _ => by show 2 ≤ Tryz.f90.ntmps; exact of_decide_eq_true (by kernel_rfl)) (cutsIn_ok ⟨fun c' h => (C90a_26_ok N N c' h), trivial⟩) (fun x => match x with | x0 => F90a_eq N x0))

noncomputable def T90 (N : Nat) : Pk → Tr Pk := (V90a N)

theorem T90_ok (N : Nat) : FOK Tryz.prog 90 (T90 N) := (V90a_ok N)

/-! ## f53a: slices.ContainsFunc[[]int,int] -/

noncomputable def I53a : Pk → Option ((List Int))
  | ⟨[.ro (.int .i64) x0, .v (.func (.func 52) ⟨[]⟩ ⟨[]⟩)], []⟩ => some x0
  | _ => none

noncomputable def J53a (x : (List Int)) : Pk := ⟨[.ro (.int .i64) (x), .v (.func (.func 52) ⟨[]⟩ ⟨[]⟩)], []⟩

theorem I53a_ok : ∀ pk x, I53a pk = some x → pk = J53a x := by
  intro pk x h
  unfold I53a at h
  split at h <;> first | (cases h; rfl) | cases h

noncomputable def A53a : List TV := []

noncomputable def tab53a (N : Nat) : List (Nat × (Pk → Tr Pk)) := [(90, T90 N), (52, T52 N)]

theorem tab53a_ok (N : Nat) : TabOK Tryz.prog (tab53a N) := ⟨T90_ok N, ⟨T52_ok N, trivial⟩⟩

noncomputable def O53a (r : Bool) : Tr (Pk) := .ret ⟨[.v (.bool (r))], []⟩

noncomputable def D53a : Pk → Option (Bool)
  | ⟨[.v (.bool x0)], []⟩ => some (x0)
  | _ => none

theorem D53a_ok : ∀ y r, D53a y = some r → ∀ z, (O53a r).to z → y = z := by
  intro y r h
  unfold D53a at h
  split at h <;> first | (cases h; intro z hz; exact Option.some.inj hz) | cases h

noncomputable def F53a (N : Nat) : ((List Int)) → Option (Bool)
  | x0 =>
  Option.bind (F90a N x0) fun y0 =>
  some (decide (y0 ≥ (0 : Int)))

theorem F53a_eq (N : Nat) (x0 : (List Int)) : (fnEv (mkE Tryz.prog ownT (tab53a N) []) Tryz.f53 (J53a x0)).run D53a = F53a N x0 := by kernel_rfl

noncomputable def V53a (N : Nat) : Pk → Tr Pk := tell I53a (F53a N) O53a

theorem V53a_ok (N : Nat) : FOK Tryz.prog 53 (V53a N) :=
  (tell_ok (E := (mkE Tryz.prog ownT (tab53a N) [])) (mkE_ok mix (tab53a_ok N)) Tryz.func53 (show Tryz.f53.body = some (bod Tryz.f53) by kernel_rfl) (by decide +kernel) (F := F53a N) I53a_ok D53a_ok (args := A53a) (fun _ => by kernel_rfl) (fun _ => by show 2 ≤ Tryz.f53.ntmps; exact of_decide_eq_true (by kernel_rfl)) (cutsIn_ok trivial) (fun x => match x with | x0 => F53a_eq N x0))

noncomputable def T53 (N : Nat) : Pk → Tr Pk := (V53a N)

theorem T53_ok (N : Nat) : FOK Tryz.prog 53 (T53 N) := (V53a_ok N)

/-! ## f91: mirador/deflate.run -/

noncomputable def I91 : Pk → Option ((List Int) × Int × Int)
  | ⟨[.ro (.int .i64) x0, .v (.int .i64 x1), .v (.int .i64 x2)], []⟩ => some (x0, x1, x2)
  | _ => none

noncomputable def J91 (x : (List Int) × Int × Int) : Pk := ⟨[.ro (.int .i64) (x.1), .v (.int .i64 (x.2.1)), .v (.int .i64 (x.2.2))], []⟩

theorem I91_ok : ∀ pk x, I91 pk = some x → pk = J91 x := by
  intro pk x h
  unfold I91 at h
  split at h <;> first | (cases h; rfl) | cases h

noncomputable def A91 : List TV := []

noncomputable def tab91 (N : Nat) : List (Nat × (Pk → Tr Pk)) := []

theorem tab91_ok (N : Nat) : TabOK Tryz.prog (tab91 N) := trivial

def X91_28 : Ex → List Nat
  | .ret => [6]
  | .exit 0 => [7]
  | _ => []

noncomputable def I91_28 : Pk → Option (Int × Int × (List Int) × Int)
  | ⟨[.v (.int .i64 x0), .v (.int .i64 x1), .ro (Ty.int IntKind.i64) x2, .v (.int .i64 x3)], []⟩ => some (x0, x1, x2, x3)
  | _ => none

noncomputable def J91_28 (x : Int × Int × (List Int) × Int) : Pk := ⟨[.v (.int .i64 (x.1)), .v (.int .i64 (x.2.1)), .ro (Ty.int IntKind.i64) (x.2.2.1), .v (.int .i64 (x.2.2.2))], []⟩

theorem I91_28_ok : ∀ pk x, I91_28 pk = some x → pk = J91_28 x := by
  intro pk x h
  unfold I91_28 at h
  split at h <;> first | (cases h; rfl) | cases h

noncomputable def O91_28 (r : Int) : Tr (Ex × Pk) := .ret (.exit 0, ⟨[.v (.int .i64 (r))], []⟩)

noncomputable def D91_28 : Ex × Pk → Option (Int)
  | (.exit 0, ⟨[.v (.int .i64 x0)], []⟩) => some (x0)
  | _ => none

theorem D91_28_ok : ∀ y r, D91_28 y = some r → ∀ z, (O91_28 r).to z → y = z := by
  intro y r h
  unfold D91_28 at h
  split at h <;> first | (cases h; intro z hz; exact Option.some.inj hz) | cases h

noncomputable def B91_28 (N : Nat) (f : (Int × Int × (List Int) × Int) → Option (Int)) : (Int × Int × (List Int) × Int) → Option (Int)
  | (x0, x1, x2, x3) =>
  iteP (decide (x0 < x1)) (
    iteP (decide (IntKind.wrap IntKind.i64 (x3 + x0) < (↑(List.length x2) : Int))) (
      iteP (within (IntKind.wrap IntKind.i64 (x3 + x0)) (List.length x2)) (
        Option.bind (x2[Int.toNat (IntKind.wrap IntKind.i64 (x3 + x0))]?) fun y0 =>
        iteP (within x3 (List.length x2)) (
          Option.bind (x2[Int.toNat x3]?) fun y1 =>
          iteP (y0 == y1) (
            Option.bind (f (IntKind.wrap IntKind.i64 (x0 + (1 : Int)), x1, x2, x3)) fun r => some r) (
            some (x0))) (
          none)) (
        none)) (
      some (x0))) (
    some (x0))

noncomputable def F91_28 (N : Nat) : Nat → (Int × Int × (List Int) × Int) → Option (Int)
  | 0, _ => none
  | k + 1, x => B91_28 N (F91_28 N k) x

noncomputable def C91_28 (N : Nat) (k : Nat) : Cut := ⟨[7, 2, 0, 1], X91_28, tellX I91_28 (F91_28 N k) O91_28⟩

theorem B91_28_eq (N : Nat) (f : (Int × Int × (List Int) × Int) → Option (Int)) (x0 : Int) (x1 : Int) (x2 : (List Int)) (x3 : Int) : (roundEv (mkE Tryz.prog ownT (tab91 N) []) Tryz.f91.ntmps A91 (loopAt (bod Tryz.f91) 28) 28 ⟨[7, 2, 0, 1], X91_28, tellX I91_28 f O91_28⟩ (J91_28 (x0, x1, x2, x3))).run D91_28 = B91_28 N f (x0, x1, x2, x3) := by kernel_rfl

theorem C91_28_ok (N : Nat) (k : Nat) : ∀ c', At (bod Tryz.f91) 28 c' → CutOK Tryz.prog Tryz.f91.ntmps (idsL A91) c' (C91_28 N k) :=
  loop_ok (E := (mkE Tryz.prog ownT (tab91 N) [])) (mkE_ok mix (tab91_ok N)) (cutsIn_ok trivial) (fuel := 200) (by decide +kernel) (by kernel_rfl) I91_28_ok D91_28_ok (B91_28 N) (F91_28 N) (fun _ => rfl) (fun _ _ => rfl) (fun f x => match x with | (x0, x1, x2, x3) => B91_28_eq N f x0 x1 x2 x3) k

noncomputable def O91 (r : Int) : Tr (Pk) := .ret ⟨[.v (.int .i64 (r))], []⟩

noncomputable def D91 : Pk → Option (Int)
  | ⟨[.v (.int .i64 x0)], []⟩ => some (x0)
  | _ => none

theorem D91_ok : ∀ y r, D91 y = some r → ∀ z, (O91 r).to z → y = z := by
  intro y r h
  unfold D91 at h
  split at h <;> first | (cases h; intro z hz; exact Option.some.inj hz) | cases h

noncomputable def F91 (N : Nat) : ((List Int) × Int × Int) → Option (Int)
  | (x0, x1, x2) =>
  Option.bind (F91_28 N N ((1 : Int), x2, x0, x1)) fun y0 =>
  some (y0)

theorem F91_eq (N : Nat) (x0 : (List Int)) (x1 : Int) (x2 : Int) : (fnEv (mkE Tryz.prog ownT (tab91 N) [(28, (C91_28 N N))]) Tryz.f91 (J91 (x0, x1, x2))).run D91 = F91 N (x0, x1, x2) := by kernel_rfl

noncomputable def T91 (N : Nat) : Pk → Tr Pk := tell I91 (F91 N) O91

theorem T91_ok (N : Nat) : FOK Tryz.prog 91 (T91 N) :=
  (tell_ok (E := (mkE Tryz.prog ownT (tab91 N) [(28, (C91_28 N N))])) (mkE_ok mix (tab91_ok N)) Tryz.func91 (show Tryz.f91.body = some (bod Tryz.f91) by kernel_rfl) (by decide +kernel) (F := F91 N) I91_ok D91_ok (args := A91) (fun _ => by kernel_rfl) (fun _ => by show 3 ≤ Tryz.f91.ntmps; exact of_decide_eq_true (by kernel_rfl)) (cutsIn_ok ⟨fun c' h => (C91_28_ok N N c' h), trivial⟩) (fun x => match x with | (x0, x1, x2) => F91_eq N x0 x1 x2))


end Go.Proofs.YteddgkplkjldcaaGreat.Am

set_option linter.unusedVariables false
set_option maxRecDepth 100000
namespace Go.Proofs.YteddgkplkjldcaaGreat.Am
open Go.Am

/-! ## f54: mirador/deflate.packed -/

noncomputable def I54 : Pk → Option ((List Int))
  | ⟨[.ro (.int .i64) x0], []⟩ => some x0
  | _ => none

noncomputable def J54 (x : (List Int)) : Pk := ⟨[.ro (.int .i64) (x)], []⟩

theorem I54_ok : ∀ pk x, I54 pk = some x → pk = J54 x := by
  intro pk x h
  unfold I54 at h
  split at h <;> first | (cases h; rfl) | cases h

noncomputable def A54 : List TV := []

noncomputable def tab54 (N : Nat) : List (Nat × (Pk → Tr Pk)) := [(91, T91 N)]

theorem tab54_ok (N : Nat) : TabOK Tryz.prog (tab54 N) := ⟨T91_ok N, trivial⟩

def X54_58 : Ex → List Nat
  | .ret => [2]
  | .exit 0 => [3]
  | _ => []

noncomputable def I54_58 : Pk → Option (Int × (List Int) × (List (Int × (Int × (Int × Unit)))))
  | ⟨[.sl 0 (none), .v (.int .i64 x0), .ro (Ty.int IntKind.i64) x1], [some (.row (Ty.cons (Ty.int IntKind.i64) (Ty.cons (Ty.int IntKind.i64) (Ty.cons (Ty.int IntKind.i64) Ty.unit))) 96 x2)]⟩ => some (x0, x1, x2)
  | _ => none

noncomputable def J54_58 (x : Int × (List Int) × (List (Int × (Int × (Int × Unit))))) : Pk := ⟨[.sl 0 (none), .v (.int .i64 (x.1)), .ro (Ty.int IntKind.i64) (x.2.1)], [some (.row (Ty.cons (Ty.int IntKind.i64) (Ty.cons (Ty.int IntKind.i64) (Ty.cons (Ty.int IntKind.i64) Ty.unit))) 96 (x.2.2))]⟩

theorem I54_58_ok : ∀ pk x, I54_58 pk = some x → pk = J54_58 x := by
  intro pk x h
  unfold I54_58 at h
  split at h <;> first | (cases h; rfl) | cases h

noncomputable def O54_58 (r : (List (Int × (Int × (Int × Unit))))) : Tr (Ex × Pk) := .ret (.exit 0, ⟨[.sl 0 (none)], [some (.row (Ty.cons (Ty.int IntKind.i64) (Ty.cons (Ty.int IntKind.i64) (Ty.cons (Ty.int IntKind.i64) Ty.unit))) 96 (r))]⟩)

noncomputable def D54_58 : Ex × Pk → Option ((List (Int × (Int × (Int × Unit)))))
  | (.exit 0, ⟨[.sl 0 (none)], [some (.row (Ty.cons (Ty.int IntKind.i64) (Ty.cons (Ty.int IntKind.i64) (Ty.cons (Ty.int IntKind.i64) Ty.unit))) 96 x0)]⟩) => some (x0)
  | _ => none

theorem D54_58_ok : ∀ y r, D54_58 y = some r → ∀ z, (O54_58 r).to z → y = z := by
  intro y r h
  unfold D54_58 at h
  split at h <;> first | (cases h; intro z hz; exact Option.some.inj hz) | cases h

noncomputable def B54_58 (N : Nat) (f : (Int × (List Int) × (List (Int × (Int × (Int × Unit))))) → Option ((List (Int × (Int × (Int × Unit)))))) : (Int × (List Int) × (List (Int × (Int × (Int × Unit))))) → Option ((List (Int × (Int × (Int × Unit)))))
  | (x0, x1, x2) =>
  iteP (decide (x0 < (↑(List.length x1) : Int))) (
    Option.bind (F91 N (x1, x0, (138 : Int))) fun y0 =>
    iteP (within x0 (List.length x1)) (
      Option.bind (x1[Int.toNat x0]?) fun y1 =>
      iteP (y1 == (0 : Int)) (
        iteP (decide (y0 > (10 : Int))) (
          iteP (decide ((List.length x2 + List.length [((18 : Int), (7 : Int), IntKind.wrap IntKind.i64 (y0 - (11 : Int)), ())]) * (24 : Nat) ≤ (140737488355328 : Nat) ∧ List.length x2 + List.length [((18 : Int), (7 : Int), IntKind.wrap IntKind.i64 (y0 - (11 : Int)), ())] ≤ (140737488355328 : Nat))) (
            Option.bind (f (IntKind.wrap IntKind.i64 (x0 + y0), x1, x2 ++ [((18 : Int), (7 : Int), IntKind.wrap IntKind.i64 (y0 - (11 : Int)), ())])) fun r => some r) (
            none)) (
          iteP (within x0 (List.length x1)) (
            Option.bind (x1[Int.toNat x0]?) fun y2 =>
            iteP (y2 == (0 : Int)) (
              iteP (decide (y0 > (2 : Int))) (
                iteP (decide ((List.length x2 + List.length [((17 : Int), (3 : Int), IntKind.wrap IntKind.i64 (y0 - (3 : Int)), ())]) * (24 : Nat) ≤ (140737488355328 : Nat) ∧ List.length x2 + List.length [((17 : Int), (3 : Int), IntKind.wrap IntKind.i64 (y0 - (3 : Int)), ())] ≤ (140737488355328 : Nat))) (
                  Option.bind (f (IntKind.wrap IntKind.i64 (x0 + y0), x1, x2 ++ [((17 : Int), (3 : Int), IntKind.wrap IntKind.i64 (y0 - (3 : Int)), ())])) fun r => some r) (
                  none)) (
                iteP (decide (x0 > (0 : Int))) (
                  iteP (within x0 (List.length x1)) (
                    Option.bind (x1[Int.toNat x0]?) fun y3 =>
                    iteP (within (IntKind.wrap IntKind.i64 (x0 - (1 : Int))) (List.length x1)) (
                      Option.bind (x1[Int.toNat (IntKind.wrap IntKind.i64 (x0 - (1 : Int)))]?) fun y4 =>
                      iteP (y3 == y4) (
                        iteP (decide (y0 > (2 : Int))) (
                          iteP (decide ((List.length x2 + List.length [((16 : Int), (2 : Int), IntKind.wrap IntKind.i64 ((if (6 : Int) < y0 then (6 : Int) else y0) - (3 : Int)), ())]) * (24 : Nat) ≤ (140737488355328 : Nat) ∧ List.length x2 + List.length [((16 : Int), (2 : Int), IntKind.wrap IntKind.i64 ((if (6 : Int) < y0 then (6 : Int) else y0) - (3 : Int)), ())] ≤ (140737488355328 : Nat))) (
                            Option.bind (f (IntKind.wrap IntKind.i64 (x0 + if (6 : Int) < y0 then (6 : Int) else y0), x1, x2 ++ [((16 : Int), (2 : Int), IntKind.wrap IntKind.i64 ((if (6 : Int) < y0 then (6 : Int) else y0) - (3 : Int)), ())])) fun r => some r) (
                            none)) (
                          iteP (within x0 (List.length x1)) (
                            Option.bind (x1[Int.toNat x0]?) fun y5 =>
                            iteP (decide ((List.length x2 + List.length [(y5, (0 : Int), (0 : Int), ())]) * (24 : Nat) ≤ (140737488355328 : Nat) ∧ List.length x2 + List.length [(y5, (0 : Int), (0 : Int), ())] ≤ (140737488355328 : Nat))) (
                              Option.bind (f (IntKind.wrap IntKind.i64 (x0 + (1 : Int)), x1, x2 ++ [(y5, (0 : Int), (0 : Int), ())])) fun r => some r) (
                              none)) (
                            none))) (
                        iteP (within x0 (List.length x1)) (
                          Option.bind (x1[Int.toNat x0]?) fun y6 =>
                          iteP (decide ((List.length x2 + List.length [(y6, (0 : Int), (0 : Int), ())]) * (24 : Nat) ≤ (140737488355328 : Nat) ∧ List.length x2 + List.length [(y6, (0 : Int), (0 : Int), ())] ≤ (140737488355328 : Nat))) (
                            Option.bind (f (IntKind.wrap IntKind.i64 (x0 + (1 : Int)), x1, x2 ++ [(y6, (0 : Int), (0 : Int), ())])) fun r => some r) (
                            none)) (
                          none))) (
                      none)) (
                    none)) (
                  iteP (within x0 (List.length x1)) (
                    Option.bind (x1[Int.toNat x0]?) fun y7 =>
                    iteP (decide ((List.length x2 + List.length [(y7, (0 : Int), (0 : Int), ())]) * (24 : Nat) ≤ (140737488355328 : Nat) ∧ List.length x2 + List.length [(y7, (0 : Int), (0 : Int), ())] ≤ (140737488355328 : Nat))) (
                      Option.bind (f (IntKind.wrap IntKind.i64 (x0 + (1 : Int)), x1, x2 ++ [(y7, (0 : Int), (0 : Int), ())])) fun r => some r) (
                      none)) (
                    none)))) (
              iteP (decide (x0 > (0 : Int))) (
                iteP (within x0 (List.length x1)) (
                  Option.bind (x1[Int.toNat x0]?) fun y8 =>
                  iteP (within (IntKind.wrap IntKind.i64 (x0 - (1 : Int))) (List.length x1)) (
                    Option.bind (x1[Int.toNat (IntKind.wrap IntKind.i64 (x0 - (1 : Int)))]?) fun y9 =>
                    iteP (y8 == y9) (
                      iteP (decide (y0 > (2 : Int))) (
                        iteP (decide ((List.length x2 + List.length [((16 : Int), (2 : Int), IntKind.wrap IntKind.i64 ((if (6 : Int) < y0 then (6 : Int) else y0) - (3 : Int)), ())]) * (24 : Nat) ≤ (140737488355328 : Nat) ∧ List.length x2 + List.length [((16 : Int), (2 : Int), IntKind.wrap IntKind.i64 ((if (6 : Int) < y0 then (6 : Int) else y0) - (3 : Int)), ())] ≤ (140737488355328 : Nat))) (
                          Option.bind (f (IntKind.wrap IntKind.i64 (x0 + if (6 : Int) < y0 then (6 : Int) else y0), x1, x2 ++ [((16 : Int), (2 : Int), IntKind.wrap IntKind.i64 ((if (6 : Int) < y0 then (6 : Int) else y0) - (3 : Int)), ())])) fun r => some r) (
                          none)) (
                        iteP (within x0 (List.length x1)) (
                          Option.bind (x1[Int.toNat x0]?) fun y10 =>
                          iteP (decide ((List.length x2 + List.length [(y10, (0 : Int), (0 : Int), ())]) * (24 : Nat) ≤ (140737488355328 : Nat) ∧ List.length x2 + List.length [(y10, (0 : Int), (0 : Int), ())] ≤ (140737488355328 : Nat))) (
                            Option.bind (f (IntKind.wrap IntKind.i64 (x0 + (1 : Int)), x1, x2 ++ [(y10, (0 : Int), (0 : Int), ())])) fun r => some r) (
                            none)) (
                          none))) (
                      iteP (within x0 (List.length x1)) (
                        Option.bind (x1[Int.toNat x0]?) fun y11 =>
                        iteP (decide ((List.length x2 + List.length [(y11, (0 : Int), (0 : Int), ())]) * (24 : Nat) ≤ (140737488355328 : Nat) ∧ List.length x2 + List.length [(y11, (0 : Int), (0 : Int), ())] ≤ (140737488355328 : Nat))) (
                          Option.bind (f (IntKind.wrap IntKind.i64 (x0 + (1 : Int)), x1, x2 ++ [(y11, (0 : Int), (0 : Int), ())])) fun r => some r) (
                          none)) (
                        none))) (
                    none)) (
                  none)) (
                iteP (within x0 (List.length x1)) (
                  Option.bind (x1[Int.toNat x0]?) fun y12 =>
                  iteP (decide ((List.length x2 + List.length [(y12, (0 : Int), (0 : Int), ())]) * (24 : Nat) ≤ (140737488355328 : Nat) ∧ List.length x2 + List.length [(y12, (0 : Int), (0 : Int), ())] ≤ (140737488355328 : Nat))) (
                    Option.bind (f (IntKind.wrap IntKind.i64 (x0 + (1 : Int)), x1, x2 ++ [(y12, (0 : Int), (0 : Int), ())])) fun r => some r) (
                    none)) (
                  none)))) (
            none))) (
        iteP (within x0 (List.length x1)) (
          Option.bind (x1[Int.toNat x0]?) fun y13 =>
          iteP (y13 == (0 : Int)) (
            iteP (decide (y0 > (2 : Int))) (
              iteP (decide ((List.length x2 + List.length [((17 : Int), (3 : Int), IntKind.wrap IntKind.i64 (y0 - (3 : Int)), ())]) * (24 : Nat) ≤ (140737488355328 : Nat) ∧ List.length x2 + List.length [((17 : Int), (3 : Int), IntKind.wrap IntKind.i64 (y0 - (3 : Int)), ())] ≤ (140737488355328 : Nat))) (
                Option.bind (f (IntKind.wrap IntKind.i64 (x0 + y0), x1, x2 ++ [((17 : Int), (3 : Int), IntKind.wrap IntKind.i64 (y0 - (3 : Int)), ())])) fun r => some r) (
                none)) (
              iteP (decide (x0 > (0 : Int))) (
                iteP (within x0 (List.length x1)) (
                  Option.bind (x1[Int.toNat x0]?) fun y14 =>
                  iteP (within (IntKind.wrap IntKind.i64 (x0 - (1 : Int))) (List.length x1)) (
                    Option.bind (x1[Int.toNat (IntKind.wrap IntKind.i64 (x0 - (1 : Int)))]?) fun y15 =>
                    iteP (y14 == y15) (
                      iteP (decide (y0 > (2 : Int))) (
                        iteP (decide ((List.length x2 + List.length [((16 : Int), (2 : Int), IntKind.wrap IntKind.i64 ((if (6 : Int) < y0 then (6 : Int) else y0) - (3 : Int)), ())]) * (24 : Nat) ≤ (140737488355328 : Nat) ∧ List.length x2 + List.length [((16 : Int), (2 : Int), IntKind.wrap IntKind.i64 ((if (6 : Int) < y0 then (6 : Int) else y0) - (3 : Int)), ())] ≤ (140737488355328 : Nat))) (
                          Option.bind (f (IntKind.wrap IntKind.i64 (x0 + if (6 : Int) < y0 then (6 : Int) else y0), x1, x2 ++ [((16 : Int), (2 : Int), IntKind.wrap IntKind.i64 ((if (6 : Int) < y0 then (6 : Int) else y0) - (3 : Int)), ())])) fun r => some r) (
                          none)) (
                        iteP (within x0 (List.length x1)) (
                          Option.bind (x1[Int.toNat x0]?) fun y16 =>
                          iteP (decide ((List.length x2 + List.length [(y16, (0 : Int), (0 : Int), ())]) * (24 : Nat) ≤ (140737488355328 : Nat) ∧ List.length x2 + List.length [(y16, (0 : Int), (0 : Int), ())] ≤ (140737488355328 : Nat))) (
                            Option.bind (f (IntKind.wrap IntKind.i64 (x0 + (1 : Int)), x1, x2 ++ [(y16, (0 : Int), (0 : Int), ())])) fun r => some r) (
                            none)) (
                          none))) (
                      iteP (within x0 (List.length x1)) (
                        Option.bind (x1[Int.toNat x0]?) fun y17 =>
                        iteP (decide ((List.length x2 + List.length [(y17, (0 : Int), (0 : Int), ())]) * (24 : Nat) ≤ (140737488355328 : Nat) ∧ List.length x2 + List.length [(y17, (0 : Int), (0 : Int), ())] ≤ (140737488355328 : Nat))) (
                          Option.bind (f (IntKind.wrap IntKind.i64 (x0 + (1 : Int)), x1, x2 ++ [(y17, (0 : Int), (0 : Int), ())])) fun r => some r) (
                          none)) (
                        none))) (
                    none)) (
                  none)) (
                iteP (within x0 (List.length x1)) (
                  Option.bind (x1[Int.toNat x0]?) fun y18 =>
                  iteP (decide ((List.length x2 + List.length [(y18, (0 : Int), (0 : Int), ())]) * (24 : Nat) ≤ (140737488355328 : Nat) ∧ List.length x2 + List.length [(y18, (0 : Int), (0 : Int), ())] ≤ (140737488355328 : Nat))) (
                    Option.bind (f (IntKind.wrap IntKind.i64 (x0 + (1 : Int)), x1, x2 ++ [(y18, (0 : Int), (0 : Int), ())])) fun r => some r) (
                    none)) (
                  none)))) (
            iteP (decide (x0 > (0 : Int))) (
              iteP (within x0 (List.length x1)) (
                Option.bind (x1[Int.toNat x0]?) fun y19 =>
                iteP (within (IntKind.wrap IntKind.i64 (x0 - (1 : Int))) (List.length x1)) (
                  Option.bind (x1[Int.toNat (IntKind.wrap IntKind.i64 (x0 - (1 : Int)))]?) fun y20 =>
                  iteP (y19 == y20) (
                    iteP (decide (y0 > (2 : Int))) (
                      iteP (decide ((List.length x2 + List.length [((16 : Int), (2 : Int), IntKind.wrap IntKind.i64 ((if (6 : Int) < y0 then (6 : Int) else y0) - (3 : Int)), ())]) * (24 : Nat) ≤ (140737488355328 : Nat) ∧ List.length x2 + List.length [((16 : Int), (2 : Int), IntKind.wrap IntKind.i64 ((if (6 : Int) < y0 then (6 : Int) else y0) - (3 : Int)), ())] ≤ (140737488355328 : Nat))) (
                        Option.bind (f (IntKind.wrap IntKind.i64 (x0 + if (6 : Int) < y0 then (6 : Int) else y0), x1, x2 ++ [((16 : Int), (2 : Int), IntKind.wrap IntKind.i64 ((if (6 : Int) < y0 then (6 : Int) else y0) - (3 : Int)), ())])) fun r => some r) (
                        none)) (
                      iteP (within x0 (List.length x1)) (
                        Option.bind (x1[Int.toNat x0]?) fun y21 =>
                        iteP (decide ((List.length x2 + List.length [(y21, (0 : Int), (0 : Int), ())]) * (24 : Nat) ≤ (140737488355328 : Nat) ∧ List.length x2 + List.length [(y21, (0 : Int), (0 : Int), ())] ≤ (140737488355328 : Nat))) (
                          Option.bind (f (IntKind.wrap IntKind.i64 (x0 + (1 : Int)), x1, x2 ++ [(y21, (0 : Int), (0 : Int), ())])) fun r => some r) (
                          none)) (
                        none))) (
                    iteP (within x0 (List.length x1)) (
                      Option.bind (x1[Int.toNat x0]?) fun y22 =>
                      iteP (decide ((List.length x2 + List.length [(y22, (0 : Int), (0 : Int), ())]) * (24 : Nat) ≤ (140737488355328 : Nat) ∧ List.length x2 + List.length [(y22, (0 : Int), (0 : Int), ())] ≤ (140737488355328 : Nat))) (
                        Option.bind (f (IntKind.wrap IntKind.i64 (x0 + (1 : Int)), x1, x2 ++ [(y22, (0 : Int), (0 : Int), ())])) fun r => some r) (
                        none)) (
                      none))) (
                  none)) (
                none)) (
              iteP (within x0 (List.length x1)) (
                Option.bind (x1[Int.toNat x0]?) fun y23 =>
                iteP (decide ((List.length x2 + List.length [(y23, (0 : Int), (0 : Int), ())]) * (24 : Nat) ≤ (140737488355328 : Nat) ∧ List.length x2 + List.length [(y23, (0 : Int), (0 : Int), ())] ≤ (140737488355328 : Nat))) (
                  Option.bind (f (IntKind.wrap IntKind.i64 (x0 + (1 : Int)), x1, x2 ++ [(y23, (0 : Int), (0 : Int), ())])) fun r => some r) (
                  none)) (
                none)))) (
          none))) (
      none)) (
    some (x2))

noncomputable def F54_58 (N : Nat) : Nat → (Int × (List Int) × (List (Int × (Int × (Int × Unit))))) → Option ((List (Int × (Int × (Int × Unit)))))
  | 0, _ => none
  | k + 1, x => B54_58 N (F54_58 N k) x

noncomputable def C54_58 (N : Nat) (k : Nat) : Cut := ⟨[3, 4, 0], X54_58, tellX I54_58 (F54_58 N k) O54_58⟩

theorem B54_58_eq (N : Nat) (f : (Int × (List Int) × (List (Int × (Int × (Int × Unit))))) → Option ((List (Int × (Int × (Int × Unit)))))) (x0 : Int) (x1 : (List Int)) (x2 : (List (Int × (Int × (Int × Unit))))) : (roundEv (mkE Tryz.prog ownT (tab54 N) []) Tryz.f54.ntmps A54 (loopAt (bod Tryz.f54) 58) 58 ⟨[3, 4, 0], X54_58, tellX I54_58 f O54_58⟩ (J54_58 (x0, x1, x2))).run D54_58 = B54_58 N f (x0, x1, x2) := by kernel_rfl

theorem C54_58_ok (N : Nat) (k : Nat) : ∀ c', At (bod Tryz.f54) 58 c' → CutOK Tryz.prog Tryz.f54.ntmps (idsL A54) c' (C54_58 N k) :=
  loop_ok (E := (mkE Tryz.prog ownT (tab54 N) [])) (mkE_ok mix (tab54_ok N)) (cutsIn_ok trivial) (fuel := 200) (by decide +kernel) (by kernel_rfl) I54_58_ok D54_58_ok (B54_58 N) (F54_58 N) (fun _ => rfl) (fun _ _ => rfl) (fun f x => match x with | (x0, x1, x2) => B54_58_eq N f x0 x1 x2) k

noncomputable def O54 (r : (List (Int × (Int × (Int × Unit))))) : Tr (Pk) := .ret ⟨[.sl 0 (none)], [some (.row (Ty.cons (Ty.int IntKind.i64) (Ty.cons (Ty.int IntKind.i64) (Ty.cons (Ty.int IntKind.i64) Ty.unit))) 96 (r))]⟩

noncomputable def D54 : Pk → Option ((List (Int × (Int × (Int × Unit)))))
  | ⟨[.sl 0 (none)], [some (.row (Ty.cons (Ty.int IntKind.i64) (Ty.cons (Ty.int IntKind.i64) (Ty.cons (Ty.int IntKind.i64) Ty.unit))) 96 x0)]⟩ => some (x0)
  | _ => none

theorem D54_ok : ∀ y r, D54 y = some r → ∀ z, (O54 r).to z → y = z := by
  intro y r h
  unfold D54 at h
  split at h <;> first | (cases h; intro z hz; exact Option.some.inj hz) | cases h

noncomputable def F54 (N : Nat) : ((List Int)) → Option ((List (Int × (Int × (Int × Unit)))))
  | x0 =>
  Option.bind (F54_58 N N ((0 : Int), x0, [])) fun y0 =>
  some (y0)

theorem F54_eq (N : Nat) (x0 : (List Int)) : (fnEv (mkE Tryz.prog ownT (tab54 N) [(58, (C54_58 N N))]) Tryz.f54 (J54 x0)).run D54 = F54 N x0 := by kernel_rfl

noncomputable def T54 (N : Nat) : Pk → Tr Pk := tell I54 (F54 N) O54

theorem T54_ok (N : Nat) : FOK Tryz.prog 54 (T54 N) :=
  (tell_ok (E := (mkE Tryz.prog ownT (tab54 N) [(58, (C54_58 N N))])) (mkE_ok mix (tab54_ok N)) Tryz.func54 (show Tryz.f54.body = some (bod Tryz.f54) by kernel_rfl) (by decide +kernel) (F := F54 N) I54_ok D54_ok (args := A54) (fun _ => by kernel_rfl) (fun _ => by show 1 ≤ Tryz.f54.ntmps; exact of_decide_eq_true (by kernel_rfl)) (cutsIn_ok ⟨fun c' h => (C54_58_ok N N c' h), trivial⟩) (fun x => match x with | x0 => F54_eq N x0))

/-! ## f58: mirador/inflate.Order -/

noncomputable def I58 : Pk → Option (Unit)
  | ⟨[], []⟩ => some ()
  | _ => none

noncomputable def J58 (x : Unit) : Pk := ⟨[], []⟩

theorem I58_ok : ∀ pk x, I58 pk = some x → pk = J58 x := by
  intro pk x h
  unfold I58 at h
  split at h <;> first | (cases h; rfl) | cases h

noncomputable def A58 : List TV := []

noncomputable def tab58 (N : Nat) : List (Nat × (Pk → Tr Pk)) := []

theorem tab58_ok (N : Nat) : TabOK Tryz.prog (tab58 N) := trivial

def X58_58 : Ex → List Nat
  | .ret => [0]
  | .exit 0 => [1]
  | _ => []

noncomputable def I58_58 : Pk → Option (Int × (List Int))
  | ⟨[.sl 0 (none), .v (.int .i64 x0)], [some (.row (Ty.int IntKind.i64) 3 x1)]⟩ => some (x0, x1)
  | _ => none

noncomputable def J58_58 (x : Int × (List Int)) : Pk := ⟨[.sl 0 (none), .v (.int .i64 (x.1))], [some (.row (Ty.int IntKind.i64) 3 (x.2))]⟩

theorem I58_58_ok : ∀ pk x, I58_58 pk = some x → pk = J58_58 x := by
  intro pk x h
  unfold I58_58 at h
  split at h <;> first | (cases h; rfl) | cases h

noncomputable def O58_58 (r : (List Int)) : Tr (Ex × Pk) := .ret (.exit 0, ⟨[.sl 0 (none)], [some (.row (Ty.int IntKind.i64) 3 (r))]⟩)

noncomputable def D58_58 : Ex × Pk → Option ((List Int))
  | (.exit 0, ⟨[.sl 0 (none)], [some (.row (Ty.int IntKind.i64) 3 x0)]⟩) => some (x0)
  | _ => none

theorem D58_58_ok : ∀ y r, D58_58 y = some r → ∀ z, (O58_58 r).to z → y = z := by
  intro y r h
  unfold D58_58 at h
  split at h <;> first | (cases h; intro z hz; exact Option.some.inj hz) | cases h

noncomputable def B58_58 (N : Nat) (f : (Int × (List Int)) → Option ((List Int))) : (Int × (List Int)) → Option ((List Int))
  | (x0, x1) =>
  iteP (decide (x0 < (8 : Int))) (
    iteP (decide ((List.length x1 + List.length [IntKind.wrap IntKind.i64 ((7 : Int) + x0), IntKind.wrap IntKind.i64 ((8 : Int) - x0)]) * (8 : Nat) ≤ (140737488355328 : Nat) ∧ List.length x1 + List.length [IntKind.wrap IntKind.i64 ((7 : Int) + x0), IntKind.wrap IntKind.i64 ((8 : Int) - x0)] ≤ (140737488355328 : Nat))) (
      Option.bind (f (IntKind.wrap IntKind.i64 (x0 + (1 : Int)), x1 ++ [IntKind.wrap IntKind.i64 ((7 : Int) + x0), IntKind.wrap IntKind.i64 ((8 : Int) - x0)])) fun r => some r) (
      none)) (
    some (x1))

noncomputable def F58_58 (N : Nat) : Nat → (Int × (List Int)) → Option ((List Int))
  | 0, _ => none
  | k + 1, x => B58_58 N (F58_58 N k) x

noncomputable def C58_58 (N : Nat) (k : Nat) : Cut := ⟨[1, 2], X58_58, tellX I58_58 (F58_58 N k) O58_58⟩

theorem B58_58_eq (N : Nat) (f : (Int × (List Int)) → Option ((List Int))) (x0 : Int) (x1 : (List Int)) : (roundEv (mkE Tryz.prog ownT (tab58 N) []) Tryz.f58.ntmps A58 (loopAt (bod Tryz.f58) 58) 58 ⟨[1, 2], X58_58, tellX I58_58 f O58_58⟩ (J58_58 (x0, x1))).run D58_58 = B58_58 N f (x0, x1) := by kernel_rfl

theorem C58_58_ok (N : Nat) (k : Nat) : ∀ c', At (bod Tryz.f58) 58 c' → CutOK Tryz.prog Tryz.f58.ntmps (idsL A58) c' (C58_58 N k) :=
  loop_ok (E := (mkE Tryz.prog ownT (tab58 N) [])) (mkE_ok mix (tab58_ok N)) (cutsIn_ok trivial) (fuel := 200) (by decide +kernel) (by kernel_rfl) I58_58_ok D58_58_ok (B58_58 N) (F58_58 N) (fun _ => rfl) (fun _ _ => rfl) (fun f x => match x with | (x0, x1) => B58_58_eq N f x0 x1) k

noncomputable def O58 (r : (List Int)) : Tr (Pk) := .ret ⟨[.sl 0 (none)], [some (.row (Ty.int IntKind.i64) 3 (r))]⟩

noncomputable def D58 : Pk → Option ((List Int))
  | ⟨[.sl 0 (none)], [some (.row (Ty.int IntKind.i64) 3 x0)]⟩ => some (x0)
  | _ => none

theorem D58_ok : ∀ y r, D58 y = some r → ∀ z, (O58 r).to z → y = z := by
  intro y r h
  unfold D58 at h
  split at h <;> first | (cases h; intro z hz; exact Option.some.inj hz) | cases h

noncomputable def F58 (N : Nat) : (Unit) → Option ((List Int))
  | () =>
  Option.bind (F58_58 N N ((1 : Int), [(16 : Int), (17 : Int), (18 : Int), (0 : Int)])) fun y0 =>
  iteP (decide ((List.length y0 + (1 : Nat)) * (8 : Nat) ≤ (140737488355328 : Nat) ∧ List.length y0 + (1 : Nat) ≤ (140737488355328 : Nat))) (
    some (y0 ++ [(15 : Int)])) (
    none)

theorem F58_eq (N : Nat)  : (fnEv (mkE Tryz.prog ownT (tab58 N) [(58, (C58_58 N N))]) Tryz.f58 (J58 ())).run D58 = F58 N () := by kernel_rfl

noncomputable def T58 (N : Nat) : Pk → Tr Pk := tell I58 (F58 N) O58

theorem T58_ok (N : Nat) : FOK Tryz.prog 58 (T58 N) :=
  (tell_ok (E := (mkE Tryz.prog ownT (tab58 N) [(58, (C58_58 N N))])) (mkE_ok mix (tab58_ok N)) Tryz.func58 (show Tryz.f58.body = some (bod Tryz.f58) by kernel_rfl) (by decide +kernel) (F := F58 N) I58_ok D58_ok (args := A58) (fun _ => by kernel_rfl) (fun _ => by show 0 ≤ Tryz.f58.ntmps; exact of_decide_eq_true (by kernel_rfl)) (cutsIn_ok ⟨fun c' h => (C58_58_ok N N c' h), trivial⟩) (fun x => match x with | () => F58_eq N ))

/-! ## f21: mirador/deflate.Lengths -/

noncomputable def I21 : Pk → Option ((List Int) × (List Int) × Int × Int × (List Int))
  | ⟨[.adr 0 [], .ro (.int .i64) x0, .ro (.int .i64) x1], [some (.var (.agg [.sl 1 none, .v (.int .i64 x2), .v (.int .i64 x3)])), some (.row (.int .u8) 5 x4)]⟩ => some (x0, x1, x2, x3, x4)
  | _ => none

noncomputable def J21 (x : (List Int) × (List Int) × Int × Int × (List Int)) : Pk := ⟨[.adr 0 [], .ro (.int .i64) (x.1), .ro (.int .i64) (x.2.1)], [some (.var (.agg [.sl 1 none, .v (.int .i64 (x.2.2.1)), .v (.int .i64 (x.2.2.2.1))])), some (.row (.int .u8) 5 (x.2.2.2.2))]⟩

theorem I21_ok : ∀ pk x, I21 pk = some x → pk = J21 x := by
  intro pk x h
  unfold I21 at h
  split at h <;> first | (cases h; rfl) | cases h

noncomputable def A21 : List TV := [.adr 0 []]

noncomputable def tab21 (N : Nat) : List (Nat × (Pk → Tr Pk)) := [(53, T53 N), (55, T55 N), (54, T54 N), (56, T56 N), (57, T57 N), (58, T58 N), (14, T14 N), (59, T59 N)]

theorem tab21_ok (N : Nat) : TabOK Tryz.prog (tab21 N) := ⟨T53_ok N, ⟨T55_ok N, ⟨T54_ok N, ⟨T56_ok N, ⟨T57_ok N, ⟨T58_ok N, ⟨T14_ok N, ⟨T59_ok N, trivial⟩⟩⟩⟩⟩⟩⟩⟩

def X21_506 : Ex → List Nat
  | .ret => [6]
  | .exit 0 => [9, 0, 8, 2, 1]
  | _ => []

def X21_8188 : Ex → List Nat
  | .ret => [6]
  | .exit 2 => [1, 2, 16, 17, 14, 8, 0, 12]
  | _ => []

def X21_262138 : Ex → List Nat
  | .ret => [6]
  | .exit 4 => [8, 14, 0]
  | _ => []

def X21_524282 : Ex → List Nat
  | .ret => [6]
  | .exit 6 => []
  | _ => []

noncomputable def I21_506 : Pk → Option (Int × Int × (List Int) × (List Int) × Int × Int × (List (Int × (Int × (Int × Unit)))) × (List Int) × (List Int))
  | ⟨[.v (.int .i64 x0), .v (.int .i64 x1), .ro (Ty.int IntKind.i64) x2, .ro (Ty.int IntKind.i64) x3, .sl 1 (none), .adr 0 [], .sl 1 (none), .sl 2 (none)], [some (.var (.agg [.sl 3 (none), .v (.int .i64 x4), .v (.int .i64 x5)])), some (.row (Ty.cons (Ty.int IntKind.i64) (Ty.cons (Ty.int IntKind.i64) (Ty.cons (Ty.int IntKind.i64) Ty.unit))) 96 x6), some (.row (Ty.int IntKind.i64) 3 x7), some (.row (Ty.int IntKind.u8) 5 x8)]⟩ => some (x0, x1, x2, x3, x4, x5, x6, x7, x8)
  | _ => none

noncomputable def J21_506 (x : Int × Int × (List Int) × (List Int) × Int × Int × (List (Int × (Int × (Int × Unit)))) × (List Int) × (List Int)) : Pk := ⟨[.v (.int .i64 (x.1)), .v (.int .i64 (x.2.1)), .ro (Ty.int IntKind.i64) (x.2.2.1), .ro (Ty.int IntKind.i64) (x.2.2.2.1), .sl 1 (none), .adr 0 [], .sl 1 (none), .sl 2 (none)], [some (.var (.agg [.sl 3 (none), .v (.int .i64 (x.2.2.2.2.1)), .v (.int .i64 (x.2.2.2.2.2.1))])), some (.row (Ty.cons (Ty.int IntKind.i64) (Ty.cons (Ty.int IntKind.i64) (Ty.cons (Ty.int IntKind.i64) Ty.unit))) 96 (x.2.2.2.2.2.2.1)), some (.row (Ty.int IntKind.i64) 3 (x.2.2.2.2.2.2.2.1)), some (.row (Ty.int IntKind.u8) 5 (x.2.2.2.2.2.2.2.2))]⟩

theorem I21_506_ok : ∀ pk x, I21_506 pk = some x → pk = J21_506 x := by
  intro pk x h
  unfold I21_506 at h
  split at h <;> first | (cases h; rfl) | cases h

noncomputable def O21_506 (r : (List Int) × (List Int) × Int × Int × (List Int) × (List (Int × (Int × (Int × Unit)))) × (List Int)) : Tr (Ex × Pk) := .ret (.exit 0, ⟨[.sl 1 (none), .adr 0 [], .sl 2 (none), .ro (Ty.int IntKind.i64) (r.1), .ro (Ty.int IntKind.i64) (r.2.1)], [some (.var (.agg [.sl 3 (none), .v (.int .i64 (r.2.2.1)), .v (.int .i64 (r.2.2.2.1))])), some (.row (Ty.int IntKind.i64) 3 (r.2.2.2.2.1)), some (.row (Ty.cons (Ty.int IntKind.i64) (Ty.cons (Ty.int IntKind.i64) (Ty.cons (Ty.int IntKind.i64) Ty.unit))) 96 (r.2.2.2.2.2.1)), some (.row (Ty.int IntKind.u8) 5 (r.2.2.2.2.2.2))]⟩)

noncomputable def D21_506 : Ex × Pk → Option ((List Int) × (List Int) × Int × Int × (List Int) × (List (Int × (Int × (Int × Unit)))) × (List Int))
  | (.exit 0, ⟨[.sl 1 (none), .adr 0 [], .sl 2 (none), .ro (Ty.int IntKind.i64) x0, .ro (Ty.int IntKind.i64) x1], [some (.var (.agg [.sl 3 (none), .v (.int .i64 x2), .v (.int .i64 x3)])), some (.row (Ty.int IntKind.i64) 3 x4), some (.row (Ty.cons (Ty.int IntKind.i64) (Ty.cons (Ty.int IntKind.i64) (Ty.cons (Ty.int IntKind.i64) Ty.unit))) 96 x5), some (.row (Ty.int IntKind.u8) 5 x6)]⟩) => some ((x0, x1, x2, x3, x4, x5, x6))
  | _ => none

theorem D21_506_ok : ∀ y r, D21_506 y = some r → ∀ z, (O21_506 r).to z → y = z := by
  intro y r h
  unfold D21_506 at h
  split at h <;> first | (cases h; intro z hz; exact Option.some.inj hz) | cases h

noncomputable def B21_506 (N : Nat) (f : (Int × Int × (List Int) × (List Int) × Int × Int × (List (Int × (Int × (Int × Unit)))) × (List Int) × (List Int)) → Option ((List Int) × (List Int) × Int × Int × (List Int) × (List (Int × (Int × (Int × Unit)))) × (List Int))) : (Int × Int × (List Int) × (List Int) × Int × Int × (List (Int × (Int × (Int × Unit)))) × (List Int) × (List Int)) → Option ((List Int) × (List Int) × Int × Int × (List Int) × (List (Int × (Int × (Int × Unit)))) × (List Int))
  | (x0, x1, x2, x3, x4, x5, x6, x7, x8) =>
  iteP (decide (x0 < x1)) (
    iteP (within x0 (List.length x6)) (
      Option.bind (x6[Int.toNat x0]?) fun y0 =>
      iteP (within (Prod.fst y0) (List.length x7)) (
        Option.bind (x7[Int.toNat (Prod.fst y0)]?) fun y1 =>
        iteP (within (Prod.fst y0) (List.length x7)) (
          Option.bind (x7[Int.toNat (Prod.fst y0)]?) fun y2 =>
          Option.bind (f (IntKind.wrap IntKind.i64 (x0 + (1 : Int)), x1, x2, x3, x4, x5, x6, List.set x7 (Int.toNat (Prod.fst y0)) (IntKind.wrap IntKind.i64 (y1 + (1 : Int))), x8)) fun r => some r) (
          none)) (
        none)) (
      none)) (
    some ((x3, x2, x4, x5, x7, x6, x8)))

noncomputable def F21_506 (N : Nat) : Nat → (Int × Int × (List Int) × (List Int) × Int × Int × (List (Int × (Int × (Int × Unit)))) × (List Int) × (List Int)) → Option ((List Int) × (List Int) × Int × Int × (List Int) × (List (Int × (Int × (Int × Unit)))) × (List Int))
  | 0, _ => none
  | k + 1, x => B21_506 N (F21_506 N k) x

noncomputable def C21_506 (N : Nat) (k : Nat) : Cut := ⟨[58, 57, 1, 2, 8, 0, 56, 9], X21_506, tellX I21_506 (F21_506 N k) O21_506⟩

theorem B21_506_eq (N : Nat) (f : (Int × Int × (List Int) × (List Int) × Int × Int × (List (Int × (Int × (Int × Unit)))) × (List Int) × (List Int)) → Option ((List Int) × (List Int) × Int × Int × (List Int) × (List (Int × (Int × (Int × Unit)))) × (List Int))) (x0 : Int) (x1 : Int) (x2 : (List Int)) (x3 : (List Int)) (x4 : Int) (x5 : Int) (x6 : (List (Int × (Int × (Int × Unit))))) (x7 : (List Int)) (x8 : (List Int)) : (roundEv (mkE Tryz.prog ownT (tab21 N) []) Tryz.f21.ntmps A21 (loopAt (bod Tryz.f21) 506) 506 ⟨[58, 57, 1, 2, 8, 0, 56, 9], X21_506, tellX I21_506 f O21_506⟩ (J21_506 (x0, x1, x2, x3, x4, x5, x6, x7, x8))).run D21_506 = B21_506 N f (x0, x1, x2, x3, x4, x5, x6, x7, x8) := by kernel_rfl

theorem C21_506_ok (N : Nat) (k : Nat) : ∀ c', At (bod Tryz.f21) 506 c' → CutOK Tryz.prog Tryz.f21.ntmps (idsL A21) c' (C21_506 N k) :=
  loop_ok (E := (mkE Tryz.prog ownT (tab21 N) [])) (mkE_ok mix (tab21_ok N)) (cutsIn_ok trivial) (fuel := 200) (by decide +kernel) (by kernel_rfl) I21_506_ok D21_506_ok (B21_506 N) (F21_506 N) (fun _ => rfl) (fun _ _ => rfl) (fun f x => match x with | (x0, x1, x2, x3, x4, x5, x6, x7, x8) => B21_506_eq N f x0 x1 x2 x3 x4 x5 x6 x7 x8) k

noncomputable def I21_8188 : Pk → Option (Int × (List Int) × (List Int) × Int × Int × (List Int) × (List (Int × (Int × (Int × Unit)))) × (List (Int × (Int × Unit))) × (List Int) × (List Int))
  | ⟨[.v (.int .i64 x0), .sl 1 (none), .adr 0 [], .sl 2 (none), .sl 3 (none), .sl 4 (none), .ro (Ty.int IntKind.i64) x1, .ro (Ty.int IntKind.i64) x2], [some (.var (.agg [.sl 5 (none), .v (.int .i64 x3), .v (.int .i64 x4)])), some (.row (Ty.int IntKind.i64) 3 x5), some (.row (Ty.cons (Ty.int IntKind.i64) (Ty.cons (Ty.int IntKind.i64) (Ty.cons (Ty.int IntKind.i64) Ty.unit))) 96 x6), some (.row (Ty.cons (Ty.int IntKind.i64) (Ty.cons (Ty.int IntKind.i64) Ty.unit)) 105 x7), some (.row (Ty.int IntKind.i64) 3 x8), some (.row (Ty.int IntKind.u8) 5 x9)]⟩ => some (x0, x1, x2, x3, x4, x5, x6, x7, x8, x9)
  | _ => none

noncomputable def J21_8188 (x : Int × (List Int) × (List Int) × Int × Int × (List Int) × (List (Int × (Int × (Int × Unit)))) × (List (Int × (Int × Unit))) × (List Int) × (List Int)) : Pk := ⟨[.v (.int .i64 (x.1)), .sl 1 (none), .adr 0 [], .sl 2 (none), .sl 3 (none), .sl 4 (none), .ro (Ty.int IntKind.i64) (x.2.1), .ro (Ty.int IntKind.i64) (x.2.2.1)], [some (.var (.agg [.sl 5 (none), .v (.int .i64 (x.2.2.2.1)), .v (.int .i64 (x.2.2.2.2.1))])), some (.row (Ty.int IntKind.i64) 3 (x.2.2.2.2.2.1)), some (.row (Ty.cons (Ty.int IntKind.i64) (Ty.cons (Ty.int IntKind.i64) (Ty.cons (Ty.int IntKind.i64) Ty.unit))) 96 (x.2.2.2.2.2.2.1)), some (.row (Ty.cons (Ty.int IntKind.i64) (Ty.cons (Ty.int IntKind.i64) Ty.unit)) 105 (x.2.2.2.2.2.2.2.1)), some (.row (Ty.int IntKind.i64) 3 (x.2.2.2.2.2.2.2.2.1)), some (.row (Ty.int IntKind.u8) 5 (x.2.2.2.2.2.2.2.2.2))]⟩

theorem I21_8188_ok : ∀ pk x, I21_8188 pk = some x → pk = J21_8188 x := by
  intro pk x h
  unfold I21_8188 at h
  split at h <;> first | (cases h; rfl) | cases h

noncomputable def O21_8188 (r : (List Int) × (List Int) × Int × Int × Int × (List Int) × (List (Int × (Int × Unit))) × (List (Int × (Int × (Int × Unit)))) × (List Int) × (List Int)) : Tr (Ex × Pk) := .ret (.exit 2, ⟨[.ro (Ty.int IntKind.i64) (r.1), .ro (Ty.int IntKind.i64) (r.2.1), .sl 1 (none), .v (.int .i64 (r.2.2.1)), .sl 2 (none), .sl 3 (none), .adr 0 [], .sl 4 (none)], [some (.var (.agg [.sl 5 (none), .v (.int .i64 (r.2.2.2.1)), .v (.int .i64 (r.2.2.2.2.1))])), some (.row (Ty.int IntKind.i64) 3 (r.2.2.2.2.2.1)), some (.row (Ty.cons (Ty.int IntKind.i64) (Ty.cons (Ty.int IntKind.i64) Ty.unit)) 105 (r.2.2.2.2.2.2.1)), some (.row (Ty.cons (Ty.int IntKind.i64) (Ty.cons (Ty.int IntKind.i64) (Ty.cons (Ty.int IntKind.i64) Ty.unit))) 96 (r.2.2.2.2.2.2.2.1)), some (.row (Ty.int IntKind.i64) 3 (r.2.2.2.2.2.2.2.2.1)), some (.row (Ty.int IntKind.u8) 5 (r.2.2.2.2.2.2.2.2.2))]⟩)

noncomputable def D21_8188 : Ex × Pk → Option ((List Int) × (List Int) × Int × Int × Int × (List Int) × (List (Int × (Int × Unit))) × (List (Int × (Int × (Int × Unit)))) × (List Int) × (List Int))
  | (.exit 2, ⟨[.ro (Ty.int IntKind.i64) x0, .ro (Ty.int IntKind.i64) x1, .sl 1 (none), .v (.int .i64 x2), .sl 2 (none), .sl 3 (none), .adr 0 [], .sl 4 (none)], [some (.var (.agg [.sl 5 (none), .v (.int .i64 x3), .v (.int .i64 x4)])), some (.row (Ty.int IntKind.i64) 3 x5), some (.row (Ty.cons (Ty.int IntKind.i64) (Ty.cons (Ty.int IntKind.i64) Ty.unit)) 105 x6), some (.row (Ty.cons (Ty.int IntKind.i64) (Ty.cons (Ty.int IntKind.i64) (Ty.cons (Ty.int IntKind.i64) Ty.unit))) 96 x7), some (.row (Ty.int IntKind.i64) 3 x8), some (.row (Ty.int IntKind.u8) 5 x9)]⟩) => some ((x0, x1, x2, x3, x4, x5, x6, x7, x8, x9))
  | _ => none

theorem D21_8188_ok : ∀ y r, D21_8188 y = some r → ∀ z, (O21_8188 r).to z → y = z := by
  intro y r h
  unfold D21_8188 at h
  split at h <;> first | (cases h; intro z hz; exact Option.some.inj hz) | cases h

noncomputable def B21_8188 (N : Nat) (f : (Int × (List Int) × (List Int) × Int × Int × (List Int) × (List (Int × (Int × (Int × Unit)))) × (List (Int × (Int × Unit))) × (List Int) × (List Int)) → Option ((List Int) × (List Int) × Int × Int × Int × (List Int) × (List (Int × (Int × Unit))) × (List (Int × (Int × (Int × Unit)))) × (List Int) × (List Int))) : (Int × (List Int) × (List Int) × Int × Int × (List Int) × (List (Int × (Int × (Int × Unit)))) × (List (Int × (Int × Unit))) × (List Int) × (List Int)) → Option ((List Int) × (List Int) × Int × Int × Int × (List Int) × (List (Int × (Int × Unit))) × (List (Int × (Int × (Int × Unit)))) × (List Int) × (List Int))
  | (x0, x1, x2, x3, x4, x5, x6, x7, x8, x9) =>
  iteP (decide (x0 > (4 : Int))) (
    iteP (within (IntKind.wrap IntKind.i64 (x0 - (1 : Int))) (List.length x8)) (
      Option.bind (x8[Int.toNat (IntKind.wrap IntKind.i64 (x0 - (1 : Int)))]?) fun y0 =>
      iteP (within y0 (List.length x5)) (
        Option.bind (x5[Int.toNat y0]?) fun y1 =>
        iteP (y1 == (0 : Int)) (
          Option.bind (f (IntKind.wrap IntKind.i64 (x0 - (1 : Int)), x1, x2, x3, x4, x5, x6, x7, x8, x9)) fun r => some r) (
          some ((x2, x1, x0, x3, x4, x8, x7, x6, x5, x9)))) (
        none)) (
      none)) (
    some ((x2, x1, x0, x3, x4, x8, x7, x6, x5, x9)))

noncomputable def F21_8188 (N : Nat) : Nat → (Int × (List Int) × (List Int) × Int × Int × (List Int) × (List (Int × (Int × (Int × Unit)))) × (List (Int × (Int × Unit))) × (List Int) × (List Int)) → Option ((List Int) × (List Int) × Int × Int × Int × (List Int) × (List (Int × (Int × Unit))) × (List (Int × (Int × (Int × Unit)))) × (List Int) × (List Int))
  | 0, _ => none
  | k + 1, x => B21_8188 N (F21_8188 N k) x

noncomputable def C21_8188 (N : Nat) (k : Nat) : Cut := ⟨[17, 12, 0, 8, 14, 16, 2, 1], X21_8188, tellX I21_8188 (F21_8188 N k) O21_8188⟩

theorem B21_8188_eq (N : Nat) (f : (Int × (List Int) × (List Int) × Int × Int × (List Int) × (List (Int × (Int × (Int × Unit)))) × (List (Int × (Int × Unit))) × (List Int) × (List Int)) → Option ((List Int) × (List Int) × Int × Int × Int × (List Int) × (List (Int × (Int × Unit))) × (List (Int × (Int × (Int × Unit)))) × (List Int) × (List Int))) (x0 : Int) (x1 : (List Int)) (x2 : (List Int)) (x3 : Int) (x4 : Int) (x5 : (List Int)) (x6 : (List (Int × (Int × (Int × Unit))))) (x7 : (List (Int × (Int × Unit)))) (x8 : (List Int)) (x9 : (List Int)) : (roundEv (mkE Tryz.prog ownT (tab21 N) [(506, (C21_506 N N))]) Tryz.f21.ntmps A21 (loopAt (bod Tryz.f21) 8188) 8188 ⟨[17, 12, 0, 8, 14, 16, 2, 1], X21_8188, tellX I21_8188 f O21_8188⟩ (J21_8188 (x0, x1, x2, x3, x4, x5, x6, x7, x8, x9))).run D21_8188 = B21_8188 N f (x0, x1, x2, x3, x4, x5, x6, x7, x8, x9) := by kernel_rfl

theorem C21_8188_ok (N : Nat) (k : Nat) : ∀ c', At (bod Tryz.f21) 8188 c' → CutOK Tryz.prog Tryz.f21.ntmps (idsL A21) c' (C21_8188 N k) :=
  loop_ok (E := (mkE Tryz.prog ownT (tab21 N) [(506, (C21_506 N N))])) (mkE_ok mix (tab21_ok N)) (cutsIn_ok ⟨fun c' h => (C21_506_ok N N c' h), trivial⟩) (fuel := 200) (by decide +kernel) (by kernel_rfl) I21_8188_ok D21_8188_ok (B21_8188 N) (F21_8188 N) (fun _ => rfl) (fun _ _ => rfl) (fun f x => match x with | (x0, x1, x2, x3, x4, x5, x6, x7, x8, x9) => B21_8188_eq N f x0 x1 x2 x3 x4 x5 x6 x7 x8 x9) k

noncomputable def I21_262138 : Pk → Option (Int × Int × Nat × Int × Int × (List (Int × (Int × Unit))) × (List (Int × (Int × (Int × Unit)))) × (List Int) × (List Int) × (List Int))
  | ⟨[.v (.int .i64 x0), .v (.int .i64 x1), .sl 1 (none), .sl 2 (none), .sl 3 (some ((0, x2))), .adr 0 [], .sl 4 (none)], [some (.var (.agg [.sl 5 (none), .v (.int .i64 x3), .v (.int .i64 x4)])), some (.row (Ty.cons (Ty.int IntKind.i64) (Ty.cons (Ty.int IntKind.i64) Ty.unit)) 105 x5), some (.row (Ty.cons (Ty.int IntKind.i64) (Ty.cons (Ty.int IntKind.i64) (Ty.cons (Ty.int IntKind.i64) Ty.unit))) 96 x6), some (.row (Ty.int IntKind.i64) 3 x7), some (.row (Ty.int IntKind.i64) 3 x8), some (.row (Ty.int IntKind.u8) 5 x9)]⟩ => some (x0, x1, x2, x3, x4, x5, x6, x7, x8, x9)
  | _ => none

noncomputable def J21_262138 (x : Int × Int × Nat × Int × Int × (List (Int × (Int × Unit))) × (List (Int × (Int × (Int × Unit)))) × (List Int) × (List Int) × (List Int)) : Pk := ⟨[.v (.int .i64 (x.1)), .v (.int .i64 (x.2.1)), .sl 1 (none), .sl 2 (none), .sl 3 (some ((0, (x.2.2.1)))), .adr 0 [], .sl 4 (none)], [some (.var (.agg [.sl 5 (none), .v (.int .i64 (x.2.2.2.1)), .v (.int .i64 (x.2.2.2.2.1))])), some (.row (Ty.cons (Ty.int IntKind.i64) (Ty.cons (Ty.int IntKind.i64) Ty.unit)) 105 (x.2.2.2.2.2.1)), some (.row (Ty.cons (Ty.int IntKind.i64) (Ty.cons (Ty.int IntKind.i64) (Ty.cons (Ty.int IntKind.i64) Ty.unit))) 96 (x.2.2.2.2.2.2.1)), some (.row (Ty.int IntKind.i64) 3 (x.2.2.2.2.2.2.2.1)), some (.row (Ty.int IntKind.i64) 3 (x.2.2.2.2.2.2.2.2.1)), some (.row (Ty.int IntKind.u8) 5 (x.2.2.2.2.2.2.2.2.2))]⟩

theorem I21_262138_ok : ∀ pk x, I21_262138 pk = some x → pk = J21_262138 x := by
  intro pk x h
  unfold I21_262138 at h
  split at h <;> first | (cases h; rfl) | cases h

noncomputable def O21_262138 (r : Int × Int × (List (Int × (Int × (Int × Unit)))) × (List (Int × (Int × Unit))) × (List Int)) : Tr (Ex × Pk) := .ret (.exit 4, ⟨[.sl 1 (none), .sl 2 (none), .adr 0 []], [some (.var (.agg [.sl 3 (none), .v (.int .i64 (r.1)), .v (.int .i64 (r.2.1))])), some (.row (Ty.cons (Ty.int IntKind.i64) (Ty.cons (Ty.int IntKind.i64) (Ty.cons (Ty.int IntKind.i64) Ty.unit))) 96 (r.2.2.1)), some (.row (Ty.cons (Ty.int IntKind.i64) (Ty.cons (Ty.int IntKind.i64) Ty.unit)) 105 (r.2.2.2.1)), some (.row (Ty.int IntKind.u8) 5 (r.2.2.2.2))]⟩)

noncomputable def D21_262138 : Ex × Pk → Option (Int × Int × (List (Int × (Int × (Int × Unit)))) × (List (Int × (Int × Unit))) × (List Int))
  | (.exit 4, ⟨[.sl 1 (none), .sl 2 (none), .adr 0 []], [some (.var (.agg [.sl 3 (none), .v (.int .i64 x0), .v (.int .i64 x1)])), some (.row (Ty.cons (Ty.int IntKind.i64) (Ty.cons (Ty.int IntKind.i64) (Ty.cons (Ty.int IntKind.i64) Ty.unit))) 96 x2), some (.row (Ty.cons (Ty.int IntKind.i64) (Ty.cons (Ty.int IntKind.i64) Ty.unit)) 105 x3), some (.row (Ty.int IntKind.u8) 5 x4)]⟩) => some ((x0, x1, x2, x3, x4))
  | _ => none

theorem D21_262138_ok : ∀ y r, D21_262138 y = some r → ∀ z, (O21_262138 r).to z → y = z := by
  intro y r h
  unfold D21_262138 at h
  split at h <;> first | (cases h; intro z hz; exact Option.some.inj hz) | cases h

noncomputable def B21_262138 (N : Nat) (f : (Int × Int × Nat × Int × Int × (List (Int × (Int × Unit))) × (List (Int × (Int × (Int × Unit)))) × (List Int) × (List Int) × (List Int)) → Option (Int × Int × (List (Int × (Int × (Int × Unit)))) × (List (Int × (Int × Unit))) × (List Int))) : (Int × Int × Nat × Int × Int × (List (Int × (Int × Unit))) × (List (Int × (Int × (Int × Unit)))) × (List Int) × (List Int) × (List Int)) → Option (Int × Int × (List (Int × (Int × (Int × Unit)))) × (List (Int × (Int × Unit))) × (List Int))
  | (x0, x1, x2, x3, x4, x5, x6, x7, x8, x9) =>
  iteP (decide (x0 < x1)) (
    iteP (within x0 x2) (
      Option.bind (x7[(0 : Nat) + Int.toNat x0]?) fun y0 =>
      iteP (within y0 (List.length x8)) (
        Option.bind (x8[Int.toNat y0]?) fun y1 =>
        Option.bind (F14 N ((3 : Int), y1, x3, x4, x9)) fun y2 =>
        Option.bind (f (IntKind.wrap IntKind.i64 (x0 + (1 : Int)), x1, x2, Prod.fst y2, Prod.fst (Prod.snd y2), x5, x6, x7, x8, Prod.snd (Prod.snd y2))) fun r => some r) (
        none)) (
      none)) (
    some ((x3, x4, x6, x5, x9)))

noncomputable def F21_262138 (N : Nat) : Nat → (Int × Int × Nat × Int × Int × (List (Int × (Int × Unit))) × (List (Int × (Int × (Int × Unit)))) × (List Int) × (List Int) × (List Int)) → Option (Int × Int × (List (Int × (Int × (Int × Unit)))) × (List (Int × (Int × Unit))) × (List Int))
  | 0, _ => none
  | k + 1, x => B21_262138 N (F21_262138 N k) x

noncomputable def C21_262138 (N : Nat) (k : Nat) : Cut := ⟨[116, 115, 14, 8, 114, 0, 12], X21_262138, tellX I21_262138 (F21_262138 N k) O21_262138⟩

theorem B21_262138_eq (N : Nat) (f : (Int × Int × Nat × Int × Int × (List (Int × (Int × Unit))) × (List (Int × (Int × (Int × Unit)))) × (List Int) × (List Int) × (List Int)) → Option (Int × Int × (List (Int × (Int × (Int × Unit)))) × (List (Int × (Int × Unit))) × (List Int))) (x0 : Int) (x1 : Int) (x2 : Nat) (x3 : Int) (x4 : Int) (x5 : (List (Int × (Int × Unit)))) (x6 : (List (Int × (Int × (Int × Unit))))) (x7 : (List Int)) (x8 : (List Int)) (x9 : (List Int)) : (roundEv (mkE Tryz.prog ownT (tab21 N) [(506, (C21_506 N N)), (8188, (C21_8188 N N))]) Tryz.f21.ntmps A21 (loopAt (bod Tryz.f21) 262138) 262138 ⟨[116, 115, 14, 8, 114, 0, 12], X21_262138, tellX I21_262138 f O21_262138⟩ (J21_262138 (x0, x1, x2, x3, x4, x5, x6, x7, x8, x9))).run D21_262138 = B21_262138 N f (x0, x1, x2, x3, x4, x5, x6, x7, x8, x9) := by kernel_rfl

theorem C21_262138_ok (N : Nat) (k : Nat) : ∀ c', At (bod Tryz.f21) 262138 c' → CutOK Tryz.prog Tryz.f21.ntmps (idsL A21) c' (C21_262138 N k) :=
  loop_ok (E := (mkE Tryz.prog ownT (tab21 N) [(506, (C21_506 N N)), (8188, (C21_8188 N N))])) (mkE_ok mix (tab21_ok N)) (cutsIn_ok ⟨fun c' h => (C21_506_ok N N c' h), ⟨fun c' h => (C21_8188_ok N N c' h), trivial⟩⟩) (fuel := 200) (by decide +kernel) (by kernel_rfl) I21_262138_ok D21_262138_ok (B21_262138 N) (F21_262138 N) (fun _ => rfl) (fun _ _ => rfl) (fun f x => match x with | (x0, x1, x2, x3, x4, x5, x6, x7, x8, x9) => B21_262138_eq N f x0 x1 x2 x3 x4 x5 x6 x7 x8 x9) k

noncomputable def I21_524282 : Pk → Option (Int × Int × Int × Int × (List (Int × (Int × (Int × Unit)))) × (List (Int × (Int × Unit))) × (List Int))
  | ⟨[.v (.int .i64 x0), .v (.int .i64 x1), .sl 1 (none), .sl 2 (none), .adr 0 []], [some (.var (.agg [.sl 3 (none), .v (.int .i64 x2), .v (.int .i64 x3)])), some (.row (Ty.cons (Ty.int IntKind.i64) (Ty.cons (Ty.int IntKind.i64) (Ty.cons (Ty.int IntKind.i64) Ty.unit))) 96 x4), some (.row (Ty.cons (Ty.int IntKind.i64) (Ty.cons (Ty.int IntKind.i64) Ty.unit)) 105 x5), some (.row (Ty.int IntKind.u8) 5 x6)]⟩ => some (x0, x1, x2, x3, x4, x5, x6)
  | _ => none

noncomputable def J21_524282 (x : Int × Int × Int × Int × (List (Int × (Int × (Int × Unit)))) × (List (Int × (Int × Unit))) × (List Int)) : Pk := ⟨[.v (.int .i64 (x.1)), .v (.int .i64 (x.2.1)), .sl 1 (none), .sl 2 (none), .adr 0 []], [some (.var (.agg [.sl 3 (none), .v (.int .i64 (x.2.2.1)), .v (.int .i64 (x.2.2.2.1))])), some (.row (Ty.cons (Ty.int IntKind.i64) (Ty.cons (Ty.int IntKind.i64) (Ty.cons (Ty.int IntKind.i64) Ty.unit))) 96 (x.2.2.2.2.1)), some (.row (Ty.cons (Ty.int IntKind.i64) (Ty.cons (Ty.int IntKind.i64) Ty.unit)) 105 (x.2.2.2.2.2.1)), some (.row (Ty.int IntKind.u8) 5 (x.2.2.2.2.2.2))]⟩

theorem I21_524282_ok : ∀ pk x, I21_524282 pk = some x → pk = J21_524282 x := by
  intro pk x h
  unfold I21_524282 at h
  split at h <;> first | (cases h; rfl) | cases h

noncomputable def O21_524282 (r : Int × Int × (List Int)) : Tr (Ex × Pk) := .ret (.exit 6, ⟨[], [some (.var (.agg [.sl 1 (none), .v (.int .i64 (r.1)), .v (.int .i64 (r.2.1))])), some (.row (Ty.int IntKind.u8) 5 (r.2.2))]⟩)

noncomputable def D21_524282 : Ex × Pk → Option (Int × Int × (List Int))
  | (.exit 6, ⟨[], [some (.var (.agg [.sl 1 (none), .v (.int .i64 x0), .v (.int .i64 x1)])), some (.row (Ty.int IntKind.u8) 5 x2)]⟩) => some ((x0, x1, x2))
  | _ => none

theorem D21_524282_ok : ∀ y r, D21_524282 y = some r → ∀ z, (O21_524282 r).to z → y = z := by
  intro y r h
  unfold D21_524282 at h
  split at h <;> first | (cases h; intro z hz; exact Option.some.inj hz) | cases h

noncomputable def B21_524282 (N : Nat) (f : (Int × Int × Int × Int × (List (Int × (Int × (Int × Unit)))) × (List (Int × (Int × Unit))) × (List Int)) → Option (Int × Int × (List Int))) : (Int × Int × Int × Int × (List (Int × (Int × (Int × Unit)))) × (List (Int × (Int × Unit))) × (List Int)) → Option (Int × Int × (List Int))
  | (x0, x1, x2, x3, x4, x5, x6) =>
  iteP (decide (x0 < x1)) (
    iteP (within x0 (List.length x4)) (
      Option.bind (x4[Int.toNat x0]?) fun y0 =>
      iteP (within (Prod.fst y0) (List.length x5)) (
        Option.bind (x5[Int.toNat (Prod.fst y0)]?) fun y1 =>
        Option.bind (F59 N (Prod.fst y1, Prod.fst (Prod.snd y1), x2, x3, x6)) fun y2 =>
        Option.bind (F14 N (Prod.fst (Prod.snd y0), Prod.fst (Prod.snd (Prod.snd y0)), Prod.fst y2, Prod.fst (Prod.snd y2), Prod.snd (Prod.snd y2))) fun y3 =>
        Option.bind (f (IntKind.wrap IntKind.i64 (x0 + (1 : Int)), x1, Prod.fst y3, Prod.fst (Prod.snd y3), x4, x5, Prod.snd (Prod.snd y3))) fun r => some r) (
        none)) (
      none)) (
    some ((x2, x3, x6)))

noncomputable def F21_524282 (N : Nat) : Nat → (Int × Int × Int × Int × (List (Int × (Int × (Int × Unit)))) × (List (Int × (Int × Unit))) × (List Int)) → Option (Int × Int × (List Int))
  | 0, _ => none
  | k + 1, x => B21_524282 N (F21_524282 N k) x

noncomputable def C21_524282 (N : Nat) (k : Nat) : Cut := ⟨[129, 128, 127, 14, 0], X21_524282, tellX I21_524282 (F21_524282 N k) O21_524282⟩

theorem B21_524282_eq (N : Nat) (f : (Int × Int × Int × Int × (List (Int × (Int × (Int × Unit)))) × (List (Int × (Int × Unit))) × (List Int)) → Option (Int × Int × (List Int))) (x0 : Int) (x1 : Int) (x2 : Int) (x3 : Int) (x4 : (List (Int × (Int × (Int × Unit))))) (x5 : (List (Int × (Int × Unit)))) (x6 : (List Int)) : (roundEv (mkE Tryz.prog ownT (tab21 N) [(506, (C21_506 N N)), (8188, (C21_8188 N N)), (262138, (C21_262138 N N))]) Tryz.f21.ntmps A21 (loopAt (bod Tryz.f21) 524282) 524282 ⟨[129, 128, 127, 14, 0], X21_524282, tellX I21_524282 f O21_524282⟩ (J21_524282 (x0, x1, x2, x3, x4, x5, x6))).run D21_524282 = B21_524282 N f (x0, x1, x2, x3, x4, x5, x6) := by kernel_rfl

theorem C21_524282_ok (N : Nat) (k : Nat) : ∀ c', At (bod Tryz.f21) 524282 c' → CutOK Tryz.prog Tryz.f21.ntmps (idsL A21) c' (C21_524282 N k) :=
  loop_ok (E := (mkE Tryz.prog ownT (tab21 N) [(506, (C21_506 N N)), (8188, (C21_8188 N N)), (262138, (C21_262138 N N))])) (mkE_ok mix (tab21_ok N)) (cutsIn_ok ⟨fun c' h => (C21_506_ok N N c' h), ⟨fun c' h => (C21_8188_ok N N c' h), ⟨fun c' h => (C21_262138_ok N N c' h), trivial⟩⟩⟩) (fuel := 200) (by decide +kernel) (by kernel_rfl) I21_524282_ok D21_524282_ok (B21_524282 N) (F21_524282 N) (fun _ => rfl) (fun _ _ => rfl) (fun f x => match x with | (x0, x1, x2, x3, x4, x5, x6) => B21_524282_eq N f x0 x1 x2 x3 x4 x5 x6) k

noncomputable def O21 (r : Int × Int × Int × (List Int)) : Tr (Pk) := .ret ⟨[.v (.int .i64 (r.1))], [some (.var (.agg [.sl 1 (none), .v (.int .i64 (r.2.1)), .v (.int .i64 (r.2.2.1))])), some (.row (Ty.int IntKind.u8) 5 (r.2.2.2))]⟩

noncomputable def D21 : Pk → Option (Int × Int × Int × (List Int))
  | ⟨[.v (.int .i64 x0)], [some (.var (.agg [.sl 1 (none), .v (.int .i64 x1), .v (.int .i64 x2)])), some (.row (Ty.int IntKind.u8) 5 x3)]⟩ => some ((x0, x1, x2, x3))
  | _ => none

theorem D21_ok : ∀ y r, D21 y = some r → ∀ z, (O21 r).to z → y = z := by
  intro y r h
  unfold D21 at h
  split at h <;> first | (cases h; intro z hz; exact Option.some.inj hz) | cases h

noncomputable def F21 (N : Nat) : ((List Int) × (List Int) × Int × Int × (List Int)) → Option (Int × Int × Int × (List Int))
  | (x0, x1, x2, x3, x4) =>
  iteP (decide ((↑(List.length x0) : Int) < (257 : Int))) (
    some (((1 : Int), x2, x3, x4))) (
    iteP (decide ((↑(List.length x0) : Int) > (286 : Int))) (
      some (((1 : Int), x2, x3, x4))) (
      iteP (decide ((↑(List.length x1) : Int) < (1 : Int))) (
        some (((1 : Int), x2, x3, x4))) (
        iteP (decide ((↑(List.length x1) : Int) > (30 : Int))) (
          some (((1 : Int), x2, x3, x4))) (
          Option.bind (F53a N x0) fun y0 =>
          iteP (y0) (
            some (((1 : Int), x2, x3, x4))) (
            Option.bind (F53a N x1) fun y1 =>
            iteP (y1) (
              some (((1 : Int), x2, x3, x4))) (
              Option.bind (F55 N [x0, x1]) fun y2 =>
              Option.bind (F54 N y2) fun y3 =>
              Option.bind (F21_506 N N ((0 : Int), (↑(List.length y3) : Int), x0, x1, x2, x3, y3, List.replicate (19 : Nat) (0 : Int), x4)) fun y4 =>
              Option.bind (F56 N (Prod.fst (Prod.snd (Prod.snd (Prod.snd (Prod.snd y4)))), (7 : Int))) fun y5 =>
              Option.bind (F57 N (Prod.snd y5)) fun y6 =>
              Option.bind (F58 N ()) fun y7 =>
              Option.bind (F21_8188 N N ((↑(List.length y7) : Int), Prod.fst y4, Prod.fst (Prod.snd y4), Prod.fst (Prod.snd (Prod.snd y4)), Prod.fst (Prod.snd (Prod.snd (Prod.snd y4))), Prod.snd y5, Prod.fst (Prod.snd (Prod.snd (Prod.snd (Prod.snd (Prod.snd y4))))), Prod.snd y6, y7, Prod.snd (Prod.snd (Prod.snd (Prod.snd (Prod.snd (Prod.snd y4))))))) fun y8 =>
              Option.bind (F14 N ((5 : Int), IntKind.wrap IntKind.i64 ((↑(List.length (Prod.fst y8)) : Int) - (257 : Int)), Prod.fst (Prod.snd (Prod.snd (Prod.snd y8))), Prod.fst (Prod.snd (Prod.snd (Prod.snd (Prod.snd y8)))), Prod.snd (Prod.snd (Prod.snd (Prod.snd (Prod.snd (Prod.snd (Prod.snd (Prod.snd (Prod.snd y8)))))))))) fun y9 =>
              Option.bind (F14 N ((5 : Int), IntKind.wrap IntKind.i64 ((↑(List.length (Prod.fst (Prod.snd y8))) : Int) - (1 : Int)), Prod.fst y9, Prod.fst (Prod.snd y9), Prod.snd (Prod.snd y9))) fun y10 =>
              Option.bind (F14 N ((4 : Int), IntKind.wrap IntKind.i64 (Prod.fst (Prod.snd (Prod.snd y8)) - (4 : Int)), Prod.fst y10, Prod.fst (Prod.snd y10), Prod.snd (Prod.snd y10))) fun y11 =>
              iteP (decide ((0 : Int) ≤ Prod.fst (Prod.snd (Prod.snd y8)) ∧ Prod.fst (Prod.snd (Prod.snd y8)) ≤ (↑(List.length (Prod.fst (Prod.snd (Prod.snd (Prod.snd (Prod.snd (Prod.snd y8))))))) : Int))) (
                Option.bind (F21_262138 N N ((0 : Int), (↑(Int.toNat (Prod.fst (Prod.snd (Prod.snd y8))) - (0 : Nat)) : Int), Int.toNat (Prod.fst (Prod.snd (Prod.snd y8))) - (0 : Nat), Prod.fst y11, Prod.fst (Prod.snd y11), Prod.fst (Prod.snd (Prod.snd (Prod.snd (Prod.snd (Prod.snd (Prod.snd y8)))))), Prod.fst (Prod.snd (Prod.snd (Prod.snd (Prod.snd (Prod.snd (Prod.snd (Prod.snd y8))))))), Prod.fst (Prod.snd (Prod.snd (Prod.snd (Prod.snd (Prod.snd y8))))), Prod.fst (Prod.snd (Prod.snd (Prod.snd (Prod.snd (Prod.snd (Prod.snd (Prod.snd (Prod.snd y8)))))))), Prod.snd (Prod.snd y11))) fun y12 =>
                Option.bind (F21_524282 N N ((0 : Int), (↑(List.length (Prod.fst (Prod.snd (Prod.snd y12)))) : Int), Prod.fst y12, Prod.fst (Prod.snd y12), Prod.fst (Prod.snd (Prod.snd y12)), Prod.fst (Prod.snd (Prod.snd (Prod.snd y12))), Prod.snd (Prod.snd (Prod.snd (Prod.snd y12))))) fun y13 =>
                some (((0 : Int), Prod.fst y13, Prod.fst (Prod.snd y13), Prod.snd (Prod.snd y13)))) (
                none)))))))

theorem F21_eq (N : Nat) (x0 : (List Int)) (x1 : (List Int)) (x2 : Int) (x3 : Int) (x4 : (List Int)) : (fnEv (mkE Tryz.prog ownT (tab21 N) [(506, (C21_506 N N)), (8188, (C21_8188 N N)), (262138, (C21_262138 N N)), (524282, (C21_524282 N N))]) Tryz.f21 (J21 (x0, x1, x2, x3, x4))).run D21 = F21 N (x0, x1, x2, x3, x4) := by kernel_rfl

noncomputable def T21 (N : Nat) : Pk → Tr Pk := tell I21 (F21 N) O21

theorem T21_ok (N : Nat) : FOK Tryz.prog 21 (T21 N) :=
  (tell_ok (E := (mkE Tryz.prog ownT (tab21 N) [(506, (C21_506 N N)), (8188, (C21_8188 N N)), (262138, (C21_262138 N N)), (524282, (C21_524282 N N))])) (mkE_ok mix (tab21_ok N)) Tryz.func21 (show Tryz.f21.body = some (bod Tryz.f21) by kernel_rfl) (by decide +kernel) (F := F21 N) I21_ok D21_ok (args := A21) (fun _ => by kernel_rfl) (fun _ => by show 3 ≤ Tryz.f21.ntmps; exact of_decide_eq_true (by kernel_rfl)) (cutsIn_ok ⟨fun c' h => (C21_506_ok N N c' h), ⟨fun c' h => (C21_8188_ok N N c' h), ⟨fun c' h => (C21_262138_ok N N c' h), ⟨fun c' h => (C21_524282_ok N N c' h), trivial⟩⟩⟩⟩) (fun x => match x with | (x0, x1, x2, x3, x4) => F21_eq N x0 x1 x2 x3 x4))


end Go.Proofs.YteddgkplkjldcaaGreat.Am
