/- The seat's Go functions come to the Lean functions written here, wherever these give an answer (second part). -/
import Derived.Test.YtpjkklailofkjaaSA
set_option linter.unusedVariables false
set_option maxRecDepth 100000
namespace Go.Proofs.Ytpjkklailofkjaa.Am
open Go.Am

/-! ## f58: slices.Concat[[]int,int] -/

noncomputable def I58 : Pk → Option ((List (List Int)))
  | ⟨[.ro (.sl (.int .i64)) x0], []⟩ => some x0
  | _ => none

noncomputable def J58 (x : (List (List Int))) : Pk := ⟨[.ro (.sl (.int .i64)) (x)], []⟩

theorem I58_ok : ∀ pk x, I58 pk = some x → pk = J58 x := by
  intro pk x h
  unfold I58 at h
  split at h <;> first | (cases h; rfl) | cases h

noncomputable def A58 : List TV := []

noncomputable def tab58 (N : Nat) : List (Nat × (Pk → Tr Pk)) := [(72, T72 N)]

theorem tab58_ok (N : Nat) : TabOK Try.prog (tab58 N) := ⟨T72_ok N, trivial⟩

def X58_58 : Ex → List Nat
  | .ret => [2]
  | .exit 0 => [3, 0]
  | _ => []

def X58_250 : Ex → List Nat
  | .ret => [2]
  | .exit 2 => [6]
  | _ => []

noncomputable def I58_58 : Pk → Option (Int × Int × Int × (List (List Int)) × (List (List Int)))
  | ⟨[.v (.int .i64 x0), .v (.int .i64 x1), .v (.int .i64 x2), .ro (Ty.sl (Ty.int IntKind.i64)) x3, .ro (Ty.sl (Ty.int IntKind.i64)) x4], []⟩ => some (x0, x1, x2, x3, x4)
  | _ => none

noncomputable def J58_58 (x : Int × Int × Int × (List (List Int)) × (List (List Int))) : Pk := ⟨[.v (.int .i64 (x.1)), .v (.int .i64 (x.2.1)), .v (.int .i64 (x.2.2.1)), .ro (Ty.sl (Ty.int IntKind.i64)) (x.2.2.2.1), .ro (Ty.sl (Ty.int IntKind.i64)) (x.2.2.2.2)], []⟩

theorem I58_58_ok : ∀ pk x, I58_58 pk = some x → pk = J58_58 x := by
  intro pk x h
  unfold I58_58 at h
  split at h <;> first | (cases h; rfl) | cases h

noncomputable def O58_58 (r : Int × (List (List Int))) : Tr (Ex × Pk) := .ret (.exit 0, ⟨[.v (.int .i64 (r.1)), .ro (Ty.sl (Ty.int IntKind.i64)) (r.2)], []⟩)

noncomputable def D58_58 : Ex × Pk → Option (Int × (List (List Int)))
  | (.exit 0, ⟨[.v (.int .i64 x0), .ro (Ty.sl (Ty.int IntKind.i64)) x1], []⟩) => some ((x0, x1))
  | _ => none

theorem D58_58_ok : ∀ y r, D58_58 y = some r → ∀ z, (O58_58 r).to z → y = z := by
  intro y r h
  unfold D58_58 at h
  split at h <;> first | (cases h; intro z hz; exact Option.some.inj hz) | cases h

noncomputable def B58_58 (N : Nat) (f : (Int × Int × Int × (List (List Int)) × (List (List Int))) → Option (Int × (List (List Int)))) : (Int × Int × Int × (List (List Int)) × (List (List Int))) → Option (Int × (List (List Int)))
  | (x0, x1, x2, x3, x4) =>
  iteP (decide (x1 < x2)) (
    iteP (within x1 (List.length x4)) (
      Option.bind (x4[Int.toNat x1]?) fun y0 =>
      iteP (decide (IntKind.wrap IntKind.i64 (x0 + (↑(List.length y0) : Int)) < (0 : Int))) (
        none) (
        Option.bind (f (IntKind.wrap IntKind.i64 (x0 + (↑(List.length y0) : Int)), IntKind.wrap IntKind.i64 (x1 + (1 : Int)), x2, x3, x4)) fun r => some r)) (
      none)) (
    some ((x0, x3)))

noncomputable def F58_58 (N : Nat) : Nat → (Int × Int × Int × (List (List Int)) × (List (List Int))) → Option (Int × (List (List Int)))
  | 0, _ => none
  | k + 1, x => B58_58 N (F58_58 N k) x

noncomputable def C58_58 (N : Nat) (k : Nat) : Cut := ⟨[3, 11, 10, 0, 9], X58_58, tellX I58_58 (F58_58 N k) O58_58⟩

theorem B58_58_eq (N : Nat) (f : (Int × Int × Int × (List (List Int)) × (List (List Int))) → Option (Int × (List (List Int)))) (x0 : Int) (x1 : Int) (x2 : Int) (x3 : (List (List Int))) (x4 : (List (List Int))) : (roundEv (mkE Try.prog ownT (tab58 N) []) Try.f58.ntmps A58 (loopAt (bod Try.f58) 58) 58 ⟨[3, 11, 10, 0, 9], X58_58, tellX I58_58 f O58_58⟩ (J58_58 (x0, x1, x2, x3, x4))).run D58_58 = B58_58 N f (x0, x1, x2, x3, x4) := by kernel_rfl

theorem C58_58_ok (N : Nat) (k : Nat) : ∀ c', At (bod Try.f58) 58 c' → CutOK Try.prog Try.f58.ntmps (idsL A58) c' (C58_58 N k) :=
  loop_ok (E := (mkE Try.prog ownT (tab58 N) [])) (mkE_ok mix (tab58_ok N)) (cutsIn_ok trivial) (fuel := 200) (by decide +kernel) (by kernel_rfl) I58_58_ok D58_58_ok (B58_58 N) (F58_58 N) (fun _ => rfl) (fun _ _ => rfl) (fun f x => match x with | (x0, x1, x2, x3, x4) => B58_58_eq N f x0 x1 x2 x3 x4) k

noncomputable def I58_250 : Pk → Option (Int × Int × (List (List Int)) × (List Int))
  | ⟨[.sl 0 (none), .v (.int .i64 x0), .v (.int .i64 x1), .ro (Ty.sl (Ty.int IntKind.i64)) x2], [some (.row (Ty.int IntKind.i64) 3 x3)]⟩ => some (x0, x1, x2, x3)
  | _ => none

noncomputable def J58_250 (x : Int × Int × (List (List Int)) × (List Int)) : Pk := ⟨[.sl 0 (none), .v (.int .i64 (x.1)), .v (.int .i64 (x.2.1)), .ro (Ty.sl (Ty.int IntKind.i64)) (x.2.2.1)], [some (.row (Ty.int IntKind.i64) 3 (x.2.2.2))]⟩

theorem I58_250_ok : ∀ pk x, I58_250 pk = some x → pk = J58_250 x := by
  intro pk x h
  unfold I58_250 at h
  split at h <;> first | (cases h; rfl) | cases h

noncomputable def O58_250 (r : (List Int)) : Tr (Ex × Pk) := .ret (.exit 2, ⟨[.sl 0 (none)], [some (.row (Ty.int IntKind.i64) 3 (r))]⟩)

noncomputable def D58_250 : Ex × Pk → Option ((List Int))
  | (.exit 2, ⟨[.sl 0 (none)], [some (.row (Ty.int IntKind.i64) 3 x0)]⟩) => some (x0)
  | _ => none

theorem D58_250_ok : ∀ y r, D58_250 y = some r → ∀ z, (O58_250 r).to z → y = z := by
  intro y r h
  unfold D58_250 at h
  split at h <;> first | (cases h; intro z hz; exact Option.some.inj hz) | cases h

noncomputable def B58_250 (N : Nat) (f : (Int × Int × (List (List Int)) × (List Int)) → Option ((List Int))) : (Int × Int × (List (List Int)) × (List Int)) → Option ((List Int))
  | (x0, x1, x2, x3) =>
  iteP (decide (x0 < x1)) (
    iteP (within x0 (List.length x2)) (
      Option.bind (x2[Int.toNat x0]?) fun y0 =>
      iteP (decide ((List.length x3 + List.length y0) * (8 : Nat) ≤ (140737488355328 : Nat) ∧ List.length x3 + List.length y0 ≤ (140737488355328 : Nat))) (
        Option.bind (f (IntKind.wrap IntKind.i64 (x0 + (1 : Int)), x1, x2, x3 ++ y0)) fun r => some r) (
        none)) (
      none)) (
    some (x3))

noncomputable def F58_250 (N : Nat) : Nat → (Int × Int × (List (List Int)) × (List Int)) → Option ((List Int))
  | 0, _ => none
  | k + 1, x => B58_250 N (F58_250 N k) x

noncomputable def C58_250 (N : Nat) (k : Nat) : Cut := ⟨[6, 27, 26, 25], X58_250, tellX I58_250 (F58_250 N k) O58_250⟩

theorem B58_250_eq (N : Nat) (f : (Int × Int × (List (List Int)) × (List Int)) → Option ((List Int))) (x0 : Int) (x1 : Int) (x2 : (List (List Int))) (x3 : (List Int)) : (roundEv (mkE Try.prog ownT (tab58 N) [(58, (C58_58 N N))]) Try.f58.ntmps A58 (loopAt (bod Try.f58) 250) 250 ⟨[6, 27, 26, 25], X58_250, tellX I58_250 f O58_250⟩ (J58_250 (x0, x1, x2, x3))).run D58_250 = B58_250 N f (x0, x1, x2, x3) := by kernel_rfl

theorem C58_250_ok (N : Nat) (k : Nat) : ∀ c', At (bod Try.f58) 250 c' → CutOK Try.prog Try.f58.ntmps (idsL A58) c' (C58_250 N k) :=
  loop_ok (E := (mkE Try.prog ownT (tab58 N) [(58, (C58_58 N N))])) (mkE_ok mix (tab58_ok N)) (cutsIn_ok ⟨fun c' h => (C58_58_ok N N c' h), trivial⟩) (fuel := 200) (by decide +kernel) (by kernel_rfl) I58_250_ok D58_250_ok (B58_250 N) (F58_250 N) (fun _ => rfl) (fun _ _ => rfl) (fun f x => match x with | (x0, x1, x2, x3) => B58_250_eq N f x0 x1 x2 x3) k

noncomputable def O58 (r : (List Int)) : Tr (Pk) := .ret ⟨[.sl 0 (none)], [some (.row (Ty.int IntKind.i64) 3 (r))]⟩

noncomputable def D58 : Pk → Option ((List Int))
  | ⟨[.sl 0 (none)], [some (.row (Ty.int IntKind.i64) 3 x0)]⟩ => some (x0)
  | _ => none

theorem D58_ok : ∀ y r, D58 y = some r → ∀ z, (O58 r).to z → y = z := by
  intro y r h
  unfold D58 at h
  split at h <;> first | (cases h; intro z hz; exact Option.some.inj hz) | cases h

noncomputable def F58 (N : Nat) : ((List (List Int))) → Option ((List Int))
  | x0 =>
  Option.bind (F58_58 N N ((0 : Int), (0 : Int), (↑(List.length x0) : Int), x0, x0)) fun y0 =>
  Option.bind (F72 N (Prod.fst y0)) fun y1 =>
  match y1 with
  | .inl y2 =>
    Option.bind (F58_250 N N ((0 : Int), (↑(List.length (Prod.snd y0)) : Int), Prod.snd y0, [])) fun y3 =>
    some (y3)
  | .inr y2 =>
    Option.bind (F58_250 N N ((0 : Int), (↑(List.length (Prod.snd y0)) : Int), Prod.snd y0, y2)) fun y4 =>
    some (y4)

theorem F58_eq (N : Nat) (x0 : (List (List Int))) : (fnEv (mkE Try.prog ownT (tab58 N) [(58, (C58_58 N N)), (250, (C58_250 N N))]) Try.f58 (J58 x0)).run D58 = F58 N x0 := by kernel_rfl

noncomputable def T58 (N : Nat) : Pk → Tr Pk := tell I58 (F58 N) O58

theorem T58_ok (N : Nat) : FOK Try.prog 58 (T58 N) :=
  (tell_ok (E := (mkE Try.prog ownT (tab58 N) [(58, (C58_58 N N)), (250, (C58_250 N N))])) (mkE_ok mix (tab58_ok N)) Try.func58 (show Try.f58.body = some (bod Try.f58) by kernel_rfl) (by decide +kernel) (F := F58 N) I58_ok D58_ok (args := A58) (fun _ => by kernel_rfl) (fun _ => by show 1 ≤ Try.f58.ntmps; exact of_decide_eq_true (by kernel_rfl)) (cutsIn_ok ⟨fun c' h => (C58_58_ok N N c' h), ⟨fun c' h => (C58_250_ok N N c' h), trivial⟩⟩) (fun x => match x with | x0 => F58_eq N x0))

/-! ## f40: mirador/huffman.paired -/

noncomputable def I40 : Pk → Option ((List (Int × ((List Int) × Unit))))
  | ⟨[.ro (.cons (.int .i64) (.cons (.sl (.int .i64)) .unit)) x0], []⟩ => some x0
  | _ => none

noncomputable def J40 (x : (List (Int × ((List Int) × Unit)))) : Pk := ⟨[.ro (.cons (.int .i64) (.cons (.sl (.int .i64)) .unit)) (x)], []⟩

theorem I40_ok : ∀ pk x, I40 pk = some x → pk = J40 x := by
  intro pk x h
  unfold I40 at h
  split at h <;> first | (cases h; rfl) | cases h

noncomputable def A40 : List TV := []

noncomputable def tab40 (N : Nat) : List (Nat × (Pk → Tr Pk)) := [(58, T58 N)]

theorem tab40_ok (N : Nat) : TabOK Try.prog (tab40 N) := ⟨T58_ok N, trivial⟩

def X40_58 : Ex → List Nat
  | .ret => [2]
  | .exit 0 => [3]
  | _ => []

noncomputable def I40_58 : Pk → Option (Int × (List (Int × ((List Int) × Unit))) × (List (Int × ((List Int) × Unit))))
  | ⟨[.sl 0 (none), .v (.int .i64 x0), .ro (Ty.cons (Ty.int IntKind.i64) (Ty.cons (Ty.sl (Ty.int IntKind.i64)) Ty.unit)) x1], [some (.row (Ty.cons (Ty.int IntKind.i64) (Ty.cons (Ty.sl (Ty.int IntKind.i64)) Ty.unit)) 81 x2)]⟩ => some (x0, x1, x2)
  | _ => none

noncomputable def J40_58 (x : Int × (List (Int × ((List Int) × Unit))) × (List (Int × ((List Int) × Unit)))) : Pk := ⟨[.sl 0 (none), .v (.int .i64 (x.1)), .ro (Ty.cons (Ty.int IntKind.i64) (Ty.cons (Ty.sl (Ty.int IntKind.i64)) Ty.unit)) (x.2.1)], [some (.row (Ty.cons (Ty.int IntKind.i64) (Ty.cons (Ty.sl (Ty.int IntKind.i64)) Ty.unit)) 81 (x.2.2))]⟩

theorem I40_58_ok : ∀ pk x, I40_58 pk = some x → pk = J40_58 x := by
  intro pk x h
  unfold I40_58 at h
  split at h <;> first | (cases h; rfl) | cases h

noncomputable def O40_58 (r : (List (Int × ((List Int) × Unit)))) : Tr (Ex × Pk) := .ret (.exit 0, ⟨[.sl 0 (none)], [some (.row (Ty.cons (Ty.int IntKind.i64) (Ty.cons (Ty.sl (Ty.int IntKind.i64)) Ty.unit)) 81 (r))]⟩)

noncomputable def D40_58 : Ex × Pk → Option ((List (Int × ((List Int) × Unit))))
  | (.exit 0, ⟨[.sl 0 (none)], [some (.row (Ty.cons (Ty.int IntKind.i64) (Ty.cons (Ty.sl (Ty.int IntKind.i64)) Ty.unit)) 81 x0)]⟩) => some (x0)
  | _ => none

theorem D40_58_ok : ∀ y r, D40_58 y = some r → ∀ z, (O40_58 r).to z → y = z := by
  intro y r h
  unfold D40_58 at h
  split at h <;> first | (cases h; intro z hz; exact Option.some.inj hz) | cases h

noncomputable def B40_58 (N : Nat) (f : (Int × (List (Int × ((List Int) × Unit))) × (List (Int × ((List Int) × Unit)))) → Option ((List (Int × ((List Int) × Unit))))) : (Int × (List (Int × ((List Int) × Unit))) × (List (Int × ((List Int) × Unit)))) → Option ((List (Int × ((List Int) × Unit))))
  | (x0, x1, x2) =>
  iteP (decide (IntKind.wrap IntKind.i64 (x0 + (1 : Int)) < (↑(List.length x1) : Int))) (
    iteP (within x0 (List.length x1)) (
      Option.bind (x1[Int.toNat x0]?) fun y0 =>
      iteP (within (IntKind.wrap IntKind.i64 (x0 + (1 : Int))) (List.length x1)) (
        Option.bind (x1[Int.toNat (IntKind.wrap IntKind.i64 (x0 + (1 : Int)))]?) fun y1 =>
        iteP (within x0 (List.length x1)) (
          Option.bind (x1[Int.toNat x0]?) fun y2 =>
          iteP (within (IntKind.wrap IntKind.i64 (x0 + (1 : Int))) (List.length x1)) (
            Option.bind (x1[Int.toNat (IntKind.wrap IntKind.i64 (x0 + (1 : Int)))]?) fun y3 =>
            Option.bind (F58 N [Prod.fst (Prod.snd y2), Prod.fst (Prod.snd y3)]) fun y4 =>
            iteP (decide ((List.length x2 + List.length [(IntKind.wrap IntKind.i64 (Prod.fst y0 + Prod.fst y1), y4, ())]) * (32 : Nat) ≤ (140737488355328 : Nat) ∧ List.length x2 + List.length [(IntKind.wrap IntKind.i64 (Prod.fst y0 + Prod.fst y1), y4, ())] ≤ (140737488355328 : Nat))) (
              Option.bind (f (IntKind.wrap IntKind.i64 (x0 + (2 : Int)), x1, x2 ++ [(IntKind.wrap IntKind.i64 (Prod.fst y0 + Prod.fst y1), y4, ())])) fun r => some r) (
              none)) (
            none)) (
          none)) (
        none)) (
      none)) (
    some (x2))

noncomputable def F40_58 (N : Nat) : Nat → (Int × (List (Int × ((List Int) × Unit))) × (List (Int × ((List Int) × Unit)))) → Option ((List (Int × ((List Int) × Unit))))
  | 0, _ => none
  | k + 1, x => B40_58 N (F40_58 N k) x

noncomputable def C40_58 (N : Nat) (k : Nat) : Cut := ⟨[3, 4, 0], X40_58, tellX I40_58 (F40_58 N k) O40_58⟩

theorem B40_58_eq (N : Nat) (f : (Int × (List (Int × ((List Int) × Unit))) × (List (Int × ((List Int) × Unit)))) → Option ((List (Int × ((List Int) × Unit))))) (x0 : Int) (x1 : (List (Int × ((List Int) × Unit)))) (x2 : (List (Int × ((List Int) × Unit)))) : (roundEv (mkE Try.prog ownT (tab40 N) []) Try.f40.ntmps A40 (loopAt (bod Try.f40) 58) 58 ⟨[3, 4, 0], X40_58, tellX I40_58 f O40_58⟩ (J40_58 (x0, x1, x2))).run D40_58 = B40_58 N f (x0, x1, x2) := by kernel_rfl

theorem C40_58_ok (N : Nat) (k : Nat) : ∀ c', At (bod Try.f40) 58 c' → CutOK Try.prog Try.f40.ntmps (idsL A40) c' (C40_58 N k) :=
  loop_ok (E := (mkE Try.prog ownT (tab40 N) [])) (mkE_ok mix (tab40_ok N)) (cutsIn_ok trivial) (fuel := 200) (by decide +kernel) (by kernel_rfl) I40_58_ok D40_58_ok (B40_58 N) (F40_58 N) (fun _ => rfl) (fun _ _ => rfl) (fun f x => match x with | (x0, x1, x2) => B40_58_eq N f x0 x1 x2) k

noncomputable def O40 (r : (List (Int × ((List Int) × Unit)))) : Tr (Pk) := .ret ⟨[.sl 0 (none)], [some (.row (Ty.cons (Ty.int IntKind.i64) (Ty.cons (Ty.sl (Ty.int IntKind.i64)) Ty.unit)) 81 (r))]⟩

noncomputable def D40 : Pk → Option ((List (Int × ((List Int) × Unit))))
  | ⟨[.sl 0 (none)], [some (.row (Ty.cons (Ty.int IntKind.i64) (Ty.cons (Ty.sl (Ty.int IntKind.i64)) Ty.unit)) 81 x0)]⟩ => some (x0)
  | _ => none

theorem D40_ok : ∀ y r, D40 y = some r → ∀ z, (O40 r).to z → y = z := by
  intro y r h
  unfold D40 at h
  split at h <;> first | (cases h; intro z hz; exact Option.some.inj hz) | cases h

noncomputable def F40 (N : Nat) : ((List (Int × ((List Int) × Unit)))) → Option ((List (Int × ((List Int) × Unit))))
  | x0 =>
  Option.bind (F40_58 N N ((0 : Int), x0, [])) fun y0 =>
  some (y0)

theorem F40_eq (N : Nat) (x0 : (List (Int × ((List Int) × Unit)))) : (fnEv (mkE Try.prog ownT (tab40 N) [(58, (C40_58 N N))]) Try.f40 (J40 x0)).run D40 = F40 N x0 := by kernel_rfl

noncomputable def T40 (N : Nat) : Pk → Tr Pk := postT frzP (tell I40 (F40 N) O40)

theorem T40_ok (N : Nat) : FOK Try.prog 40 (T40 N) :=
  postT_ok frzP_ok (tell_ok (E := (mkE Try.prog ownT (tab40 N) [(58, (C40_58 N N))])) (mkE_ok mix (tab40_ok N)) Try.func40 (show Try.f40.body = some (bod Try.f40) by kernel_rfl) (by decide +kernel) (F := F40 N) I40_ok D40_ok (args := A40) (fun _ => by kernel_rfl) (fun _ => by show 1 ≤ Try.f40.ntmps; exact of_decide_eq_true (by kernel_rfl)) (cutsIn_ok ⟨fun c' h => (C40_58_ok N N c' h), trivial⟩) (fun x => match x with | x0 => F40_eq N x0))

/-! ## f17: mirador/huffman.Lengths -/

noncomputable def I17 : Pk → Option ((List Int) × Int)
  | ⟨[.ro (.int .i64) x0, .v (.int .i64 x1)], []⟩ => some (x0, x1)
  | _ => none

noncomputable def J17 (x : (List Int) × Int) : Pk := ⟨[.ro (.int .i64) (x.1), .v (.int .i64 (x.2))], []⟩

theorem I17_ok : ∀ pk x, I17 pk = some x → pk = J17 x := by
  intro pk x h
  unfold I17 at h
  split at h <;> first | (cases h; rfl) | cases h

noncomputable def A17 : List TV := []

noncomputable def tab17 (N : Nat) : List (Nat × (Pk → Tr Pk)) := [(38, T38 N), (40, T40 N), (39, T39 N)]

theorem tab17_ok (N : Nat) : TabOK Try.prog (tab17 N) := ⟨T38_ok N, ⟨T40_ok N, ⟨T39_ok N, trivial⟩⟩⟩

def X17_4090 : Ex → List Nat
  | .ret => [4, 5]
  | .exit 1 => [9, 6, 8]
  | _ => []

def X17_2095718 : Ex → List Nat
  | .ret => [4, 5]
  | .exit 5 => [75, 74, 73, 8]
  | .exit 4 => [75, 74, 73, 8]
  | .exit 3 => [8]
  | _ => []

def X17_8186 : Ex → List Nat
  | .ret => [4, 5]
  | .exit 3 => [8]
  | _ => []

noncomputable def I17_4090 : Pk → Option ((List (Int × ((List Int) × Unit))) × Int × Int × (List (Int × ((List Int) × Unit))) × (List Int))
  | ⟨[.ro (Ty.cons (Ty.int IntKind.i64) (Ty.cons (Ty.sl (Ty.int IntKind.i64)) Ty.unit)) x0, .v (.int .i64 x1), .v (.int .i64 x2), .sl 0 (none), .ro (Ty.cons (Ty.int IntKind.i64) (Ty.cons (Ty.sl (Ty.int IntKind.i64)) Ty.unit)) x3], [some (.row (Ty.int IntKind.i64) 3 x4)]⟩ => some (x0, x1, x2, x3, x4)
  | _ => none

noncomputable def J17_4090 (x : (List (Int × ((List Int) × Unit))) × Int × Int × (List (Int × ((List Int) × Unit))) × (List Int)) : Pk := ⟨[.ro (Ty.cons (Ty.int IntKind.i64) (Ty.cons (Ty.sl (Ty.int IntKind.i64)) Ty.unit)) (x.1), .v (.int .i64 (x.2.1)), .v (.int .i64 (x.2.2.1)), .sl 0 (none), .ro (Ty.cons (Ty.int IntKind.i64) (Ty.cons (Ty.sl (Ty.int IntKind.i64)) Ty.unit)) (x.2.2.2.1)], [some (.row (Ty.int IntKind.i64) 3 (x.2.2.2.2))]⟩

theorem I17_4090_ok : ∀ pk x, I17_4090 pk = some x → pk = J17_4090 x := by
  intro pk x h
  unfold I17_4090 at h
  split at h <;> first | (cases h; rfl) | cases h

noncomputable def O17_4090 (r : (List (Int × ((List Int) × Unit))) × (List (Int × ((List Int) × Unit))) × (List Int)) : Tr (Ex × Pk) := .ret (.exit 1, ⟨[.ro (Ty.cons (Ty.int IntKind.i64) (Ty.cons (Ty.sl (Ty.int IntKind.i64)) Ty.unit)) (r.1), .ro (Ty.cons (Ty.int IntKind.i64) (Ty.cons (Ty.sl (Ty.int IntKind.i64)) Ty.unit)) (r.2.1), .sl 0 (none)], [some (.row (Ty.int IntKind.i64) 3 (r.2.2))]⟩)

noncomputable def D17_4090 : Ex × Pk → Option ((List (Int × ((List Int) × Unit))) × (List (Int × ((List Int) × Unit))) × (List Int))
  | (.exit 1, ⟨[.ro (Ty.cons (Ty.int IntKind.i64) (Ty.cons (Ty.sl (Ty.int IntKind.i64)) Ty.unit)) x0, .ro (Ty.cons (Ty.int IntKind.i64) (Ty.cons (Ty.sl (Ty.int IntKind.i64)) Ty.unit)) x1, .sl 0 (none)], [some (.row (Ty.int IntKind.i64) 3 x2)]⟩) => some ((x0, x1, x2))
  | _ => none

theorem D17_4090_ok : ∀ y r, D17_4090 y = some r → ∀ z, (O17_4090 r).to z → y = z := by
  intro y r h
  unfold D17_4090 at h
  split at h <;> first | (cases h; intro z hz; exact Option.some.inj hz) | cases h

noncomputable def B17_4090 (N : Nat) (f : ((List (Int × ((List Int) × Unit))) × Int × Int × (List (Int × ((List Int) × Unit))) × (List Int)) → Option ((List (Int × ((List Int) × Unit))) × (List (Int × ((List Int) × Unit))) × (List Int))) : ((List (Int × ((List Int) × Unit))) × Int × Int × (List (Int × ((List Int) × Unit))) × (List Int)) → Option ((List (Int × ((List Int) × Unit))) × (List (Int × ((List Int) × Unit))) × (List Int))
  | (x0, x1, x2, x3, x4) =>
  iteP (decide (x1 < x2)) (
    Option.bind (F40 N x0) fun y0 =>
    Option.bind (F39 N (x3, y0)) fun y1 =>
    Option.bind (f (y1, IntKind.wrap IntKind.i64 (x1 + (1 : Int)), x2, x3, x4)) fun r => some r) (
    some ((x0, x3, x4)))

noncomputable def F17_4090 (N : Nat) : Nat → ((List (Int × ((List Int) × Unit))) × Int × Int × (List (Int × ((List Int) × Unit))) × (List Int)) → Option ((List (Int × ((List Int) × Unit))) × (List (Int × ((List Int) × Unit))) × (List Int))
  | 0, _ => none
  | k + 1, x => B17_4090 N (F17_4090 N k) x

noncomputable def C17_4090 (N : Nat) (k : Nat) : Cut := ⟨[9, 61, 60, 8, 6], X17_4090, tellX I17_4090 (F17_4090 N k) O17_4090⟩

theorem B17_4090_eq (N : Nat) (f : ((List (Int × ((List Int) × Unit))) × Int × Int × (List (Int × ((List Int) × Unit))) × (List Int)) → Option ((List (Int × ((List Int) × Unit))) × (List (Int × ((List Int) × Unit))) × (List Int))) (x0 : (List (Int × ((List Int) × Unit)))) (x1 : Int) (x2 : Int) (x3 : (List (Int × ((List Int) × Unit)))) (x4 : (List Int)) : (roundEv (mkE Try.prog ownT (tab17 N) []) Try.f17.ntmps A17 (loopAt (bod Try.f17) 4090) 4090 ⟨[9, 61, 60, 8, 6], X17_4090, tellX I17_4090 f O17_4090⟩ (J17_4090 (x0, x1, x2, x3, x4))).run D17_4090 = B17_4090 N f (x0, x1, x2, x3, x4) := by kernel_rfl

theorem C17_4090_ok (N : Nat) (k : Nat) : ∀ c', At (bod Try.f17) 4090 c' → CutOK Try.prog Try.f17.ntmps (idsL A17) c' (C17_4090 N k) :=
  loop_ok (E := (mkE Try.prog ownT (tab17 N) [])) (mkE_ok mix (tab17_ok N)) (cutsIn_ok trivial) (fuel := 200) (by decide +kernel) (by kernel_rfl) I17_4090_ok D17_4090_ok (B17_4090 N) (F17_4090 N) (fun _ => rfl) (fun _ _ => rfl) (fun f x => match x with | (x0, x1, x2, x3, x4) => B17_4090_eq N f x0 x1 x2 x3 x4) k

noncomputable def I17_8186 : Pk → Option (Int × (List (Int × ((List Int) × Unit))) × Int × (List Int))
  | ⟨[.v (.int .i64 x0), .ro (Ty.cons (Ty.int IntKind.i64) (Ty.cons (Ty.sl (Ty.int IntKind.i64)) Ty.unit)) x1, .v (.int .i64 x2), .sl 0 (none)], [some (.row (Ty.int IntKind.i64) 3 x3)]⟩ => some (x0, x1, x2, x3)
  | _ => none

noncomputable def J17_8186 (x : Int × (List (Int × ((List Int) × Unit))) × Int × (List Int)) : Pk := ⟨[.v (.int .i64 (x.1)), .ro (Ty.cons (Ty.int IntKind.i64) (Ty.cons (Ty.sl (Ty.int IntKind.i64)) Ty.unit)) (x.2.1), .v (.int .i64 (x.2.2.1)), .sl 0 (none)], [some (.row (Ty.int IntKind.i64) 3 (x.2.2.2))]⟩

theorem I17_8186_ok : ∀ pk x, I17_8186 pk = some x → pk = J17_8186 x := by
  intro pk x h
  unfold I17_8186 at h
  split at h <;> first | (cases h; rfl) | cases h

noncomputable def I17_2095718 : Pk → Option (Int × Int × (List (Int × ((List Int) × Unit))) × Int × Int × (List Int) × (List Int))
  | ⟨[.v (.int .i64 x0), .v (.int .i64 x1), .ro (Ty.cons (Ty.int IntKind.i64) (Ty.cons (Ty.sl (Ty.int IntKind.i64)) Ty.unit)) x2, .v (.int .i64 x3), .v (.int .i64 x4), .ro (Ty.int IntKind.i64) x5, .sl 0 (none)], [some (.row (Ty.int IntKind.i64) 3 x6)]⟩ => some (x0, x1, x2, x3, x4, x5, x6)
  | _ => none

noncomputable def J17_2095718 (x : Int × Int × (List (Int × ((List Int) × Unit))) × Int × Int × (List Int) × (List Int)) : Pk := ⟨[.v (.int .i64 (x.1)), .v (.int .i64 (x.2.1)), .ro (Ty.cons (Ty.int IntKind.i64) (Ty.cons (Ty.sl (Ty.int IntKind.i64)) Ty.unit)) (x.2.2.1), .v (.int .i64 (x.2.2.2.1)), .v (.int .i64 (x.2.2.2.2.1)), .ro (Ty.int IntKind.i64) (x.2.2.2.2.2.1), .sl 0 (none)], [some (.row (Ty.int IntKind.i64) 3 (x.2.2.2.2.2.2))]⟩

theorem I17_2095718_ok : ∀ pk x, I17_2095718 pk = some x → pk = J17_2095718 x := by
  intro pk x h
  unfold I17_2095718 at h
  split at h <;> first | (cases h; rfl) | cases h

noncomputable def O17_2095718 (r : Int × Int × (List (Int × ((List Int) × Unit))) × (List Int)) : Tr (Ex × Pk) := .ret (.exit 5, ⟨[.v (.int .i64 (r.1)), .v (.int .i64 (r.2.1)), .ro (Ty.cons (Ty.int IntKind.i64) (Ty.cons (Ty.sl (Ty.int IntKind.i64)) Ty.unit)) (r.2.2.1), .sl 0 (none)], [some (.row (Ty.int IntKind.i64) 3 (r.2.2.2))]⟩)

noncomputable def D17_2095718 : Ex × Pk → Option (Int × Int × (List (Int × ((List Int) × Unit))) × (List Int))
  | (.exit 5, ⟨[.v (.int .i64 x0), .v (.int .i64 x1), .ro (Ty.cons (Ty.int IntKind.i64) (Ty.cons (Ty.sl (Ty.int IntKind.i64)) Ty.unit)) x2, .sl 0 (none)], [some (.row (Ty.int IntKind.i64) 3 x3)]⟩) => some ((x0, x1, x2, x3))
  | _ => none

theorem D17_2095718_ok : ∀ y r, D17_2095718 y = some r → ∀ z, (O17_2095718 r).to z → y = z := by
  intro y r h
  unfold D17_2095718 at h
  split at h <;> first | (cases h; intro z hz; exact Option.some.inj hz) | cases h

noncomputable def B17_2095718 (N : Nat) (f : (Int × Int × (List (Int × ((List Int) × Unit))) × Int × Int × (List Int) × (List Int)) → Option (Int × Int × (List (Int × ((List Int) × Unit))) × (List Int))) : (Int × Int × (List (Int × ((List Int) × Unit))) × Int × Int × (List Int) × (List Int)) → Option (Int × Int × (List (Int × ((List Int) × Unit))) × (List Int))
  | (x0, x1, x2, x3, x4, x5, x6) =>
  iteP (decide (x0 < x1)) (
    iteP (within x0 (List.length x5)) (
      Option.bind (x5[Int.toNat x0]?) fun y0 =>
      iteP (within y0 (List.length x6)) (
        Option.bind (x6[Int.toNat y0]?) fun y1 =>
        iteP (within y0 (List.length x6)) (
          Option.bind (x6[Int.toNat y0]?) fun y2 =>
          Option.bind (f (IntKind.wrap IntKind.i64 (x0 + (1 : Int)), x1, x2, x3, x4, x5, List.set x6 (Int.toNat y0) (IntKind.wrap IntKind.i64 (y1 + (1 : Int))))) fun r => some r) (
          none)) (
        none)) (
      none)) (
    some ((x4, x3, x2, x6)))

noncomputable def F17_2095718 (N : Nat) : Nat → (Int × Int × (List (Int × ((List Int) × Unit))) × Int × Int × (List Int) × (List Int)) → Option (Int × Int × (List (Int × ((List Int) × Unit))) × (List Int))
  | 0, _ => none
  | k + 1, x => B17_2095718 N (F17_2095718 N k) x

noncomputable def C17_2095718 (N : Nat) (k : Nat) : Cut := ⟨[82, 81, 73, 74, 75, 80, 8], X17_2095718, tellX I17_2095718 (F17_2095718 N k) O17_2095718⟩

theorem B17_2095718_eq (N : Nat) (f : (Int × Int × (List (Int × ((List Int) × Unit))) × Int × Int × (List Int) × (List Int)) → Option (Int × Int × (List (Int × ((List Int) × Unit))) × (List Int))) (x0 : Int) (x1 : Int) (x2 : (List (Int × ((List Int) × Unit)))) (x3 : Int) (x4 : Int) (x5 : (List Int)) (x6 : (List Int)) : (roundEv (mkE Try.prog ownT (tab17 N) [(4090, (C17_4090 N N))]) Try.f17.ntmps A17 (loopAt (bod Try.f17) 2095718) 2095718 ⟨[82, 81, 73, 74, 75, 80, 8], X17_2095718, tellX I17_2095718 f O17_2095718⟩ (J17_2095718 (x0, x1, x2, x3, x4, x5, x6))).run D17_2095718 = B17_2095718 N f (x0, x1, x2, x3, x4, x5, x6) := by kernel_rfl

theorem C17_2095718_ok (N : Nat) (k : Nat) : ∀ c', At (bod Try.f17) 2095718 c' → CutOK Try.prog Try.f17.ntmps (idsL A17) c' (C17_2095718 N k) :=
  loop_ok (E := (mkE Try.prog ownT (tab17 N) [(4090, (C17_4090 N N))])) (mkE_ok mix (tab17_ok N)) (cutsIn_ok ⟨fun c' h => (C17_4090_ok N N c' h), trivial⟩) (fuel := 200) (by decide +kernel) (by kernel_rfl) I17_2095718_ok D17_2095718_ok (B17_2095718 N) (F17_2095718 N) (fun _ => rfl) (fun _ _ => rfl) (fun f x => match x with | (x0, x1, x2, x3, x4, x5, x6) => B17_2095718_eq N f x0 x1 x2 x3 x4 x5 x6) k

noncomputable def O17_8186 (r : (List Int)) : Tr (Ex × Pk) := .ret (.exit 3, ⟨[.sl 0 (none)], [some (.row (Ty.int IntKind.i64) 3 (r))]⟩)

noncomputable def D17_8186 : Ex × Pk → Option ((List Int))
  | (.exit 3, ⟨[.sl 0 (none)], [some (.row (Ty.int IntKind.i64) 3 x0)]⟩) => some (x0)
  | _ => none

theorem D17_8186_ok : ∀ y r, D17_8186 y = some r → ∀ z, (O17_8186 r).to z → y = z := by
  intro y r h
  unfold D17_8186 at h
  split at h <;> first | (cases h; intro z hz; exact Option.some.inj hz) | cases h

noncomputable def B17_8186 (N : Nat) (f : (Int × (List (Int × ((List Int) × Unit))) × Int × (List Int)) → Option ((List Int))) : (Int × (List (Int × ((List Int) × Unit))) × Int × (List Int)) → Option ((List Int))
  | (x0, x1, x2, x3) =>
  iteP (decide (x2 < x0)) (
    iteP (within x2 (List.length x1)) (
      Option.bind (x1[Int.toNat x2]?) fun y0 =>
      Option.bind (F17_2095718 N N ((0 : Int), (↑(List.length (Prod.fst (Prod.snd y0))) : Int), x1, x0, x2, Prod.fst (Prod.snd y0), x3)) fun y1 =>
      Option.bind (f (Prod.fst (Prod.snd y1), Prod.fst (Prod.snd (Prod.snd y1)), IntKind.wrap IntKind.i64 (Prod.fst y1 + (1 : Int)), Prod.snd (Prod.snd (Prod.snd y1)))) fun r => some r) (
      none)) (
    some (x3))

noncomputable def F17_8186 (N : Nat) : Nat → (Int × (List (Int × ((List Int) × Unit))) × Int × (List Int)) → Option ((List Int))
  | 0, _ => none
  | k + 1, x => B17_8186 N (F17_8186 N k) x

noncomputable def C17_8186 (N : Nat) (k : Nat) : Cut := ⟨[74, 73, 75, 8], X17_8186, tellX I17_8186 (F17_8186 N k) O17_8186⟩

theorem B17_8186_eq (N : Nat) (f : (Int × (List (Int × ((List Int) × Unit))) × Int × (List Int)) → Option ((List Int))) (x0 : Int) (x1 : (List (Int × ((List Int) × Unit)))) (x2 : Int) (x3 : (List Int)) : (roundEv (mkE Try.prog ownT (tab17 N) [(4090, (C17_4090 N N)), (2095718, (C17_2095718 N N))]) Try.f17.ntmps A17 (loopAt (bod Try.f17) 8186) 8186 ⟨[74, 73, 75, 8], X17_8186, tellX I17_8186 f O17_8186⟩ (J17_8186 (x0, x1, x2, x3))).run D17_8186 = B17_8186 N f (x0, x1, x2, x3) := by kernel_rfl

theorem C17_8186_ok (N : Nat) (k : Nat) : ∀ c', At (bod Try.f17) 8186 c' → CutOK Try.prog Try.f17.ntmps (idsL A17) c' (C17_8186 N k) :=
  loop_ok (E := (mkE Try.prog ownT (tab17 N) [(4090, (C17_4090 N N)), (2095718, (C17_2095718 N N))])) (mkE_ok mix (tab17_ok N)) (cutsIn_ok ⟨fun c' h => (C17_4090_ok N N c' h), ⟨fun c' h => (C17_2095718_ok N N c' h), trivial⟩⟩) (fuel := 200) (by decide +kernel) (by kernel_rfl) I17_8186_ok D17_8186_ok (B17_8186 N) (F17_8186 N) (fun _ => rfl) (fun _ _ => rfl) (fun f x => match x with | (x0, x1, x2, x3) => B17_8186_eq N f x0 x1 x2 x3) k

noncomputable def O17 (r : Int × (List Int)) : Tr (Pk) := .ret ⟨[.tup [.sl 0 (none), .v (.int .i64 (r.1))]], [some (.row (Ty.int IntKind.i64) 3 (r.2))]⟩

noncomputable def D17 : Pk → Option (Int × (List Int))
  | ⟨[.tup [.sl 0 (none), .v (.int .i64 x0)]], [some (.row (Ty.int IntKind.i64) 3 x1)]⟩ => some ((x0, x1))
  | _ => none

theorem D17_ok : ∀ y r, D17 y = some r → ∀ z, (O17 r).to z → y = z := by
  intro y r h
  unfold D17 at h
  split at h <;> first | (cases h; intro z hz; exact Option.some.inj hz) | cases h

noncomputable def F17 (N : Nat) : ((List Int) × Int) → Option (Int × (List Int))
  | (x0, x1) =>
  iteP (decide ((↑(List.length x0) : Int) > (320 : Int))) (
    some (((1 : Int), []))) (
    iteP (decide (x1 < (1 : Int))) (
      some (((1 : Int), []))) (
      iteP (decide (x1 > (15 : Int))) (
        some (((1 : Int), []))) (
        Option.bind (F38 N x0) fun y0 =>
        match y0 with
        | .inl y1 =>
          iteP (Prod.fst y1 != (0 : Int)) (
            some ((Prod.fst y1, []))) (
            iteP (decide (x1 < (0 : Int))) (
              none) (
              iteP (decide ((↑(List.length (Prod.snd y1)) : Int) > IntKind.wrap IntKind.i64 ((1 : Int) * (2 : Int) ^ min (Int.toNat x1) (64 : Nat)))) (
                some (((50 : Int), []))) (
                iteP (decide ((0 : Int) ≤ (↑(List.length x0) : Int) ∧ (↑(List.length x0) : Int) ≤ (↑(List.length x0) : Int) ∧ (↑(List.length x0) : Int) * (8 : Int) ≤ (140737488355328 : Int) ∧ (↑(List.length x0) : Int) ≤ (140737488355328 : Int))) (
                  iteP ((↑(List.length (Prod.snd y1)) : Int) == (1 : Int)) (
                    iteP (within (0 : Int) (List.length (Prod.snd y1))) (
                      Option.bind ((Prod.snd y1)[(0 : Nat)]?) fun y2 =>
                      iteP (within (0 : Int) (List.length (Prod.fst (Prod.snd y2)))) (
                        Option.bind ((Prod.fst (Prod.snd y2))[(0 : Nat)]?) fun y3 =>
                        iteP (within y3 (List.length (List.replicate (Int.toNat (↑(List.length x0) : Int)) (0 : Int)))) (
                          Option.bind ((List.replicate (Int.toNat (↑(List.length x0) : Int)) (0 : Int))[Int.toNat y3]?) fun y4 =>
                          iteP (decide ((↑(List.length (Prod.snd y1)) : Int) < (2 : Int))) (
                            some (((0 : Int), List.set (List.replicate (Int.toNat (↑(List.length x0) : Int)) (0 : Int)) (Int.toNat y3) (1 : Int)))) (
                            Option.bind (F17_4090 N N (Prod.snd y1, (0 : Int), IntKind.wrap IntKind.i64 (x1 - (1 : Int)), Prod.snd y1, List.set (List.replicate (Int.toNat (↑(List.length x0) : Int)) (0 : Int)) (Int.toNat y3) (1 : Int))) fun y5 =>
                            iteP (decide ((0 : Int) ≤ IntKind.wrap IntKind.i64 (IntKind.wrap IntKind.i64 ((2 : Int) * (↑(List.length (Prod.fst (Prod.snd y5))) : Int)) - (2 : Int)) ∧ IntKind.wrap IntKind.i64 (IntKind.wrap IntKind.i64 ((2 : Int) * (↑(List.length (Prod.fst (Prod.snd y5))) : Int)) - (2 : Int)) ≤ (↑(List.length (Prod.fst y5)) : Int))) (
                              Option.bind (F17_8186 N N ((↑(List.length (List.take (Int.toNat (IntKind.wrap IntKind.i64 (IntKind.wrap IntKind.i64 ((2 : Int) * (↑(List.length (Prod.fst (Prod.snd y5))) : Int)) - (2 : Int))) - (0 : Nat)) (List.drop (0 : Nat) (Prod.fst y5)))) : Int), List.take (Int.toNat (IntKind.wrap IntKind.i64 (IntKind.wrap IntKind.i64 ((2 : Int) * (↑(List.length (Prod.fst (Prod.snd y5))) : Int)) - (2 : Int))) - (0 : Nat)) (List.drop (0 : Nat) (Prod.fst y5)), (0 : Int), Prod.snd (Prod.snd y5))) fun y6 =>
                              some (((0 : Int), y6))) (
                              none))) (
                          none)) (
                        none)) (
                      none)) (
                    iteP (decide ((↑(List.length (Prod.snd y1)) : Int) < (2 : Int))) (
                      some (((0 : Int), List.replicate (Int.toNat (↑(List.length x0) : Int)) (0 : Int)))) (
                      Option.bind (F17_4090 N N (Prod.snd y1, (0 : Int), IntKind.wrap IntKind.i64 (x1 - (1 : Int)), Prod.snd y1, List.replicate (Int.toNat (↑(List.length x0) : Int)) (0 : Int))) fun y7 =>
                      iteP (decide ((0 : Int) ≤ IntKind.wrap IntKind.i64 (IntKind.wrap IntKind.i64 ((2 : Int) * (↑(List.length (Prod.fst (Prod.snd y7))) : Int)) - (2 : Int)) ∧ IntKind.wrap IntKind.i64 (IntKind.wrap IntKind.i64 ((2 : Int) * (↑(List.length (Prod.fst (Prod.snd y7))) : Int)) - (2 : Int)) ≤ (↑(List.length (Prod.fst y7)) : Int))) (
                        Option.bind (F17_8186 N N ((↑(List.length (List.take (Int.toNat (IntKind.wrap IntKind.i64 (IntKind.wrap IntKind.i64 ((2 : Int) * (↑(List.length (Prod.fst (Prod.snd y7))) : Int)) - (2 : Int))) - (0 : Nat)) (List.drop (0 : Nat) (Prod.fst y7)))) : Int), List.take (Int.toNat (IntKind.wrap IntKind.i64 (IntKind.wrap IntKind.i64 ((2 : Int) * (↑(List.length (Prod.fst (Prod.snd y7))) : Int)) - (2 : Int))) - (0 : Nat)) (List.drop (0 : Nat) (Prod.fst y7)), (0 : Int), Prod.snd (Prod.snd y7))) fun y8 =>
                        some (((0 : Int), y8))) (
                        none)))) (
                  none))))
        | .inr y1 =>
          iteP (Prod.snd y1 != (0 : Int)) (
            some ((Prod.snd y1, []))) (
            iteP (decide (x1 < (0 : Int))) (
              none) (
              iteP (decide ((↑(List.length (Prod.fst y1)) : Int) > IntKind.wrap IntKind.i64 ((1 : Int) * (2 : Int) ^ min (Int.toNat x1) (64 : Nat)))) (
                some (((50 : Int), []))) (
                iteP (decide ((0 : Int) ≤ (↑(List.length x0) : Int) ∧ (↑(List.length x0) : Int) ≤ (↑(List.length x0) : Int) ∧ (↑(List.length x0) : Int) * (8 : Int) ≤ (140737488355328 : Int) ∧ (↑(List.length x0) : Int) ≤ (140737488355328 : Int))) (
                  iteP ((↑(List.length (Prod.fst y1)) : Int) == (1 : Int)) (
                    iteP (within (0 : Int) (List.length (Prod.fst y1))) (
                      Option.bind ((Prod.fst y1)[(0 : Nat)]?) fun y9 =>
                      iteP (within (0 : Int) (List.length (Prod.fst (Prod.snd y9)))) (
                        Option.bind ((Prod.fst (Prod.snd y9))[(0 : Nat)]?) fun y10 =>
                        iteP (within y10 (List.length (List.replicate (Int.toNat (↑(List.length x0) : Int)) (0 : Int)))) (
                          Option.bind ((List.replicate (Int.toNat (↑(List.length x0) : Int)) (0 : Int))[Int.toNat y10]?) fun y11 =>
                          iteP (decide ((↑(List.length (Prod.fst y1)) : Int) < (2 : Int))) (
                            some (((0 : Int), List.set (List.replicate (Int.toNat (↑(List.length x0) : Int)) (0 : Int)) (Int.toNat y10) (1 : Int)))) (
                            Option.bind (F17_4090 N N (Prod.fst y1, (0 : Int), IntKind.wrap IntKind.i64 (x1 - (1 : Int)), Prod.fst y1, List.set (List.replicate (Int.toNat (↑(List.length x0) : Int)) (0 : Int)) (Int.toNat y10) (1 : Int))) fun y12 =>
                            iteP (decide ((0 : Int) ≤ IntKind.wrap IntKind.i64 (IntKind.wrap IntKind.i64 ((2 : Int) * (↑(List.length (Prod.fst (Prod.snd y12))) : Int)) - (2 : Int)) ∧ IntKind.wrap IntKind.i64 (IntKind.wrap IntKind.i64 ((2 : Int) * (↑(List.length (Prod.fst (Prod.snd y12))) : Int)) - (2 : Int)) ≤ (↑(List.length (Prod.fst y12)) : Int))) (
                              Option.bind (F17_8186 N N ((↑(List.length (List.take (Int.toNat (IntKind.wrap IntKind.i64 (IntKind.wrap IntKind.i64 ((2 : Int) * (↑(List.length (Prod.fst (Prod.snd y12))) : Int)) - (2 : Int))) - (0 : Nat)) (List.drop (0 : Nat) (Prod.fst y12)))) : Int), List.take (Int.toNat (IntKind.wrap IntKind.i64 (IntKind.wrap IntKind.i64 ((2 : Int) * (↑(List.length (Prod.fst (Prod.snd y12))) : Int)) - (2 : Int))) - (0 : Nat)) (List.drop (0 : Nat) (Prod.fst y12)), (0 : Int), Prod.snd (Prod.snd y12))) fun y13 =>
                              some (((0 : Int), y13))) (
                              none))) (
                          none)) (
                        none)) (
                      none)) (
                    iteP (decide ((↑(List.length (Prod.fst y1)) : Int) < (2 : Int))) (
                      some (((0 : Int), List.replicate (Int.toNat (↑(List.length x0) : Int)) (0 : Int)))) (
                      Option.bind (F17_4090 N N (Prod.fst y1, (0 : Int), IntKind.wrap IntKind.i64 (x1 - (1 : Int)), Prod.fst y1, List.replicate (Int.toNat (↑(List.length x0) : Int)) (0 : Int))) fun y14 =>
                      iteP (decide ((0 : Int) ≤ IntKind.wrap IntKind.i64 (IntKind.wrap IntKind.i64 ((2 : Int) * (↑(List.length (Prod.fst (Prod.snd y14))) : Int)) - (2 : Int)) ∧ IntKind.wrap IntKind.i64 (IntKind.wrap IntKind.i64 ((2 : Int) * (↑(List.length (Prod.fst (Prod.snd y14))) : Int)) - (2 : Int)) ≤ (↑(List.length (Prod.fst y14)) : Int))) (
                        Option.bind (F17_8186 N N ((↑(List.length (List.take (Int.toNat (IntKind.wrap IntKind.i64 (IntKind.wrap IntKind.i64 ((2 : Int) * (↑(List.length (Prod.fst (Prod.snd y14))) : Int)) - (2 : Int))) - (0 : Nat)) (List.drop (0 : Nat) (Prod.fst y14)))) : Int), List.take (Int.toNat (IntKind.wrap IntKind.i64 (IntKind.wrap IntKind.i64 ((2 : Int) * (↑(List.length (Prod.fst (Prod.snd y14))) : Int)) - (2 : Int))) - (0 : Nat)) (List.drop (0 : Nat) (Prod.fst y14)), (0 : Int), Prod.snd (Prod.snd y14))) fun y15 =>
                        some (((0 : Int), y15))) (
                        none)))) (
                  none)))))))

theorem F17_eq (N : Nat) (x0 : (List Int)) (x1 : Int) : (fnEv (mkE Try.prog ownT (tab17 N) [(4090, (C17_4090 N N)), (2095718, (C17_2095718 N N)), (8186, (C17_8186 N N))]) Try.f17 (J17 (x0, x1))).run D17 = F17 N (x0, x1) := by kernel_rfl

noncomputable def T17 (N : Nat) : Pk → Tr Pk := tell I17 (F17 N) O17

theorem T17_ok (N : Nat) : FOK Try.prog 17 (T17 N) :=
  (tell_ok (E := (mkE Try.prog ownT (tab17 N) [(4090, (C17_4090 N N)), (2095718, (C17_2095718 N N)), (8186, (C17_8186 N N))])) (mkE_ok mix (tab17_ok N)) Try.func17 (show Try.f17.body = some (bod Try.f17) by kernel_rfl) (by decide +kernel) (F := F17 N) I17_ok D17_ok (args := A17) (fun _ => by kernel_rfl) (fun _ => by show 2 ≤ Try.f17.ntmps; exact of_decide_eq_true (by kernel_rfl)) (cutsIn_ok ⟨fun c' h => (C17_4090_ok N N c' h), ⟨fun c' h => (C17_2095718_ok N N c' h), ⟨fun c' h => (C17_8186_ok N N c' h), trivial⟩⟩⟩) (fun x => match x with | (x0, x1) => F17_eq N x0 x1))


end Go.Proofs.Ytpjkklailofkjaa.Am

set_option linter.unusedVariables false
set_option maxRecDepth 100000
namespace Go.Proofs.Ytpjkklailofkjaa.Am
open Go.Am

/-! ## f20: mirador/huffman.New -/

noncomputable def I20 : Pk → Option ((List Int))
  | ⟨[.ro (.int .i64) x0], []⟩ => some x0
  | _ => none

noncomputable def J20 (x : (List Int)) : Pk := ⟨[.ro (.int .i64) (x)], []⟩

theorem I20_ok : ∀ pk x, I20 pk = some x → pk = J20 x := by
  intro pk x h
  unfold I20 at h
  split at h <;> first | (cases h; rfl) | cases h

noncomputable def A20 : List TV := []

noncomputable def tab20 (N : Nat) : List (Nat × (Pk → Tr Pk)) := [(12, T12 N), (36, T36 N)]

theorem tab20_ok (N : Nat) : TabOK Try.prog (tab20 N) := ⟨T12_ok N, ⟨T36_ok N, trivial⟩⟩

def X20_16018 : Ex → List Nat
  | .ret => [2, 3]
  | .exit 2 => [7, 0, 6]
  | .exit 1 => [7, 0, 6]
  | .exit 0 => [6]
  | _ => []

def X20_250 : Ex → List Nat
  | .ret => [2, 3]
  | .exit 0 => [6]
  | _ => []

noncomputable def I20_250 : Pk → Option ((List Int) × Int × (List Int) × Int × (List Int))
  | ⟨[.ro (Ty.int IntKind.i64) x0, .adr 0 [], .v (.int .i64 x1)], [some (.var (.agg [.arr (Ty.int IntKind.i64) 16 x2, .sl 1 (none), .v (.int .i64 x3)])), some (.row (Ty.int IntKind.i64) 3 x4)]⟩ => some (x0, x1, x2, x3, x4)
  | _ => none

noncomputable def J20_250 (x : (List Int) × Int × (List Int) × Int × (List Int)) : Pk := ⟨[.ro (Ty.int IntKind.i64) (x.1), .adr 0 [], .v (.int .i64 (x.2.1))], [some (.var (.agg [.arr (Ty.int IntKind.i64) 16 (x.2.2.1), .sl 1 (none), .v (.int .i64 (x.2.2.2.1))])), some (.row (Ty.int IntKind.i64) 3 (x.2.2.2.2))]⟩

theorem I20_250_ok : ∀ pk x, I20_250 pk = some x → pk = J20_250 x := by
  intro pk x h
  unfold I20_250 at h
  split at h <;> first | (cases h; rfl) | cases h

noncomputable def I20_16018 : Pk → Option (Int × Int × (List Int) × (List Int) × Int × (List Int) × Int × (List Int))
  | ⟨[.v (.int .i64 x0), .v (.int .i64 x1), .ro (Ty.int IntKind.i64) x2, .ro (Ty.int IntKind.i64) x3, .adr 0 [], .v (.int .i64 x4)], [some (.var (.agg [.arr (Ty.int IntKind.i64) 16 x5, .sl 1 (none), .v (.int .i64 x6)])), some (.row (Ty.int IntKind.i64) 3 x7)]⟩ => some (x0, x1, x2, x3, x4, x5, x6, x7)
  | _ => none

noncomputable def J20_16018 (x : Int × Int × (List Int) × (List Int) × Int × (List Int) × Int × (List Int)) : Pk := ⟨[.v (.int .i64 (x.1)), .v (.int .i64 (x.2.1)), .ro (Ty.int IntKind.i64) (x.2.2.1), .ro (Ty.int IntKind.i64) (x.2.2.2.1), .adr 0 [], .v (.int .i64 (x.2.2.2.2.1))], [some (.var (.agg [.arr (Ty.int IntKind.i64) 16 (x.2.2.2.2.2.1), .sl 1 (none), .v (.int .i64 (x.2.2.2.2.2.2.1))])), some (.row (Ty.int IntKind.i64) 3 (x.2.2.2.2.2.2.2))]⟩

theorem I20_16018_ok : ∀ pk x, I20_16018 pk = some x → pk = J20_16018 x := by
  intro pk x h
  unfold I20_16018 at h
  split at h <;> first | (cases h; rfl) | cases h

noncomputable def O20_16018 (r : Int × (List Int) × (List Int) × Int × (List Int)) : Tr (Ex × Pk) := .ret (.exit 2, ⟨[.v (.int .i64 (r.1)), .ro (Ty.int IntKind.i64) (r.2.1), .adr 0 []], [some (.var (.agg [.arr (Ty.int IntKind.i64) 16 (r.2.2.1), .sl 1 (none), .v (.int .i64 (r.2.2.2.1))])), some (.row (Ty.int IntKind.i64) 3 (r.2.2.2.2))]⟩)

noncomputable def D20_16018 : Ex × Pk → Option (Int × (List Int) × (List Int) × Int × (List Int))
  | (.exit 2, ⟨[.v (.int .i64 x0), .ro (Ty.int IntKind.i64) x1, .adr 0 []], [some (.var (.agg [.arr (Ty.int IntKind.i64) 16 x2, .sl 1 (none), .v (.int .i64 x3)])), some (.row (Ty.int IntKind.i64) 3 x4)]⟩) => some ((x0, x1, x2, x3, x4))
  | _ => none

theorem D20_16018_ok : ∀ y r, D20_16018 y = some r → ∀ z, (O20_16018 r).to z → y = z := by
  intro y r h
  unfold D20_16018 at h
  split at h <;> first | (cases h; intro z hz; exact Option.some.inj hz) | cases h

noncomputable def B20_16018 (N : Nat) (f : (Int × Int × (List Int) × (List Int) × Int × (List Int) × Int × (List Int)) → Option (Int × (List Int) × (List Int) × Int × (List Int))) : (Int × Int × (List Int) × (List Int) × Int × (List Int) × Int × (List Int)) → Option (Int × (List Int) × (List Int) × Int × (List Int))
  | (x0, x1, x2, x3, x4, x5, x6, x7) =>
  iteP (decide (x0 < x1)) (
    iteP (within x0 (List.length x3)) (
      Option.bind (x3[Int.toNat x0]?) fun y0 =>
      iteP (y0 == x4) (
        iteP (decide ((List.length x7 + List.length [x0]) * (8 : Nat) ≤ (140737488355328 : Nat) ∧ List.length x7 + List.length [x0] ≤ (140737488355328 : Nat))) (
          Option.bind (f (IntKind.wrap IntKind.i64 (x0 + (1 : Int)), x1, x2, x3, x4, x5, x4, x7 ++ [x0])) fun r => some r) (
          none)) (
        Option.bind (f (IntKind.wrap IntKind.i64 (x0 + (1 : Int)), x1, x2, x3, x4, x5, x6, x7)) fun r => some r)) (
      none)) (
    some ((x4, x2, x5, x6, x7)))

noncomputable def F20_16018 (N : Nat) : Nat → (Int × Int × (List Int) × (List Int) × Int × (List Int) × Int × (List Int)) → Option (Int × (List Int) × (List Int) × Int × (List Int))
  | 0, _ => none
  | k + 1, x => B20_16018 N (F20_16018 N k) x

noncomputable def C20_16018 (N : Nat) (k : Nat) : Cut := ⟨[34, 33, 0, 32, 6, 7], X20_16018, tellX I20_16018 (F20_16018 N k) O20_16018⟩

theorem B20_16018_eq (N : Nat) (f : (Int × Int × (List Int) × (List Int) × Int × (List Int) × Int × (List Int)) → Option (Int × (List Int) × (List Int) × Int × (List Int))) (x0 : Int) (x1 : Int) (x2 : (List Int)) (x3 : (List Int)) (x4 : Int) (x5 : (List Int)) (x6 : Int) (x7 : (List Int)) : (roundEv (mkE Try.prog ownT (tab20 N) []) Try.f20.ntmps A20 (loopAt (bod Try.f20) 16018) 16018 ⟨[34, 33, 0, 32, 6, 7], X20_16018, tellX I20_16018 f O20_16018⟩ (J20_16018 (x0, x1, x2, x3, x4, x5, x6, x7))).run D20_16018 = B20_16018 N f (x0, x1, x2, x3, x4, x5, x6, x7) := by kernel_rfl

theorem C20_16018_ok (N : Nat) (k : Nat) : ∀ c', At (bod Try.f20) 16018 c' → CutOK Try.prog Try.f20.ntmps (idsL A20) c' (C20_16018 N k) :=
  loop_ok (E := (mkE Try.prog ownT (tab20 N) [])) (mkE_ok mix (tab20_ok N)) (cutsIn_ok trivial) (fuel := 200) (by decide +kernel) (by kernel_rfl) I20_16018_ok D20_16018_ok (B20_16018 N) (F20_16018 N) (fun _ => rfl) (fun _ _ => rfl) (fun f x => match x with | (x0, x1, x2, x3, x4, x5, x6, x7) => B20_16018_eq N f x0 x1 x2 x3 x4 x5 x6 x7) k

noncomputable def O20_250 (r : (List Int) × Int × (List Int)) : Tr (Ex × Pk) := .ret (.exit 0, ⟨[.adr 0 []], [some (.var (.agg [.arr (Ty.int IntKind.i64) 16 (r.1), .sl 1 (none), .v (.int .i64 (r.2.1))])), some (.row (Ty.int IntKind.i64) 3 (r.2.2))]⟩)

noncomputable def D20_250 : Ex × Pk → Option ((List Int) × Int × (List Int))
  | (.exit 0, ⟨[.adr 0 []], [some (.var (.agg [.arr (Ty.int IntKind.i64) 16 x0, .sl 1 (none), .v (.int .i64 x1)])), some (.row (Ty.int IntKind.i64) 3 x2)]⟩) => some ((x0, x1, x2))
  | _ => none

theorem D20_250_ok : ∀ y r, D20_250 y = some r → ∀ z, (O20_250 r).to z → y = z := by
  intro y r h
  unfold D20_250 at h
  split at h <;> first | (cases h; intro z hz; exact Option.some.inj hz) | cases h

noncomputable def B20_250 (N : Nat) (f : ((List Int) × Int × (List Int) × Int × (List Int)) → Option ((List Int) × Int × (List Int))) : ((List Int) × Int × (List Int) × Int × (List Int)) → Option ((List Int) × Int × (List Int))
  | (x0, x1, x2, x3, x4) =>
  iteP (decide (x1 ≤ (15 : Int))) (
    Option.bind (F20_16018 N N ((0 : Int), (↑(List.length x0) : Int), x0, x0, x1, x2, x3, x4)) fun y0 =>
    Option.bind (f (Prod.fst (Prod.snd y0), IntKind.wrap IntKind.i64 (Prod.fst y0 + (1 : Int)), Prod.fst (Prod.snd (Prod.snd y0)), Prod.fst (Prod.snd (Prod.snd (Prod.snd y0))), Prod.snd (Prod.snd (Prod.snd (Prod.snd y0))))) fun r => some r) (
    some ((x2, x3, x4)))

noncomputable def F20_250 (N : Nat) : Nat → ((List Int) × Int × (List Int) × Int × (List Int)) → Option ((List Int) × Int × (List Int))
  | 0, _ => none
  | k + 1, x => B20_250 N (F20_250 N k) x

noncomputable def C20_250 (N : Nat) (k : Nat) : Cut := ⟨[0, 6, 7], X20_250, tellX I20_250 (F20_250 N k) O20_250⟩

theorem B20_250_eq (N : Nat) (f : ((List Int) × Int × (List Int) × Int × (List Int)) → Option ((List Int) × Int × (List Int))) (x0 : (List Int)) (x1 : Int) (x2 : (List Int)) (x3 : Int) (x4 : (List Int)) : (roundEv (mkE Try.prog ownT (tab20 N) [(16018, (C20_16018 N N))]) Try.f20.ntmps A20 (loopAt (bod Try.f20) 250) 250 ⟨[0, 6, 7], X20_250, tellX I20_250 f O20_250⟩ (J20_250 (x0, x1, x2, x3, x4))).run D20_250 = B20_250 N f (x0, x1, x2, x3, x4) := by kernel_rfl

theorem C20_250_ok (N : Nat) (k : Nat) : ∀ c', At (bod Try.f20) 250 c' → CutOK Try.prog Try.f20.ntmps (idsL A20) c' (C20_250 N k) :=
  loop_ok (E := (mkE Try.prog ownT (tab20 N) [(16018, (C20_16018 N N))])) (mkE_ok mix (tab20_ok N)) (cutsIn_ok ⟨fun c' h => (C20_16018_ok N N c' h), trivial⟩) (fuel := 200) (by decide +kernel) (by kernel_rfl) I20_250_ok D20_250_ok (B20_250 N) (F20_250 N) (fun _ => rfl) (fun _ _ => rfl) (fun f x => match x with | (x0, x1, x2, x3, x4) => B20_250_eq N f x0 x1 x2 x3 x4) k

noncomputable def O20 (r : ((Int) ⊕ (Int × (List Int) × Int × (List Int)))) : Tr (Pk) := .sum _ _ r (fun u => .ret ⟨[.tup [.v ((Value.pointer none)), .v (.int .i64 (u))]], []⟩) (fun v => .ret ⟨[.tup [.adr 0 [], .v (.int .i64 (v.1))]], [some (.var (.agg [.arr (Ty.int IntKind.i64) 16 (v.2.1), .sl 1 (none), .v (.int .i64 (v.2.2.1))])), some (.row (Ty.int IntKind.i64) 3 (v.2.2.2))]⟩)

noncomputable def D20 : Pk → Option (((Int) ⊕ (Int × (List Int) × Int × (List Int))))
  | ⟨[.tup [.v ((Value.pointer none)), .v (.int .i64 x0)]], []⟩ => some (.inl (x0))
  | ⟨[.tup [.adr 0 [], .v (.int .i64 x0)]], [some (.var (.agg [.arr (Ty.int IntKind.i64) 16 x1, .sl 1 (none), .v (.int .i64 x2)])), some (.row (Ty.int IntKind.i64) 3 x3)]⟩ => some (.inr ((x0, x1, x2, x3)))
  | _ => none

theorem D20_ok : ∀ y r, D20 y = some r → ∀ z, (O20 r).to z → y = z := by
  intro y r h
  unfold D20 at h
  split at h <;> first | (cases h; intro z hz; exact Option.some.inj hz) | cases h

noncomputable def F20 (N : Nat) : ((List Int)) → Option (((Int) ⊕ (Int × (List Int) × Int × (List Int))))
  | x0 =>
  Option.bind (F12 N x0) fun y0 =>
  iteP (Prod.snd y0 != (0 : Int)) (
    some (.inl (Prod.snd y0))) (
    Option.bind (F36 N x0) fun y1 =>
    Option.bind (F20_250 N N (x0, (1 : Int), Prod.fst y1, (0 : Int), [])) fun y2 =>
    some (.inr (((0 : Int), Prod.fst y2, Prod.fst (Prod.snd y2), Prod.snd (Prod.snd y2)))))

theorem F20_eq (N : Nat) (x0 : (List Int)) : (fnEv (mkE Try.prog ownT (tab20 N) [(16018, (C20_16018 N N)), (250, (C20_250 N N))]) Try.f20 (J20 x0)).run D20 = F20 N x0 := by kernel_rfl

noncomputable def T20 (N : Nat) : Pk → Tr Pk := tell I20 (F20 N) O20

theorem T20_ok (N : Nat) : FOK Try.prog 20 (T20 N) :=
  (tell_ok (E := (mkE Try.prog ownT (tab20 N) [(16018, (C20_16018 N N)), (250, (C20_250 N N))])) (mkE_ok mix (tab20_ok N)) Try.func20 (show Try.f20.body = some (bod Try.f20) by kernel_rfl) (by decide +kernel) (F := F20 N) I20_ok D20_ok (args := A20) (fun _ => by kernel_rfl) (fun _ => by show 1 ≤ Try.f20.ntmps; exact of_decide_eq_true (by kernel_rfl)) (cutsIn_ok ⟨fun c' h => (C20_16018_ok N N c' h), ⟨fun c' h => (C20_250_ok N N c' h), trivial⟩⟩) (fun x => match x with | x0 => F20_eq N x0))

/-! ## f22: mirador/bitio.New -/

noncomputable def I22 : Pk → Option (ByteArray)
  | ⟨[.v (.string x0)], []⟩ => some x0
  | _ => none

noncomputable def J22 (x : ByteArray) : Pk := ⟨[.v (.string (x))], []⟩

theorem I22_ok : ∀ pk x, I22 pk = some x → pk = J22 x := by
  intro pk x h
  unfold I22 at h
  split at h <;> first | (cases h; rfl) | cases h

noncomputable def A22 : List TV := []

noncomputable def tab22 (N : Nat) : List (Nat × (Pk → Tr Pk)) := []

theorem tab22_ok (N : Nat) : TabOK Try.prog (tab22 N) := trivial

noncomputable def O22 (r : ByteArray × Int × Int) : Tr (Pk) := .ret ⟨[.adr 0 []], [some (.var (.agg [.v (.string (r.1)), .v (.int .i64 (r.2.1)), .v (.int .i64 (r.2.2))]))]⟩

noncomputable def D22 : Pk → Option (ByteArray × Int × Int)
  | ⟨[.adr 0 []], [some (.var (.agg [.v (.string x0), .v (.int .i64 x1), .v (.int .i64 x2)]))]⟩ => some ((x0, x1, x2))
  | _ => none

theorem D22_ok : ∀ y r, D22 y = some r → ∀ z, (O22 r).to z → y = z := by
  intro y r h
  unfold D22 at h
  split at h <;> first | (cases h; intro z hz; exact Option.some.inj hz) | cases h

noncomputable def F22 (N : Nat) : (ByteArray) → Option (ByteArray × Int × Int)
  | x0 =>
  some ((x0, (0 : Int), (0 : Int)))

theorem F22_eq (N : Nat) (x0 : ByteArray) : (fnEv (mkE Try.prog ownT (tab22 N) []) Try.f22 (J22 x0)).run D22 = F22 N x0 := by kernel_rfl

noncomputable def T22 (N : Nat) : Pk → Tr Pk := tell I22 (F22 N) O22

theorem T22_ok (N : Nat) : FOK Try.prog 22 (T22 N) :=
  (tell_ok (E := (mkE Try.prog ownT (tab22 N) [])) (mkE_ok mix (tab22_ok N)) Try.func22 (show Try.f22.body = some (bod Try.f22) by kernel_rfl) (by decide +kernel) (F := F22 N) I22_ok D22_ok (args := A22) (fun _ => by kernel_rfl) (fun _ => by show 1 ≤ Try.f22.ntmps; exact of_decide_eq_true (by kernel_rfl)) (cutsIn_ok trivial) (fun x => match x with | x0 => F22_eq N x0))

/-! ## f60: mirador/bitio.count -/

noncomputable def I60 : Pk → Option (Int)
  | ⟨[.v (.int .i64 x0)], []⟩ => some x0
  | _ => none

noncomputable def J60 (x : Int) : Pk := ⟨[.v (.int .i64 (x))], []⟩

theorem I60_ok : ∀ pk x, I60 pk = some x → pk = J60 x := by
  intro pk x h
  unfold I60 at h
  split at h <;> first | (cases h; rfl) | cases h

noncomputable def A60 : List TV := []

noncomputable def tab60 (N : Nat) : List (Nat × (Pk → Tr Pk)) := []

theorem tab60_ok (N : Nat) : TabOK Try.prog (tab60 N) := trivial

noncomputable def O60 (r : Int) : Tr (Pk) := .ret ⟨[.v (.int .i64 (r))], []⟩

noncomputable def D60 : Pk → Option (Int)
  | ⟨[.v (.int .i64 x0)], []⟩ => some (x0)
  | _ => none

theorem D60_ok : ∀ y r, D60 y = some r → ∀ z, (O60 r).to z → y = z := by
  intro y r h
  unfold D60 at h
  split at h <;> first | (cases h; intro z hz; exact Option.some.inj hz) | cases h

noncomputable def F60 (N : Nat) : (Int) → Option (Int)
  | x0 =>
  some (if (32 : Int) < if (0 : Int) > x0 then (0 : Int) else x0 then (32 : Int) else if (0 : Int) > x0 then (0 : Int) else x0)

theorem F60_eq (N : Nat) (x0 : Int) : (fnEv (mkE Try.prog ownT (tab60 N) []) Try.f60 (J60 x0)).run D60 = F60 N x0 := by kernel_rfl

noncomputable def T60 (N : Nat) : Pk → Tr Pk := tell I60 (F60 N) O60

theorem T60_ok (N : Nat) : FOK Try.prog 60 (T60 N) :=
  (tell_ok (E := (mkE Try.prog ownT (tab60 N) [])) (mkE_ok mix (tab60_ok N)) Try.func60 (show Try.f60.body = some (bod Try.f60) by kernel_rfl) (by decide +kernel) (F := F60 N) I60_ok D60_ok (args := A60) (fun _ => by kernel_rfl) (fun _ => by show 1 ≤ Try.f60.ntmps; exact of_decide_eq_true (by kernel_rfl)) (cutsIn_ok trivial) (fun x => match x with | x0 => F60_eq N x0))

/-! ## f73: (*mirador/bitio.Reader).Left -/

noncomputable def I73 : Pk → Option ((ByteArray × (Int × (Int × Unit))))
  | ⟨[.radr (.cons .str (.cons (.int .i64) (.cons (.int .i64) .unit))) [x0] [.i 0 3]], []⟩ => some x0
  | _ => none

noncomputable def J73 (x : (ByteArray × (Int × (Int × Unit)))) : Pk := ⟨[.radr (.cons .str (.cons (.int .i64) (.cons (.int .i64) .unit))) [(x)] [.i 0 3]], []⟩

theorem I73_ok : ∀ pk x, I73 pk = some x → pk = J73 x := by
  intro pk x h
  unfold I73 at h
  split at h <;> first | (cases h; rfl) | cases h

noncomputable def A73 : List TV := []

noncomputable def tab73 (N : Nat) : List (Nat × (Pk → Tr Pk)) := []

theorem tab73_ok (N : Nat) : TabOK Try.prog (tab73 N) := trivial

noncomputable def O73 (r : Int) : Tr (Pk) := .ret ⟨[.v (.int .i64 (r))], []⟩

noncomputable def D73 : Pk → Option (Int)
  | ⟨[.v (.int .i64 x0)], []⟩ => some (x0)
  | _ => none

theorem D73_ok : ∀ y r, D73 y = some r → ∀ z, (O73 r).to z → y = z := by
  intro y r h
  unfold D73 at h
  split at h <;> first | (cases h; intro z hz; exact Option.some.inj hz) | cases h

noncomputable def F73 (N : Nat) : ((ByteArray × (Int × (Int × Unit)))) → Option (Int)
  | x0 =>
  some (IntKind.wrap IntKind.i64 (IntKind.wrap IntKind.i64 ((8 : Int) * (↑(ByteArray.size (Prod.fst x0)) : Int)) - Prod.fst (Prod.snd x0)))

theorem F73_eq (N : Nat) (x0 : (ByteArray × (Int × (Int × Unit)))) : (fnEv (mkE Try.prog ownT (tab73 N) []) Try.f73 (J73 x0)).run D73 = F73 N x0 := by kernel_rfl

noncomputable def T73 (N : Nat) : Pk → Tr Pk := tell I73 (F73 N) O73

theorem T73_ok (N : Nat) : FOK Try.prog 73 (T73 N) :=
  (tell_ok (E := (mkE Try.prog ownT (tab73 N) [])) (mkE_ok mix (tab73_ok N)) Try.func73 (show Try.f73.body = some (bod Try.f73) by kernel_rfl) (by decide +kernel) (F := F73 N) I73_ok D73_ok (args := A73) (fun _ => by kernel_rfl) (fun _ => by show 1 ≤ Try.f73.ntmps; exact of_decide_eq_true (by kernel_rfl)) (cutsIn_ok trivial) (fun x => match x with | x0 => F73_eq N x0))

/-! ## f61: (*mirador/bitio.Reader).has -/

noncomputable def I61 : Pk → Option (Int × ByteArray × Int × Int)
  | ⟨[.adr 0 [], .v (.int .i64 x0)], [some (.var (.agg [.v (.string x1), .v (.int .i64 x2), .v (.int .i64 x3)]))]⟩ => some (x0, x1, x2, x3)
  | _ => none

noncomputable def J61 (x : Int × ByteArray × Int × Int) : Pk := ⟨[.adr 0 [], .v (.int .i64 (x.1))], [some (.var (.agg [.v (.string (x.2.1)), .v (.int .i64 (x.2.2.1)), .v (.int .i64 (x.2.2.2))]))]⟩

theorem I61_ok : ∀ pk x, I61 pk = some x → pk = J61 x := by
  intro pk x h
  unfold I61 at h
  split at h <;> first | (cases h; rfl) | cases h

noncomputable def A61 : List TV := [.adr 0 []]

noncomputable def tab61 (N : Nat) : List (Nat × (Pk → Tr Pk)) := [(73, T73 N)]

theorem tab61_ok (N : Nat) : TabOK Try.prog (tab61 N) := ⟨T73_ok N, trivial⟩

noncomputable def O61 (r : Bool × ByteArray × Int × Int) : Tr (Pk) := .ret ⟨[.v (.bool (r.1))], [some (.var (.agg [.v (.string (r.2.1)), .v (.int .i64 (r.2.2.1)), .v (.int .i64 (r.2.2.2))]))]⟩

noncomputable def D61 : Pk → Option (Bool × ByteArray × Int × Int)
  | ⟨[.v (.bool x0)], [some (.var (.agg [.v (.string x1), .v (.int .i64 x2), .v (.int .i64 x3)]))]⟩ => some ((x0, x1, x2, x3))
  | _ => none

theorem D61_ok : ∀ y r, D61 y = some r → ∀ z, (O61 r).to z → y = z := by
  intro y r h
  unfold D61 at h
  split at h <;> first | (cases h; intro z hz; exact Option.some.inj hz) | cases h

noncomputable def F61 (N : Nat) : (Int × ByteArray × Int × Int) → Option (Bool × ByteArray × Int × Int)
  | (x0, x1, x2, x3) =>
  iteP (x3 == (0 : Int)) (
    Option.bind (F73 N (x1, x2, x3, ())) fun y0 =>
    iteP (decide (x0 > y0)) (
      some ((false, x1, x2, (2 : Int)))) (
      some ((x3 == (0 : Int), x1, x2, x3)))) (
    some ((x3 == (0 : Int), x1, x2, x3)))

theorem F61_eq (N : Nat) (x0 : Int) (x1 : ByteArray) (x2 : Int) (x3 : Int) : (fnEv (mkE Try.prog ownT (tab61 N) []) Try.f61 (J61 (x0, x1, x2, x3))).run D61 = F61 N (x0, x1, x2, x3) := by kernel_rfl

noncomputable def T61 (N : Nat) : Pk → Tr Pk := tell I61 (F61 N) O61

theorem T61_ok (N : Nat) : FOK Try.prog 61 (T61 N) :=
  (tell_ok (E := (mkE Try.prog ownT (tab61 N) [])) (mkE_ok mix (tab61_ok N)) Try.func61 (show Try.f61.body = some (bod Try.f61) by kernel_rfl) (by decide +kernel) (F := F61 N) I61_ok D61_ok (args := A61) (fun _ => by kernel_rfl) (fun _ => by show 2 ≤ Try.f61.ntmps; exact of_decide_eq_true (by kernel_rfl)) (cutsIn_ok trivial) (fun x => match x with | (x0, x1, x2, x3) => F61_eq N x0 x1 x2 x3))

/-! ## f42: (*mirador/bitio.Reader).Bits -/

noncomputable def I42 : Pk → Option (Int × ByteArray × Int × Int)
  | ⟨[.adr 0 [], .v (.int .i64 x0)], [some (.var (.agg [.v (.string x1), .v (.int .i64 x2), .v (.int .i64 x3)]))]⟩ => some (x0, x1, x2, x3)
  | _ => none

noncomputable def J42 (x : Int × ByteArray × Int × Int) : Pk := ⟨[.adr 0 [], .v (.int .i64 (x.1))], [some (.var (.agg [.v (.string (x.2.1)), .v (.int .i64 (x.2.2.1)), .v (.int .i64 (x.2.2.2))]))]⟩

theorem I42_ok : ∀ pk x, I42 pk = some x → pk = J42 x := by
  intro pk x h
  unfold I42 at h
  split at h <;> first | (cases h; rfl) | cases h

noncomputable def A42 : List TV := [.adr 0 []]

noncomputable def tab42 (N : Nat) : List (Nat × (Pk → Tr Pk)) := [(60, T60 N), (61, T61 N)]

theorem tab42_ok (N : Nat) : TabOK Try.prog (tab42 N) := ⟨T60_ok N, ⟨T61_ok N, trivial⟩⟩

def X42_250 : Ex → List Nat
  | .ret => [4]
  | .exit 0 => [0, 1, 5]
  | _ => []

noncomputable def I42_250 : Pk → Option (Int × Int × Int × Int × ByteArray × Int × Int)
  | ⟨[.v (.int .i64 x0), .v (.int .i64 x1), .v (.int .i64 x2), .v (.int .i64 x3), .adr 0 []], [some (.var (.agg [.v (.string x4), .v (.int .i64 x5), .v (.int .i64 x6)]))]⟩ => some (x0, x1, x2, x3, x4, x5, x6)
  | _ => none

noncomputable def J42_250 (x : Int × Int × Int × Int × ByteArray × Int × Int) : Pk := ⟨[.v (.int .i64 (x.1)), .v (.int .i64 (x.2.1)), .v (.int .i64 (x.2.2.1)), .v (.int .i64 (x.2.2.2.1)), .adr 0 []], [some (.var (.agg [.v (.string (x.2.2.2.2.1)), .v (.int .i64 (x.2.2.2.2.2.1)), .v (.int .i64 (x.2.2.2.2.2.2))]))]⟩

theorem I42_250_ok : ∀ pk x, I42_250 pk = some x → pk = J42_250 x := by
  intro pk x h
  unfold I42_250 at h
  split at h <;> first | (cases h; rfl) | cases h

noncomputable def O42_250 (r : Int × Int × ByteArray × Int × Int) : Tr (Ex × Pk) := .ret (.exit 0, ⟨[.adr 0 [], .v (.int .i64 (r.1)), .v (.int .i64 (r.2.1))], [some (.var (.agg [.v (.string (r.2.2.1)), .v (.int .i64 (r.2.2.2.1)), .v (.int .i64 (r.2.2.2.2))]))]⟩)

noncomputable def D42_250 : Ex × Pk → Option (Int × Int × ByteArray × Int × Int)
  | (.exit 0, ⟨[.adr 0 [], .v (.int .i64 x0), .v (.int .i64 x1)], [some (.var (.agg [.v (.string x2), .v (.int .i64 x3), .v (.int .i64 x4)]))]⟩) => some ((x0, x1, x2, x3, x4))
  | _ => none

theorem D42_250_ok : ∀ y r, D42_250 y = some r → ∀ z, (O42_250 r).to z → y = z := by
  intro y r h
  unfold D42_250 at h
  split at h <;> first | (cases h; intro z hz; exact Option.some.inj hz) | cases h

noncomputable def B42_250 (N : Nat) (f : (Int × Int × Int × Int × ByteArray × Int × Int) → Option (Int × Int × ByteArray × Int × Int)) : (Int × Int × Int × Int × ByteArray × Int × Int) → Option (Int × Int × ByteArray × Int × Int)
  | (x0, x1, x2, x3, x4, x5, x6) =>
  iteP (decide (x1 < x2)) (
    iteP (decide ((0 : Int) ≤ IntKind.wrap IntKind.i64 (Int.tdiv (IntKind.wrap IntKind.i64 (x5 + x1)) (8 : Int)))) (
      Option.bind (x4[Int.toNat (IntKind.wrap IntKind.i64 (Int.tdiv (IntKind.wrap IntKind.i64 (x5 + x1)) (8 : Int)))]?) fun y0 =>
      iteP (decide (Int.tmod (IntKind.wrap IntKind.i64 (x5 + x1)) (8 : Int) < (0 : Int))) (
        none) (
        iteP (decide (x1 < (0 : Int))) (
          none) (
          Option.bind (f (IntKind.wrap IntKind.i64 (↑(BitVec.toNat (BitVec.ofInt (64 : Nat) x0 ||| BitVec.ofInt (64 : Nat) (IntKind.wrap IntKind.i64 (IntKind.wrap IntKind.i64 (↑(BitVec.toNat (BitVec.ofInt (64 : Nat) (Int.fdiv (IntKind.wrap IntKind.i64 (↑(UInt8.toNat y0) : Int)) ((2 : Int) ^ min (Int.toNat (Int.tmod (IntKind.wrap IntKind.i64 (x5 + x1)) (8 : Int))) (64 : Nat))) &&& BitVec.ofInt (64 : Nat) (1 : Int))) : Int) * (2 : Int) ^ min (Int.toNat x1) (64 : Nat))))) : Int), IntKind.wrap IntKind.i64 (x1 + (1 : Int)), x2, x3, x4, x5, x6)) fun r => some r))) (
      none)) (
    some ((x3, x0, x4, x5, x6)))

noncomputable def F42_250 (N : Nat) : Nat → (Int × Int × Int × Int × ByteArray × Int × Int) → Option (Int × Int × ByteArray × Int × Int)
  | 0, _ => none
  | k + 1, x => B42_250 N (F42_250 N k) x

noncomputable def C42_250 (N : Nat) (k : Nat) : Cut := ⟨[5, 15, 14, 1, 0], X42_250, tellX I42_250 (F42_250 N k) O42_250⟩

theorem B42_250_eq (N : Nat) (f : (Int × Int × Int × Int × ByteArray × Int × Int) → Option (Int × Int × ByteArray × Int × Int)) (x0 : Int) (x1 : Int) (x2 : Int) (x3 : Int) (x4 : ByteArray) (x5 : Int) (x6 : Int) : (roundEv (mkE Try.prog ownT (tab42 N) []) Try.f42.ntmps A42 (loopAt (bod Try.f42) 250) 250 ⟨[5, 15, 14, 1, 0], X42_250, tellX I42_250 f O42_250⟩ (J42_250 (x0, x1, x2, x3, x4, x5, x6))).run D42_250 = B42_250 N f (x0, x1, x2, x3, x4, x5, x6) := by kernel_rfl

theorem C42_250_ok (N : Nat) (k : Nat) : ∀ c', At (bod Try.f42) 250 c' → CutOK Try.prog Try.f42.ntmps (idsL A42) c' (C42_250 N k) :=
  loop_ok (E := (mkE Try.prog ownT (tab42 N) [])) (mkE_ok mix (tab42_ok N)) (cutsIn_ok trivial) (fuel := 200) (by decide +kernel) (by kernel_rfl) I42_250_ok D42_250_ok (B42_250 N) (F42_250 N) (fun _ => rfl) (fun _ _ => rfl) (fun f x => match x with | (x0, x1, x2, x3, x4, x5, x6) => B42_250_eq N f x0 x1 x2 x3 x4 x5 x6) k

noncomputable def O42 (r : Int × ByteArray × Int × Int) : Tr (Pk) := .ret ⟨[.v (.int .i64 (r.1))], [some (.var (.agg [.v (.string (r.2.1)), .v (.int .i64 (r.2.2.1)), .v (.int .i64 (r.2.2.2))]))]⟩

noncomputable def D42 : Pk → Option (Int × ByteArray × Int × Int)
  | ⟨[.v (.int .i64 x0)], [some (.var (.agg [.v (.string x1), .v (.int .i64 x2), .v (.int .i64 x3)]))]⟩ => some ((x0, x1, x2, x3))
  | _ => none

theorem D42_ok : ∀ y r, D42 y = some r → ∀ z, (O42 r).to z → y = z := by
  intro y r h
  unfold D42 at h
  split at h <;> first | (cases h; intro z hz; exact Option.some.inj hz) | cases h

noncomputable def F42 (N : Nat) : (Int × ByteArray × Int × Int) → Option (Int × ByteArray × Int × Int)
  | (x0, x1, x2, x3) =>
  Option.bind (F60 N x0) fun y0 =>
  Option.bind (F61 N (y0, x1, x2, x3)) fun y1 =>
  iteP (!Prod.fst y1) (
    some (((0 : Int), Prod.fst (Prod.snd y1), Prod.fst (Prod.snd (Prod.snd y1)), Prod.snd (Prod.snd (Prod.snd y1))))) (
    Option.bind (F42_250 N N ((0 : Int), (0 : Int), y0, y0, Prod.fst (Prod.snd y1), Prod.fst (Prod.snd (Prod.snd y1)), Prod.snd (Prod.snd (Prod.snd y1)))) fun y2 =>
    some ((Prod.fst (Prod.snd y2), Prod.fst (Prod.snd (Prod.snd y2)), IntKind.wrap IntKind.i64 (Prod.fst (Prod.snd (Prod.snd (Prod.snd y2))) + Prod.fst y2), Prod.snd (Prod.snd (Prod.snd (Prod.snd y2))))))

theorem F42_eq (N : Nat) (x0 : Int) (x1 : ByteArray) (x2 : Int) (x3 : Int) : (fnEv (mkE Try.prog ownT (tab42 N) [(250, (C42_250 N N))]) Try.f42 (J42 (x0, x1, x2, x3))).run D42 = F42 N (x0, x1, x2, x3) := by kernel_rfl

noncomputable def T42 (N : Nat) : Pk → Tr Pk := tell I42 (F42 N) O42

theorem T42_ok (N : Nat) : FOK Try.prog 42 (T42 N) :=
  (tell_ok (E := (mkE Try.prog ownT (tab42 N) [(250, (C42_250 N N))])) (mkE_ok mix (tab42_ok N)) Try.func42 (show Try.f42.body = some (bod Try.f42) by kernel_rfl) (by decide +kernel) (F := F42 N) I42_ok D42_ok (args := A42) (fun _ => by kernel_rfl) (fun _ => by show 2 ≤ Try.f42.ntmps; exact of_decide_eq_true (by kernel_rfl)) (cutsIn_ok ⟨fun c' h => (C42_250_ok N N c' h), trivial⟩) (fun x => match x with | (x0, x1, x2, x3) => F42_eq N x0 x1 x2 x3))

/-! ## f43: (*mirador/bitio.Reader).Err -/

noncomputable def I43 : Pk → Option ((ByteArray × (Int × (Int × Unit))))
  | ⟨[.radr (.cons .str (.cons (.int .i64) (.cons (.int .i64) .unit))) [x0] [.i 0 3]], []⟩ => some x0
  | _ => none

noncomputable def J43 (x : (ByteArray × (Int × (Int × Unit)))) : Pk := ⟨[.radr (.cons .str (.cons (.int .i64) (.cons (.int .i64) .unit))) [(x)] [.i 0 3]], []⟩

theorem I43_ok : ∀ pk x, I43 pk = some x → pk = J43 x := by
  intro pk x h
  unfold I43 at h
  split at h <;> first | (cases h; rfl) | cases h

noncomputable def A43 : List TV := []

noncomputable def tab43 (N : Nat) : List (Nat × (Pk → Tr Pk)) := []

theorem tab43_ok (N : Nat) : TabOK Try.prog (tab43 N) := trivial

noncomputable def O43 (r : Int) : Tr (Pk) := .ret ⟨[.v (.int .i64 (r))], []⟩

noncomputable def D43 : Pk → Option (Int)
  | ⟨[.v (.int .i64 x0)], []⟩ => some (x0)
  | _ => none

theorem D43_ok : ∀ y r, D43 y = some r → ∀ z, (O43 r).to z → y = z := by
  intro y r h
  unfold D43 at h
  split at h <;> first | (cases h; intro z hz; exact Option.some.inj hz) | cases h

noncomputable def F43 (N : Nat) : ((ByteArray × (Int × (Int × Unit)))) → Option (Int)
  | x0 =>
  some (Prod.fst (Prod.snd (Prod.snd x0)))

theorem F43_eq (N : Nat) (x0 : (ByteArray × (Int × (Int × Unit)))) : (fnEv (mkE Try.prog ownT (tab43 N) []) Try.f43 (J43 x0)).run D43 = F43 N x0 := by kernel_rfl

noncomputable def T43 (N : Nat) : Pk → Tr Pk := tell I43 (F43 N) O43

theorem T43_ok (N : Nat) : FOK Try.prog 43 (T43 N) :=
  (tell_ok (E := (mkE Try.prog ownT (tab43 N) [])) (mkE_ok mix (tab43_ok N)) Try.func43 (show Try.f43.body = some (bod Try.f43) by kernel_rfl) (by decide +kernel) (F := F43 N) I43_ok D43_ok (args := A43) (fun _ => by kernel_rfl) (fun _ => by show 1 ≤ Try.f43.ntmps; exact of_decide_eq_true (by kernel_rfl)) (cutsIn_ok trivial) (fun x => match x with | x0 => F43_eq N x0))

/-! ## f44: (*mirador/huffman.Decoder).rest -/

noncomputable def I44 : Pk → Option (Int × (List Int) × Int × (List Int))
  | ⟨[.adr 0 [], .v (.int .i64 x0)], [some (.var (.agg [.arr (.int .i64) 16 x1, .sl 1 none, .v (.int .i64 x2)])), some (.row (.int .i64) 3 x3)]⟩ => some (x0, x1, x2, x3)
  | _ => none

noncomputable def J44 (x : Int × (List Int) × Int × (List Int)) : Pk := ⟨[.adr 0 [], .v (.int .i64 (x.1))], [some (.var (.agg [.arr (.int .i64) 16 (x.2.1), .sl 1 none, .v (.int .i64 (x.2.2.1))])), some (.row (.int .i64) 3 (x.2.2.2))]⟩

theorem I44_ok : ∀ pk x, I44 pk = some x → pk = J44 x := by
  intro pk x h
  unfold I44 at h
  split at h <;> first | (cases h; rfl) | cases h

noncomputable def A44 : List TV := [.adr 0 []]

noncomputable def tab44 (N : Nat) : List (Nat × (Pk → Tr Pk)) := []

theorem tab44_ok (N : Nat) : TabOK Try.prog (tab44 N) := trivial

def X44_58 : Ex → List Nat
  | .ret => [4]
  | .exit 0 => [5]
  | _ => []

noncomputable def I44_58 : Pk → Option (Int × Int × Int × (List Int) × Int × (List Int))
  | ⟨[.v (.int .i64 x0), .v (.int .i64 x1), .v (.int .i64 x2), .adr 0 []], [some (.var (.agg [.arr (Ty.int IntKind.i64) 16 x3, .sl 1 (none), .v (.int .i64 x4)])), some (.row (Ty.int IntKind.i64) 3 x5)]⟩ => some (x0, x1, x2, x3, x4, x5)
  | _ => none

noncomputable def J44_58 (x : Int × Int × Int × (List Int) × Int × (List Int)) : Pk := ⟨[.v (.int .i64 (x.1)), .v (.int .i64 (x.2.1)), .v (.int .i64 (x.2.2.1)), .adr 0 []], [some (.var (.agg [.arr (Ty.int IntKind.i64) 16 (x.2.2.2.1), .sl 1 (none), .v (.int .i64 (x.2.2.2.2.1))])), some (.row (Ty.int IntKind.i64) 3 (x.2.2.2.2.2))]⟩

theorem I44_58_ok : ∀ pk x, I44_58 pk = some x → pk = J44_58 x := by
  intro pk x h
  unfold I44_58 at h
  split at h <;> first | (cases h; rfl) | cases h

noncomputable def O44_58 (r : Int × (List Int) × Int × (List Int)) : Tr (Ex × Pk) := .ret (.exit 0, ⟨[.v (.int .i64 (r.1))], [some (.var (.agg [.arr (Ty.int IntKind.i64) 16 (r.2.1), .sl 1 (none), .v (.int .i64 (r.2.2.1))])), some (.row (Ty.int IntKind.i64) 3 (r.2.2.2))]⟩)

noncomputable def D44_58 : Ex × Pk → Option (Int × (List Int) × Int × (List Int))
  | (.exit 0, ⟨[.v (.int .i64 x0)], [some (.var (.agg [.arr (Ty.int IntKind.i64) 16 x1, .sl 1 (none), .v (.int .i64 x2)])), some (.row (Ty.int IntKind.i64) 3 x3)]⟩) => some ((x0, x1, x2, x3))
  | _ => none

theorem D44_58_ok : ∀ y r, D44_58 y = some r → ∀ z, (O44_58 r).to z → y = z := by
  intro y r h
  unfold D44_58 at h
  split at h <;> first | (cases h; intro z hz; exact Option.some.inj hz) | cases h

noncomputable def B44_58 (N : Nat) (f : (Int × Int × Int × (List Int) × Int × (List Int)) → Option (Int × (List Int) × Int × (List Int))) : (Int × Int × Int × (List Int) × Int × (List Int)) → Option (Int × (List Int) × Int × (List Int))
  | (x0, x1, x2, x3, x4, x5) =>
  iteP (decide (x1 > x2)) (
    iteP (within x1 (16 : Nat)) (
      Option.bind (x3[Int.toNat x1]?) fun y0 =>
      Option.bind (f (IntKind.wrap IntKind.i64 (Int.tdiv (IntKind.wrap IntKind.i64 (IntKind.wrap IntKind.i64 (x0 + y0) + (1 : Int))) (2 : Int)), IntKind.wrap IntKind.i64 (x1 - (1 : Int)), x2, x3, x4, x5)) fun r => some r) (
      none)) (
    some ((x0, x3, x4, x5)))

noncomputable def F44_58 (N : Nat) : Nat → (Int × Int × Int × (List Int) × Int × (List Int)) → Option (Int × (List Int) × Int × (List Int))
  | 0, _ => none
  | k + 1, x => B44_58 N (F44_58 N k) x

noncomputable def C44_58 (N : Nat) (k : Nat) : Cut := ⟨[5, 6, 1, 0], X44_58, tellX I44_58 (F44_58 N k) O44_58⟩

theorem B44_58_eq (N : Nat) (f : (Int × Int × Int × (List Int) × Int × (List Int)) → Option (Int × (List Int) × Int × (List Int))) (x0 : Int) (x1 : Int) (x2 : Int) (x3 : (List Int)) (x4 : Int) (x5 : (List Int)) : (roundEv (mkE Try.prog ownT (tab44 N) []) Try.f44.ntmps A44 (loopAt (bod Try.f44) 58) 58 ⟨[5, 6, 1, 0], X44_58, tellX I44_58 f O44_58⟩ (J44_58 (x0, x1, x2, x3, x4, x5))).run D44_58 = B44_58 N f (x0, x1, x2, x3, x4, x5) := by kernel_rfl

theorem C44_58_ok (N : Nat) (k : Nat) : ∀ c', At (bod Try.f44) 58 c' → CutOK Try.prog Try.f44.ntmps (idsL A44) c' (C44_58 N k) :=
  loop_ok (E := (mkE Try.prog ownT (tab44 N) [])) (mkE_ok mix (tab44_ok N)) (cutsIn_ok trivial) (fuel := 200) (by decide +kernel) (by kernel_rfl) I44_58_ok D44_58_ok (B44_58 N) (F44_58 N) (fun _ => rfl) (fun _ _ => rfl) (fun f x => match x with | (x0, x1, x2, x3, x4, x5) => B44_58_eq N f x0 x1 x2 x3 x4 x5) k

noncomputable def O44 (r : Int × (List Int) × Int × (List Int)) : Tr (Pk) := .ret ⟨[.v (.int .i64 (r.1))], [some (.var (.agg [.arr (Ty.int IntKind.i64) 16 (r.2.1), .sl 1 (none), .v (.int .i64 (r.2.2.1))])), some (.row (Ty.int IntKind.i64) 3 (r.2.2.2))]⟩

noncomputable def D44 : Pk → Option (Int × (List Int) × Int × (List Int))
  | ⟨[.v (.int .i64 x0)], [some (.var (.agg [.arr (Ty.int IntKind.i64) 16 x1, .sl 1 (none), .v (.int .i64 x2)])), some (.row (Ty.int IntKind.i64) 3 x3)]⟩ => some ((x0, x1, x2, x3))
  | _ => none

theorem D44_ok : ∀ y r, D44 y = some r → ∀ z, (O44 r).to z → y = z := by
  intro y r h
  unfold D44 at h
  split at h <;> first | (cases h; intro z hz; exact Option.some.inj hz) | cases h

noncomputable def F44 (N : Nat) : (Int × (List Int) × Int × (List Int)) → Option (Int × (List Int) × Int × (List Int))
  | (x0, x1, x2, x3) =>
  Option.bind (F44_58 N N ((0 : Int), x2, x0, x1, x2, x3)) fun y0 =>
  some ((Prod.fst y0, Prod.fst (Prod.snd y0), Prod.fst (Prod.snd (Prod.snd y0)), Prod.snd (Prod.snd (Prod.snd y0))))

theorem F44_eq (N : Nat) (x0 : Int) (x1 : (List Int)) (x2 : Int) (x3 : (List Int)) : (fnEv (mkE Try.prog ownT (tab44 N) [(58, (C44_58 N N))]) Try.f44 (J44 (x0, x1, x2, x3))).run D44 = F44 N (x0, x1, x2, x3) := by kernel_rfl

noncomputable def T44 (N : Nat) : Pk → Tr Pk := tell I44 (F44 N) O44

theorem T44_ok (N : Nat) : FOK Try.prog 44 (T44 N) :=
  (tell_ok (E := (mkE Try.prog ownT (tab44 N) [(58, (C44_58 N N))])) (mkE_ok mix (tab44_ok N)) Try.func44 (show Try.f44.body = some (bod Try.f44) by kernel_rfl) (by decide +kernel) (F := F44 N) I44_ok D44_ok (args := A44) (fun _ => by kernel_rfl) (fun _ => by show 2 ≤ Try.f44.ntmps; exact of_decide_eq_true (by kernel_rfl)) (cutsIn_ok ⟨fun c' h => (C44_58_ok N N c' h), trivial⟩) (fun x => match x with | (x0, x1, x2, x3) => F44_eq N x0 x1 x2 x3))


end Go.Proofs.Ytpjkklailofkjaa.Am

set_option linter.unusedVariables false
set_option maxRecDepth 100000
namespace Go.Proofs.Ytpjkklailofkjaa.Am
open Go.Am

/-! ## f23: (*mirador/huffman.Decoder).Next -/

noncomputable def I23 : Pk → Option ((List Int) × Int × ByteArray × Int × Int × (List Int))
  | ⟨[.adr 0 [], .adr 1 []], [some (.var (.agg [.arr (.int .i64) 16 x0, .sl 2 none, .v (.int .i64 x1)])), some (.var (.agg [.v (.string x2), .v (.int .i64 x3), .v (.int .i64 x4)])), some (.row (.int .i64) 3 x5)]⟩ => some (x0, x1, x2, x3, x4, x5)
  | _ => none

noncomputable def J23 (x : (List Int) × Int × ByteArray × Int × Int × (List Int)) : Pk := ⟨[.adr 0 [], .adr 1 []], [some (.var (.agg [.arr (.int .i64) 16 (x.1), .sl 2 none, .v (.int .i64 (x.2.1))])), some (.var (.agg [.v (.string (x.2.2.1)), .v (.int .i64 (x.2.2.2.1)), .v (.int .i64 (x.2.2.2.2.1))])), some (.row (.int .i64) 3 (x.2.2.2.2.2))]⟩

theorem I23_ok : ∀ pk x, I23 pk = some x → pk = J23 x := by
  intro pk x h
  unfold I23 at h
  split at h <;> first | (cases h; rfl) | cases h

noncomputable def A23 : List TV := [.adr 0 [], .adr 1 []]

noncomputable def tab23 (N : Nat) : List (Nat × (Pk → Tr Pk)) := [(42, T42 N), (43, T43 N), (44, T44 N)]

theorem tab23_ok (N : Nat) : TabOK Try.prog (tab23 N) := ⟨T42_ok N, ⟨T43_ok N, ⟨T44_ok N, trivial⟩⟩⟩

def X23_58 : Ex → List Nat
  | .ret => [4, 5]
  | .exit 0 => []
  | _ => []

noncomputable def I23_58 : Pk → Option (Int × Int × Int × Int × (List Int) × Int × ByteArray × Int × Int × (List Int))
  | ⟨[.v (.int .i64 x0), .adr 0 [], .v (.int .i64 x1), .adr 1 [], .v (.int .i64 x2), .v (.int .i64 x3)], [some (.var (.agg [.arr (Ty.int IntKind.i64) 16 x4, .sl 2 (none), .v (.int .i64 x5)])), some (.var (.agg [.v (.string x6), .v (.int .i64 x7), .v (.int .i64 x8)])), some (.row (Ty.int IntKind.i64) 3 x9)]⟩ => some (x0, x1, x2, x3, x4, x5, x6, x7, x8, x9)
  | _ => none

noncomputable def J23_58 (x : Int × Int × Int × Int × (List Int) × Int × ByteArray × Int × Int × (List Int)) : Pk := ⟨[.v (.int .i64 (x.1)), .adr 0 [], .v (.int .i64 (x.2.1)), .adr 1 [], .v (.int .i64 (x.2.2.1)), .v (.int .i64 (x.2.2.2.1))], [some (.var (.agg [.arr (Ty.int IntKind.i64) 16 (x.2.2.2.2.1), .sl 2 (none), .v (.int .i64 (x.2.2.2.2.2.1))])), some (.var (.agg [.v (.string (x.2.2.2.2.2.2.1)), .v (.int .i64 (x.2.2.2.2.2.2.2.1)), .v (.int .i64 (x.2.2.2.2.2.2.2.2.1))])), some (.row (Ty.int IntKind.i64) 3 (x.2.2.2.2.2.2.2.2.2))]⟩

theorem I23_58_ok : ∀ pk x, I23_58 pk = some x → pk = J23_58 x := by
  intro pk x h
  unfold I23_58 at h
  split at h <;> first | (cases h; rfl) | cases h

noncomputable def O23_58 (r : ((Int × Int × (List Int) × Int × ByteArray × Int × Int × (List Int)) ⊕ ((List Int) × Int × ByteArray × Int × Int × (List Int)))) : Tr (Ex × Pk) := .sum _ _ r (fun u => .ret (.ret, ⟨[.v (.int .i64 (u.1)), .v (.int .i64 (u.2.1))], [some (.var (.agg [.arr (Ty.int IntKind.i64) 16 (u.2.2.1), .sl 2 (none), .v (.int .i64 (u.2.2.2.1))])), some (.var (.agg [.v (.string (u.2.2.2.2.1)), .v (.int .i64 (u.2.2.2.2.2.1)), .v (.int .i64 (u.2.2.2.2.2.2.1))])), some (.row (Ty.int IntKind.i64) 3 (u.2.2.2.2.2.2.2))]⟩)) (fun v => .ret (.exit 0, ⟨[], [some (.var (.agg [.arr (Ty.int IntKind.i64) 16 (v.1), .sl 2 (none), .v (.int .i64 (v.2.1))])), some (.var (.agg [.v (.string (v.2.2.1)), .v (.int .i64 (v.2.2.2.1)), .v (.int .i64 (v.2.2.2.2.1))])), some (.row (Ty.int IntKind.i64) 3 (v.2.2.2.2.2))]⟩))

noncomputable def D23_58 : Ex × Pk → Option (((Int × Int × (List Int) × Int × ByteArray × Int × Int × (List Int)) ⊕ ((List Int) × Int × ByteArray × Int × Int × (List Int))))
  | (.ret, ⟨[.v (.int .i64 x0), .v (.int .i64 x1)], [some (.var (.agg [.arr (Ty.int IntKind.i64) 16 x2, .sl 2 (none), .v (.int .i64 x3)])), some (.var (.agg [.v (.string x4), .v (.int .i64 x5), .v (.int .i64 x6)])), some (.row (Ty.int IntKind.i64) 3 x7)]⟩) => some (.inl ((x0, x1, x2, x3, x4, x5, x6, x7)))
  | (.exit 0, ⟨[], [some (.var (.agg [.arr (Ty.int IntKind.i64) 16 x0, .sl 2 (none), .v (.int .i64 x1)])), some (.var (.agg [.v (.string x2), .v (.int .i64 x3), .v (.int .i64 x4)])), some (.row (Ty.int IntKind.i64) 3 x5)]⟩) => some (.inr ((x0, x1, x2, x3, x4, x5)))
  | _ => none

theorem D23_58_ok : ∀ y r, D23_58 y = some r → ∀ z, (O23_58 r).to z → y = z := by
  intro y r h
  unfold D23_58 at h
  split at h <;> first | (cases h; intro z hz; exact Option.some.inj hz) | cases h

noncomputable def B23_58 (N : Nat) (f : (Int × Int × Int × Int × (List Int) × Int × ByteArray × Int × Int × (List Int)) → Option (((Int × Int × (List Int) × Int × ByteArray × Int × Int × (List Int)) ⊕ ((List Int) × Int × ByteArray × Int × Int × (List Int))))) : (Int × Int × Int × Int × (List Int) × Int × ByteArray × Int × Int × (List Int)) → Option (((Int × Int × (List Int) × Int × ByteArray × Int × Int × (List Int)) ⊕ ((List Int) × Int × ByteArray × Int × Int × (List Int))))
  | (x0, x1, x2, x3, x4, x5, x6, x7, x8, x9) =>
  iteP (decide (x2 ≤ x5)) (
    Option.bind (F42 N ((1 : Int), x6, x7, x8)) fun y0 =>
    Option.bind (F43 N (Prod.fst (Prod.snd y0), Prod.fst (Prod.snd (Prod.snd y0)), Prod.snd (Prod.snd (Prod.snd y0)), ())) fun y1 =>
    iteP (y1 != (0 : Int)) (
      some (.inl (((0 : Int), y1, x4, x5, Prod.fst (Prod.snd y0), Prod.fst (Prod.snd (Prod.snd y0)), Prod.snd (Prod.snd (Prod.snd y0)), x9)))) (
      iteP (within x2 (16 : Nat)) (
        Option.bind (x4[Int.toNat x2]?) fun y2 =>
        iteP (decide (IntKind.wrap IntKind.i64 (IntKind.wrap IntKind.i64 (↑(BitVec.toNat (BitVec.ofInt (64 : Nat) x3 ||| BitVec.ofInt (64 : Nat) (Prod.fst y0))) : Int) - x1) < y2)) (
          iteP (within (IntKind.wrap IntKind.i64 (x0 + IntKind.wrap IntKind.i64 (IntKind.wrap IntKind.i64 (↑(BitVec.toNat (BitVec.ofInt (64 : Nat) x3 ||| BitVec.ofInt (64 : Nat) (Prod.fst y0))) : Int) - x1))) (List.length x9)) (
            Option.bind (x9[Int.toNat (IntKind.wrap IntKind.i64 (x0 + IntKind.wrap IntKind.i64 (IntKind.wrap IntKind.i64 (↑(BitVec.toNat (BitVec.ofInt (64 : Nat) x3 ||| BitVec.ofInt (64 : Nat) (Prod.fst y0))) : Int) - x1)))]?) fun y3 =>
            some (.inl ((y3, (0 : Int), x4, x5, Prod.fst (Prod.snd y0), Prod.fst (Prod.snd (Prod.snd y0)), Prod.snd (Prod.snd (Prod.snd y0)), x9)))) (
            none)) (
          iteP (within x2 (16 : Nat)) (
            Option.bind (x4[Int.toNat x2]?) fun y4 =>
            iteP (within x2 (16 : Nat)) (
              Option.bind (x4[Int.toNat x2]?) fun y5 =>
              Option.bind (F44 N (x2, x4, x5, x9)) fun y6 =>
              iteP (decide (IntKind.wrap IntKind.i64 (Int.fdiv (IntKind.wrap IntKind.i64 (IntKind.wrap IntKind.i64 (↑(BitVec.toNat (BitVec.ofInt (64 : Nat) x3 ||| BitVec.ofInt (64 : Nat) (Prod.fst y0))) : Int) * (2 : Int))) (2 : Int) - Int.fdiv (IntKind.wrap IntKind.i64 (IntKind.wrap IntKind.i64 (x1 + y5) * (2 : Int))) (2 : Int)) ≥ Prod.fst y6)) (
                some (.inl (((0 : Int), (3 : Int), Prod.fst (Prod.snd y6), Prod.fst (Prod.snd (Prod.snd y6)), Prod.fst (Prod.snd y0), Prod.fst (Prod.snd (Prod.snd y0)), Prod.snd (Prod.snd (Prod.snd y0)), Prod.snd (Prod.snd (Prod.snd y6)))))) (
                Option.bind (f (IntKind.wrap IntKind.i64 (x0 + y4), IntKind.wrap IntKind.i64 (IntKind.wrap IntKind.i64 (x1 + y5) * (2 : Int)), IntKind.wrap IntKind.i64 (x2 + (1 : Int)), IntKind.wrap IntKind.i64 (IntKind.wrap IntKind.i64 (↑(BitVec.toNat (BitVec.ofInt (64 : Nat) x3 ||| BitVec.ofInt (64 : Nat) (Prod.fst y0))) : Int) * (2 : Int)), Prod.fst (Prod.snd y6), Prod.fst (Prod.snd (Prod.snd y6)), Prod.fst (Prod.snd y0), Prod.fst (Prod.snd (Prod.snd y0)), Prod.snd (Prod.snd (Prod.snd y0)), Prod.snd (Prod.snd (Prod.snd y6)))) fun r => match r with | .inl (y) => some (.inl (y)) | .inr (y) => some (.inr (y)))) (
              none)) (
            none))) (
        none))) (
    some (.inr ((x4, x5, x6, x7, x8, x9))))

noncomputable def F23_58 (N : Nat) : Nat → (Int × Int × Int × Int × (List Int) × Int × ByteArray × Int × Int × (List Int)) → Option (((Int × Int × (List Int) × Int × ByteArray × Int × Int × (List Int)) ⊕ ((List Int) × Int × ByteArray × Int × Int × (List Int))))
  | 0, _ => none
  | k + 1, x => B23_58 N (F23_58 N k) x

noncomputable def C23_58 (N : Nat) (k : Nat) : Cut := ⟨[8, 0, 7, 1, 9, 6], X23_58, tellX I23_58 (F23_58 N k) O23_58⟩

theorem B23_58_eq (N : Nat) (f : (Int × Int × Int × Int × (List Int) × Int × ByteArray × Int × Int × (List Int)) → Option (((Int × Int × (List Int) × Int × ByteArray × Int × Int × (List Int)) ⊕ ((List Int) × Int × ByteArray × Int × Int × (List Int))))) (x0 : Int) (x1 : Int) (x2 : Int) (x3 : Int) (x4 : (List Int)) (x5 : Int) (x6 : ByteArray) (x7 : Int) (x8 : Int) (x9 : (List Int)) : (roundEv (mkE Try.prog ownT (tab23 N) []) Try.f23.ntmps A23 (loopAt (bod Try.f23) 58) 58 ⟨[8, 0, 7, 1, 9, 6], X23_58, tellX I23_58 f O23_58⟩ (J23_58 (x0, x1, x2, x3, x4, x5, x6, x7, x8, x9))).run D23_58 = B23_58 N f (x0, x1, x2, x3, x4, x5, x6, x7, x8, x9) := by kernel_rfl

theorem C23_58_ok (N : Nat) (k : Nat) : ∀ c', At (bod Try.f23) 58 c' → CutOK Try.prog Try.f23.ntmps (idsL A23) c' (C23_58 N k) :=
  loop_ok (E := (mkE Try.prog ownT (tab23 N) [])) (mkE_ok mix (tab23_ok N)) (cutsIn_ok trivial) (fuel := 200) (by decide +kernel) (by kernel_rfl) I23_58_ok D23_58_ok (B23_58 N) (F23_58 N) (fun _ => rfl) (fun _ _ => rfl) (fun f x => match x with | (x0, x1, x2, x3, x4, x5, x6, x7, x8, x9) => B23_58_eq N f x0 x1 x2 x3 x4 x5 x6 x7 x8 x9) k

noncomputable def O23 (r : Int × Int × (List Int) × Int × ByteArray × Int × Int × (List Int)) : Tr (Pk) := .ret ⟨[.tup [.v (.int .i64 (r.1)), .v (.int .i64 (r.2.1))]], [some (.var (.agg [.arr (Ty.int IntKind.i64) 16 (r.2.2.1), .sl 2 (none), .v (.int .i64 (r.2.2.2.1))])), some (.var (.agg [.v (.string (r.2.2.2.2.1)), .v (.int .i64 (r.2.2.2.2.2.1)), .v (.int .i64 (r.2.2.2.2.2.2.1))])), some (.row (Ty.int IntKind.i64) 3 (r.2.2.2.2.2.2.2))]⟩

noncomputable def D23 : Pk → Option (Int × Int × (List Int) × Int × ByteArray × Int × Int × (List Int))
  | ⟨[.tup [.v (.int .i64 x0), .v (.int .i64 x1)]], [some (.var (.agg [.arr (Ty.int IntKind.i64) 16 x2, .sl 2 (none), .v (.int .i64 x3)])), some (.var (.agg [.v (.string x4), .v (.int .i64 x5), .v (.int .i64 x6)])), some (.row (Ty.int IntKind.i64) 3 x7)]⟩ => some ((x0, x1, x2, x3, x4, x5, x6, x7))
  | _ => none

theorem D23_ok : ∀ y r, D23 y = some r → ∀ z, (O23 r).to z → y = z := by
  intro y r h
  unfold D23 at h
  split at h <;> first | (cases h; intro z hz; exact Option.some.inj hz) | cases h

noncomputable def F23 (N : Nat) : ((List Int) × Int × ByteArray × Int × Int × (List Int)) → Option (Int × Int × (List Int) × Int × ByteArray × Int × Int × (List Int))
  | (x0, x1, x2, x3, x4, x5) =>
  Option.bind (F23_58 N N ((0 : Int), (0 : Int), (1 : Int), (0 : Int), x0, x1, x2, x3, x4, x5)) fun y0 =>
  match y0 with
  | .inl y1 =>
    some ((Prod.fst y1, Prod.fst (Prod.snd y1), Prod.fst (Prod.snd (Prod.snd y1)), Prod.fst (Prod.snd (Prod.snd (Prod.snd y1))), Prod.fst (Prod.snd (Prod.snd (Prod.snd (Prod.snd y1)))), Prod.fst (Prod.snd (Prod.snd (Prod.snd (Prod.snd (Prod.snd y1))))), Prod.fst (Prod.snd (Prod.snd (Prod.snd (Prod.snd (Prod.snd (Prod.snd y1)))))), Prod.snd (Prod.snd (Prod.snd (Prod.snd (Prod.snd (Prod.snd (Prod.snd y1))))))))
  | .inr y1 =>
    some (((0 : Int), (3 : Int), Prod.fst y1, Prod.fst (Prod.snd y1), Prod.fst (Prod.snd (Prod.snd y1)), Prod.fst (Prod.snd (Prod.snd (Prod.snd y1))), Prod.fst (Prod.snd (Prod.snd (Prod.snd (Prod.snd y1)))), Prod.snd (Prod.snd (Prod.snd (Prod.snd (Prod.snd y1))))))

theorem F23_eq (N : Nat) (x0 : (List Int)) (x1 : Int) (x2 : ByteArray) (x3 : Int) (x4 : Int) (x5 : (List Int)) : (fnEv (mkE Try.prog ownT (tab23 N) [(58, (C23_58 N N))]) Try.f23 (J23 (x0, x1, x2, x3, x4, x5))).run D23 = F23 N (x0, x1, x2, x3, x4, x5) := by kernel_rfl

noncomputable def T23 (N : Nat) : Pk → Tr Pk := tell I23 (F23 N) O23

theorem T23_ok (N : Nat) : FOK Try.prog 23 (T23 N) :=
  (tell_ok (E := (mkE Try.prog ownT (tab23 N) [(58, (C23_58 N N))])) (mkE_ok mix (tab23_ok N)) Try.func23 (show Try.f23.body = some (bod Try.f23) by kernel_rfl) (by decide +kernel) (F := F23 N) I23_ok D23_ok (args := A23) (fun _ => by kernel_rfl) (fun _ => by show 2 ≤ Try.f23.ntmps; exact of_decide_eq_true (by kernel_rfl)) (cutsIn_ok ⟨fun c' h => (C23_58_ok N N c' h), trivial⟩) (fun x => match x with | (x0, x1, x2, x3, x4, x5) => F23_eq N x0 x1 x2 x3 x4 x5))

/-! ## f11: mirador/miradorlaw05.works -/

noncomputable def I11 : Pk → Option (Unit)
  | ⟨[], []⟩ => some ()
  | _ => none

noncomputable def J11 (x : Unit) : Pk := ⟨[], []⟩

theorem I11_ok : ∀ pk x, I11 pk = some x → pk = J11 x := by
  intro pk x h
  unfold I11 at h
  split at h <;> first | (cases h; rfl) | cases h

noncomputable def A11 : List TV := []

noncomputable def tab11 (N : Nat) : List (Nat × (Pk → Tr Pk)) := [(14, T14 N), (17, T17 N), (12, T12 N), (20, T20 N), (22, T22 N), (23, T23 N)]

theorem tab11_ok (N : Nat) : TabOK Try.prog (tab11 N) := ⟨T14_ok N, ⟨T17_ok N, ⟨T12_ok N, ⟨T20_ok N, ⟨T22_ok N, ⟨T23_ok N, trivial⟩⟩⟩⟩⟩⟩

noncomputable def O11 (r : Bool) : Tr (Pk) := .ret ⟨[.v (.bool (r))], []⟩

noncomputable def D11 : Pk → Option (Bool)
  | ⟨[.v (.bool x0)], []⟩ => some (x0)
  | _ => none

theorem D11_ok : ∀ y r, D11 y = some r → ∀ z, (O11 r).to z → y = z := by
  intro y r h
  unfold D11 at h
  split at h <;> first | (cases h; intro z hz; exact Option.some.inj hz) | cases h

noncomputable def F11 (N : Nat) : (Unit) → Option (Bool)
  | () =>
  Option.bind (F14 N [(3 : Int), (3 : Int), (3 : Int), (3 : Int), (3 : Int), (2 : Int), (4 : Int), (4 : Int)]) fun y0 =>
  Option.bind (F17 N ([(8 : Int), (1 : Int), (1 : Int), (2 : Int)], (15 : Int))) fun y1 =>
  Option.bind (F12 N [(1 : Int), (2 : Int)]) fun y2 =>
  Option.bind (F12 N [(1 : Int), (1 : Int), (1 : Int)]) fun y3 =>
  Option.bind (F20 N [(1 : Int), (2 : Int), (2 : Int)]) fun y4 =>
  match y4 with
  | .inl y5 =>
    iteP ((↑(List.length (Prod.snd y0)) : Int) != (8 : Int)) (
      some (false)) (
      iteP ((↑(List.length (Prod.snd y1)) : Int) != (4 : Int)) (
        some (false)) (
        some (false)))
  | .inr y5 =>
    iteP ((↑(List.length (Prod.snd y0)) : Int) != (8 : Int)) (
      some (false)) (
      iteP ((↑(List.length (Prod.snd y1)) : Int) != (4 : Int)) (
        some (false)) (
        Option.bind (F22 N (ByteArray.mk #[(1 : UInt8)])) fun y6 =>
        Option.bind (F23 N (Prod.fst (Prod.snd y5), Prod.fst (Prod.snd (Prod.snd y5)), Prod.fst y6, Prod.fst (Prod.snd y6), Prod.snd (Prod.snd y6), Prod.snd (Prod.snd (Prod.snd y5)))) fun y7 =>
        iteP (Prod.fst y0 == (0 : Int)) (
          iteP (within (0 : Int) (List.length (Prod.snd y0))) (
            Option.bind ((Prod.snd y0)[(0 : Nat)]?) fun y8 =>
            iteP (Prod.fst y8 == (2 : Int) && (Prod.fst (Prod.snd y8) == (3 : Int) && true)) (
              iteP (within (7 : Int) (List.length (Prod.snd y0))) (
                Option.bind ((Prod.snd y0)[(7 : Nat)]?) fun y9 =>
                iteP (Prod.fst y9 == (15 : Int) && (Prod.fst (Prod.snd y9) == (4 : Int) && true)) (
                  iteP (Prod.fst y1 == (0 : Int)) (
                    iteP (within (0 : Int) (List.length (Prod.snd y1))) (
                      Option.bind ((Prod.snd y1)[(0 : Nat)]?) fun y10 =>
                      iteP (y10 == (1 : Int)) (
                        iteP (within (1 : Int) (List.length (Prod.snd y1))) (
                          Option.bind ((Prod.snd y1)[(1 : Nat)]?) fun y11 =>
                          iteP (y11 == (3 : Int)) (
                            iteP (within (3 : Int) (List.length (Prod.snd y1))) (
                              Option.bind ((Prod.snd y1)[(3 : Nat)]?) fun y12 =>
                              iteP (y12 == (2 : Int)) (
                                iteP (Prod.fst y2 == (8192 : Int)) (
                                  iteP (Prod.snd y2 == (0 : Int)) (
                                    iteP (Prod.snd y3 == (50 : Int)) (
                                      iteP (Prod.fst y5 == (0 : Int)) (
                                        iteP (Prod.fst y7 == (1 : Int)) (
                                          some (Prod.fst (Prod.snd y7) == (0 : Int))) (
                                          some (false))) (
                                        some (false))) (
                                      some (false))) (
                                    some (false))) (
                                  some (false))) (
                                some (false))) (
                              none)) (
                            some (false))) (
                          none)) (
                        some (false))) (
                      none)) (
                    some (false))) (
                  some (false))) (
                none)) (
              some (false))) (
            none)) (
          some (false))))

theorem F11_eq (N : Nat)  : (fnEv (mkE Try.prog ownT (tab11 N) []) Try.f11 (J11 ())).run D11 = F11 N () := by kernel_rfl

noncomputable def T11 (N : Nat) : Pk → Tr Pk := tell I11 (F11 N) O11

theorem T11_ok (N : Nat) : FOK Try.prog 11 (T11 N) :=
  (tell_ok (E := (mkE Try.prog ownT (tab11 N) [])) (mkE_ok mix (tab11_ok N)) Try.func11 (show Try.f11.body = some (bod Try.f11) by kernel_rfl) (by decide +kernel) (F := F11 N) I11_ok D11_ok (args := A11) (fun _ => by kernel_rfl) (fun _ => by show 0 ≤ Try.f11.ntmps; exact of_decide_eq_true (by kernel_rfl)) (cutsIn_ok trivial) (fun x => match x with | () => F11_eq N ))

/-! ## f37: mirador/miradorref05.Power -/

noncomputable def I37 : Pk → Option (Int)
  | ⟨[.v (.int .i64 x0)], []⟩ => some x0
  | _ => none

noncomputable def J37 (x : Int) : Pk := ⟨[.v (.int .i64 (x))], []⟩

theorem I37_ok : ∀ pk x, I37 pk = some x → pk = J37 x := by
  intro pk x h
  unfold I37 at h
  split at h <;> first | (cases h; rfl) | cases h

noncomputable def A37 : List TV := []

noncomputable def tab37 (N : Nat) : List (Nat × (Pk → Tr Pk)) := []

theorem tab37_ok (N : Nat) : TabOK Try.prog (tab37 N) := trivial

def X37_58 : Ex → List Nat
  | .ret => [2]
  | .exit 0 => [3]
  | _ => []

noncomputable def I37_58 : Pk → Option (Int × Int × Int)
  | ⟨[.v (.int .i64 x0), .v (.int .i64 x1), .v (.int .i64 x2)], []⟩ => some (x0, x1, x2)
  | _ => none

noncomputable def J37_58 (x : Int × Int × Int) : Pk := ⟨[.v (.int .i64 (x.1)), .v (.int .i64 (x.2.1)), .v (.int .i64 (x.2.2))], []⟩

theorem I37_58_ok : ∀ pk x, I37_58 pk = some x → pk = J37_58 x := by
  intro pk x h
  unfold I37_58 at h
  split at h <;> first | (cases h; rfl) | cases h

noncomputable def O37_58 (r : Int) : Tr (Ex × Pk) := .ret (.exit 0, ⟨[.v (.int .i64 (r))], []⟩)

noncomputable def D37_58 : Ex × Pk → Option (Int)
  | (.exit 0, ⟨[.v (.int .i64 x0)], []⟩) => some (x0)
  | _ => none

theorem D37_58_ok : ∀ y r, D37_58 y = some r → ∀ z, (O37_58 r).to z → y = z := by
  intro y r h
  unfold D37_58 at h
  split at h <;> first | (cases h; intro z hz; exact Option.some.inj hz) | cases h

noncomputable def B37_58 (N : Nat) (f : (Int × Int × Int) → Option (Int)) : (Int × Int × Int) → Option (Int)
  | (x0, x1, x2) =>
  iteP (decide (x1 < x2)) (
    Option.bind (f (IntKind.wrap IntKind.i64 (x0 * (2 : Int)), IntKind.wrap IntKind.i64 (x1 + (1 : Int)), x2)) fun r => some r) (
    some (x0))

noncomputable def F37_58 (N : Nat) : Nat → (Int × Int × Int) → Option (Int)
  | 0, _ => none
  | k + 1, x => B37_58 N (F37_58 N k) x

noncomputable def C37_58 (N : Nat) (k : Nat) : Cut := ⟨[3, 4, 0], X37_58, tellX I37_58 (F37_58 N k) O37_58⟩

theorem B37_58_eq (N : Nat) (f : (Int × Int × Int) → Option (Int)) (x0 : Int) (x1 : Int) (x2 : Int) : (roundEv (mkE Try.prog ownT (tab37 N) []) Try.f37.ntmps A37 (loopAt (bod Try.f37) 58) 58 ⟨[3, 4, 0], X37_58, tellX I37_58 f O37_58⟩ (J37_58 (x0, x1, x2))).run D37_58 = B37_58 N f (x0, x1, x2) := by kernel_rfl

theorem C37_58_ok (N : Nat) (k : Nat) : ∀ c', At (bod Try.f37) 58 c' → CutOK Try.prog Try.f37.ntmps (idsL A37) c' (C37_58 N k) :=
  loop_ok (E := (mkE Try.prog ownT (tab37 N) [])) (mkE_ok mix (tab37_ok N)) (cutsIn_ok trivial) (fuel := 200) (by decide +kernel) (by kernel_rfl) I37_58_ok D37_58_ok (B37_58 N) (F37_58 N) (fun _ => rfl) (fun _ _ => rfl) (fun f x => match x with | (x0, x1, x2) => B37_58_eq N f x0 x1 x2) k

noncomputable def O37 (r : Int) : Tr (Pk) := .ret ⟨[.v (.int .i64 (r))], []⟩

noncomputable def D37 : Pk → Option (Int)
  | ⟨[.v (.int .i64 x0)], []⟩ => some (x0)
  | _ => none

theorem D37_ok : ∀ y r, D37 y = some r → ∀ z, (O37 r).to z → y = z := by
  intro y r h
  unfold D37 at h
  split at h <;> first | (cases h; intro z hz; exact Option.some.inj hz) | cases h

noncomputable def F37 (N : Nat) : (Int) → Option (Int)
  | x0 =>
  Option.bind (F37_58 N N ((1 : Int), (0 : Int), x0)) fun y0 =>
  some (y0)

theorem F37_eq (N : Nat) (x0 : Int) : (fnEv (mkE Try.prog ownT (tab37 N) [(58, (C37_58 N N))]) Try.f37 (J37 x0)).run D37 = F37 N x0 := by kernel_rfl

noncomputable def T37 (N : Nat) : Pk → Tr Pk := tell I37 (F37 N) O37

theorem T37_ok (N : Nat) : FOK Try.prog 37 (T37 N) :=
  (tell_ok (E := (mkE Try.prog ownT (tab37 N) [(58, (C37_58 N N))])) (mkE_ok mix (tab37_ok N)) Try.func37 (show Try.f37.body = some (bod Try.f37) by kernel_rfl) (by decide +kernel) (F := F37 N) I37_ok D37_ok (args := A37) (fun _ => by kernel_rfl) (fun _ => by show 1 ≤ Try.f37.ntmps; exact of_decide_eq_true (by kernel_rfl)) (cutsIn_ok ⟨fun c' h => (C37_58_ok N N c' h), trivial⟩) (fun x => match x with | x0 => F37_eq N x0))

/-! ## f13: mirador/miradorref05.Check -/

noncomputable def I13 : Pk → Option ((List Int))
  | ⟨[.ro (.int .i64) x0], []⟩ => some x0
  | _ => none

noncomputable def J13 (x : (List Int)) : Pk := ⟨[.ro (.int .i64) (x)], []⟩

theorem I13_ok : ∀ pk x, I13 pk = some x → pk = J13 x := by
  intro pk x h
  unfold I13 at h
  split at h <;> first | (cases h; rfl) | cases h

noncomputable def A13 : List TV := []

noncomputable def tab13 (N : Nat) : List (Nat × (Pk → Tr Pk)) := [(37, T37 N)]

theorem tab13_ok (N : Nat) : TabOK Try.prog (tab13 N) := ⟨T37_ok N, trivial⟩

def X13_122 : Ex → List Nat
  | .ret => [2, 3]
  | .exit 0 => [4]
  | _ => []

noncomputable def I13_122 : Pk → Option ((List Int) × Int × Int)
  | ⟨[.ro (Ty.int IntKind.i64) x0, .v (.int .i64 x1), .v (.int .i64 x2)], []⟩ => some (x0, x1, x2)
  | _ => none

noncomputable def J13_122 (x : (List Int) × Int × Int) : Pk := ⟨[.ro (Ty.int IntKind.i64) (x.1), .v (.int .i64 (x.2.1)), .v (.int .i64 (x.2.2))], []⟩

theorem I13_122_ok : ∀ pk x, I13_122 pk = some x → pk = J13_122 x := by
  intro pk x h
  unfold I13_122 at h
  split at h <;> first | (cases h; rfl) | cases h

noncomputable def O13_122 (r : ((Int × Int) ⊕ (Int))) : Tr (Ex × Pk) := .sum _ _ r (fun u => .ret (.ret, ⟨[.v (.int .i64 (u.1)), .v (.int .i64 (u.2))], []⟩)) (fun v => .ret (.exit 0, ⟨[.v (.int .i64 (v))], []⟩))

noncomputable def D13_122 : Ex × Pk → Option (((Int × Int) ⊕ (Int)))
  | (.ret, ⟨[.v (.int .i64 x0), .v (.int .i64 x1)], []⟩) => some (.inl ((x0, x1)))
  | (.exit 0, ⟨[.v (.int .i64 x0)], []⟩) => some (.inr (x0))
  | _ => none

theorem D13_122_ok : ∀ y r, D13_122 y = some r → ∀ z, (O13_122 r).to z → y = z := by
  intro y r h
  unfold D13_122 at h
  split at h <;> first | (cases h; intro z hz; exact Option.some.inj hz) | cases h

noncomputable def B13_122 (N : Nat) (f : ((List Int) × Int × Int) → Option (((Int × Int) ⊕ (Int)))) : ((List Int) × Int × Int) → Option (((Int × Int) ⊕ (Int)))
  | (x0, x1, x2) =>
  iteP (decide (x1 < (↑(List.length x0) : Int))) (
    iteP (within x1 (List.length x0)) (
      Option.bind (x0[Int.toNat x1]?) fun y0 =>
      iteP (decide (y0 < (0 : Int))) (
        some (.inl (((0 : Int), (50 : Int))))) (
        iteP (within x1 (List.length x0)) (
          Option.bind (x0[Int.toNat x1]?) fun y1 =>
          iteP (decide (y1 > (15 : Int))) (
            some (.inl (((0 : Int), (50 : Int))))) (
            iteP (within x1 (List.length x0)) (
              Option.bind (x0[Int.toNat x1]?) fun y2 =>
              iteP (decide (y2 > (0 : Int))) (
                iteP (within x1 (List.length x0)) (
                  Option.bind (x0[Int.toNat x1]?) fun y3 =>
                  Option.bind (F37 N (IntKind.wrap IntKind.i64 ((15 : Int) - y3))) fun y4 =>
                  Option.bind (f (x0, IntKind.wrap IntKind.i64 (x1 + (1 : Int)), IntKind.wrap IntKind.i64 (x2 - y4))) fun r => match r with | .inl (y) => some (.inl (y)) | .inr (y) => some (.inr (y))) (
                  none)) (
                Option.bind (f (x0, IntKind.wrap IntKind.i64 (x1 + (1 : Int)), x2)) fun r => match r with | .inl (y) => some (.inl (y)) | .inr (y) => some (.inr (y)))) (
              none))) (
          none))) (
      none)) (
    some (.inr (x2)))

noncomputable def F13_122 (N : Nat) : Nat → ((List Int) × Int × Int) → Option (((Int × Int) ⊕ (Int)))
  | 0, _ => none
  | k + 1, x => B13_122 N (F13_122 N k) x

noncomputable def C13_122 (N : Nat) (k : Nat) : Cut := ⟨[0, 5, 4], X13_122, tellX I13_122 (F13_122 N k) O13_122⟩

theorem B13_122_eq (N : Nat) (f : ((List Int) × Int × Int) → Option (((Int × Int) ⊕ (Int)))) (x0 : (List Int)) (x1 : Int) (x2 : Int) : (roundEv (mkE Try.prog ownT (tab13 N) []) Try.f13.ntmps A13 (loopAt (bod Try.f13) 122) 122 ⟨[0, 5, 4], X13_122, tellX I13_122 f O13_122⟩ (J13_122 (x0, x1, x2))).run D13_122 = B13_122 N f (x0, x1, x2) := by kernel_rfl

theorem C13_122_ok (N : Nat) (k : Nat) : ∀ c', At (bod Try.f13) 122 c' → CutOK Try.prog Try.f13.ntmps (idsL A13) c' (C13_122 N k) :=
  loop_ok (E := (mkE Try.prog ownT (tab13 N) [])) (mkE_ok mix (tab13_ok N)) (cutsIn_ok trivial) (fuel := 200) (by decide +kernel) (by kernel_rfl) I13_122_ok D13_122_ok (B13_122 N) (F13_122 N) (fun _ => rfl) (fun _ _ => rfl) (fun f x => match x with | (x0, x1, x2) => B13_122_eq N f x0 x1 x2) k

noncomputable def O13 (r : Int × Int) : Tr (Pk) := .ret ⟨[.tup [.v (.int .i64 (r.1)), .v (.int .i64 (r.2))]], []⟩

noncomputable def D13 : Pk → Option (Int × Int)
  | ⟨[.tup [.v (.int .i64 x0), .v (.int .i64 x1)]], []⟩ => some ((x0, x1))
  | _ => none

theorem D13_ok : ∀ y r, D13 y = some r → ∀ z, (O13 r).to z → y = z := by
  intro y r h
  unfold D13 at h
  split at h <;> first | (cases h; intro z hz; exact Option.some.inj hz) | cases h

noncomputable def F13 (N : Nat) : ((List Int)) → Option (Int × Int)
  | x0 =>
  iteP (decide ((↑(List.length x0) : Int) > (320 : Int))) (
    some (((0 : Int), (50 : Int)))) (
    Option.bind (F13_122 N N (x0, (0 : Int), (32768 : Int))) fun y0 =>
    match y0 with
    | .inl y1 =>
      some ((Prod.fst y1, Prod.snd y1))
    | .inr y1 =>
      iteP (decide (y1 < (0 : Int))) (
        some (((0 : Int), (50 : Int)))) (
        some ((y1, (0 : Int)))))

theorem F13_eq (N : Nat) (x0 : (List Int)) : (fnEv (mkE Try.prog ownT (tab13 N) [(122, (C13_122 N N))]) Try.f13 (J13 x0)).run D13 = F13 N x0 := by kernel_rfl

noncomputable def T13 (N : Nat) : Pk → Tr Pk := tell I13 (F13 N) O13

theorem T13_ok (N : Nat) : FOK Try.prog 13 (T13 N) :=
  (tell_ok (E := (mkE Try.prog ownT (tab13 N) [(122, (C13_122 N N))])) (mkE_ok mix (tab13_ok N)) Try.func13 (show Try.f13.body = some (bod Try.f13) by kernel_rfl) (by decide +kernel) (F := F13 N) I13_ok D13_ok (args := A13) (fun _ => by kernel_rfl) (fun _ => by show 1 ≤ Try.f13.ntmps; exact of_decide_eq_true (by kernel_rfl)) (cutsIn_ok ⟨fun c' h => (C13_122_ok N N c' h), trivial⟩) (fun x => match x with | x0 => F13_eq N x0))

/-! ## f16: mirador/miradorref05.Codes -/

noncomputable def I16 : Pk → Option ((List Int))
  | ⟨[.ro (.int .i64) x0], []⟩ => some x0
  | _ => none

noncomputable def J16 (x : (List Int)) : Pk := ⟨[.ro (.int .i64) (x)], []⟩

theorem I16_ok : ∀ pk x, I16 pk = some x → pk = J16 x := by
  intro pk x h
  unfold I16 at h
  split at h <;> first | (cases h; rfl) | cases h

noncomputable def A16 : List TV := []

noncomputable def tab16 (N : Nat) : List (Nat × (Pk → Tr Pk)) := []

theorem tab16_ok (N : Nat) : TabOK Try.prog (tab16 N) := trivial

def X16_15654 : Ex → List Nat
  | .ret => [2]
  | .exit 2 => [5, 4, 0, 3]
  | .exit 1 => [5, 4, 0, 3]
  | .exit 0 => [3]
  | _ => []

def X16_122 : Ex → List Nat
  | .ret => [2]
  | .exit 0 => [3]
  | _ => []

noncomputable def I16_122 : Pk → Option (Int × (List Int) × Int × (List (Int × (Int × Unit))))
  | ⟨[.v (.int .i64 x0), .ro (Ty.int IntKind.i64) x1, .sl 0 (none), .v (.int .i64 x2)], [some (.row (Ty.cons (Ty.int IntKind.i64) (Ty.cons (Ty.int IntKind.i64) Ty.unit)) 34 x3)]⟩ => some (x0, x1, x2, x3)
  | _ => none

noncomputable def J16_122 (x : Int × (List Int) × Int × (List (Int × (Int × Unit)))) : Pk := ⟨[.v (.int .i64 (x.1)), .ro (Ty.int IntKind.i64) (x.2.1), .sl 0 (none), .v (.int .i64 (x.2.2.1))], [some (.row (Ty.cons (Ty.int IntKind.i64) (Ty.cons (Ty.int IntKind.i64) Ty.unit)) 34 (x.2.2.2))]⟩

theorem I16_122_ok : ∀ pk x, I16_122 pk = some x → pk = J16_122 x := by
  intro pk x h
  unfold I16_122 at h
  split at h <;> first | (cases h; rfl) | cases h

noncomputable def I16_15654 : Pk → Option (Int × Int × (List Int) × Int × (List (Int × (Int × Unit))))
  | ⟨[.v (.int .i64 x0), .v (.int .i64 x1), .ro (Ty.int IntKind.i64) x2, .sl 0 (none), .v (.int .i64 x3)], [some (.row (Ty.cons (Ty.int IntKind.i64) (Ty.cons (Ty.int IntKind.i64) Ty.unit)) 34 x4)]⟩ => some (x0, x1, x2, x3, x4)
  | _ => none

noncomputable def J16_15654 (x : Int × Int × (List Int) × Int × (List (Int × (Int × Unit)))) : Pk := ⟨[.v (.int .i64 (x.1)), .v (.int .i64 (x.2.1)), .ro (Ty.int IntKind.i64) (x.2.2.1), .sl 0 (none), .v (.int .i64 (x.2.2.2.1))], [some (.row (Ty.cons (Ty.int IntKind.i64) (Ty.cons (Ty.int IntKind.i64) Ty.unit)) 34 (x.2.2.2.2))]⟩

theorem I16_15654_ok : ∀ pk x, I16_15654 pk = some x → pk = J16_15654 x := by
  intro pk x h
  unfold I16_15654 at h
  split at h <;> first | (cases h; rfl) | cases h

noncomputable def O16_15654 (r : Int × Int × (List Int) × (List (Int × (Int × Unit)))) : Tr (Ex × Pk) := .ret (.exit 2, ⟨[.v (.int .i64 (r.1)), .v (.int .i64 (r.2.1)), .ro (Ty.int IntKind.i64) (r.2.2.1), .sl 0 (none)], [some (.row (Ty.cons (Ty.int IntKind.i64) (Ty.cons (Ty.int IntKind.i64) Ty.unit)) 34 (r.2.2.2))]⟩)

noncomputable def D16_15654 : Ex × Pk → Option (Int × Int × (List Int) × (List (Int × (Int × Unit))))
  | (.exit 2, ⟨[.v (.int .i64 x0), .v (.int .i64 x1), .ro (Ty.int IntKind.i64) x2, .sl 0 (none)], [some (.row (Ty.cons (Ty.int IntKind.i64) (Ty.cons (Ty.int IntKind.i64) Ty.unit)) 34 x3)]⟩) => some ((x0, x1, x2, x3))
  | _ => none

theorem D16_15654_ok : ∀ y r, D16_15654 y = some r → ∀ z, (O16_15654 r).to z → y = z := by
  intro y r h
  unfold D16_15654 at h
  split at h <;> first | (cases h; intro z hz; exact Option.some.inj hz) | cases h

noncomputable def B16_15654 (N : Nat) (f : (Int × Int × (List Int) × Int × (List (Int × (Int × Unit)))) → Option (Int × Int × (List Int) × (List (Int × (Int × Unit))))) : (Int × Int × (List Int) × Int × (List (Int × (Int × Unit)))) → Option (Int × Int × (List Int) × (List (Int × (Int × Unit))))
  | (x0, x1, x2, x3, x4) =>
  iteP (decide (x1 < (↑(List.length x2) : Int))) (
    iteP (within x1 (List.length x2)) (
      Option.bind (x2[Int.toNat x1]?) fun y0 =>
      iteP (y0 == x3) (
        iteP (within x1 (List.length x4)) (
          Option.bind (x4[Int.toNat x1]?) fun y1 =>
          Option.bind (f (IntKind.wrap IntKind.i64 (x0 + (1 : Int)), IntKind.wrap IntKind.i64 (x1 + (1 : Int)), x2, x3, List.set x4 (Int.toNat x1) (x0, x3, ()))) fun r => some r) (
          none)) (
        Option.bind (f (x0, IntKind.wrap IntKind.i64 (x1 + (1 : Int)), x2, x3, x4)) fun r => some r)) (
      none)) (
    some ((x3, x0, x2, x4)))

noncomputable def F16_15654 (N : Nat) : Nat → (Int × Int × (List Int) × Int × (List (Int × (Int × Unit)))) → Option (Int × Int × (List Int) × (List (Int × (Int × Unit))))
  | 0, _ => none
  | k + 1, x => B16_15654 N (F16_15654 N k) x

noncomputable def C16_15654 (N : Nat) (k : Nat) : Cut := ⟨[4, 6, 0, 3, 5], X16_15654, tellX I16_15654 (F16_15654 N k) O16_15654⟩

theorem B16_15654_eq (N : Nat) (f : (Int × Int × (List Int) × Int × (List (Int × (Int × Unit)))) → Option (Int × Int × (List Int) × (List (Int × (Int × Unit))))) (x0 : Int) (x1 : Int) (x2 : (List Int)) (x3 : Int) (x4 : (List (Int × (Int × Unit)))) : (roundEv (mkE Try.prog ownT (tab16 N) []) Try.f16.ntmps A16 (loopAt (bod Try.f16) 15654) 15654 ⟨[4, 6, 0, 3, 5], X16_15654, tellX I16_15654 f O16_15654⟩ (J16_15654 (x0, x1, x2, x3, x4))).run D16_15654 = B16_15654 N f (x0, x1, x2, x3, x4) := by kernel_rfl

theorem C16_15654_ok (N : Nat) (k : Nat) : ∀ c', At (bod Try.f16) 15654 c' → CutOK Try.prog Try.f16.ntmps (idsL A16) c' (C16_15654 N k) :=
  loop_ok (E := (mkE Try.prog ownT (tab16 N) [])) (mkE_ok mix (tab16_ok N)) (cutsIn_ok trivial) (fuel := 200) (by decide +kernel) (by kernel_rfl) I16_15654_ok D16_15654_ok (B16_15654 N) (F16_15654 N) (fun _ => rfl) (fun _ _ => rfl) (fun f x => match x with | (x0, x1, x2, x3, x4) => B16_15654_eq N f x0 x1 x2 x3 x4) k

noncomputable def O16_122 (r : (List (Int × (Int × Unit)))) : Tr (Ex × Pk) := .ret (.exit 0, ⟨[.sl 0 (none)], [some (.row (Ty.cons (Ty.int IntKind.i64) (Ty.cons (Ty.int IntKind.i64) Ty.unit)) 34 (r))]⟩)

noncomputable def D16_122 : Ex × Pk → Option ((List (Int × (Int × Unit))))
  | (.exit 0, ⟨[.sl 0 (none)], [some (.row (Ty.cons (Ty.int IntKind.i64) (Ty.cons (Ty.int IntKind.i64) Ty.unit)) 34 x0)]⟩) => some (x0)
  | _ => none

theorem D16_122_ok : ∀ y r, D16_122 y = some r → ∀ z, (O16_122 r).to z → y = z := by
  intro y r h
  unfold D16_122 at h
  split at h <;> first | (cases h; intro z hz; exact Option.some.inj hz) | cases h

noncomputable def B16_122 (N : Nat) (f : (Int × (List Int) × Int × (List (Int × (Int × Unit)))) → Option ((List (Int × (Int × Unit))))) : (Int × (List Int) × Int × (List (Int × (Int × Unit)))) → Option ((List (Int × (Int × Unit))))
  | (x0, x1, x2, x3) =>
  iteP (decide (x2 ≤ (15 : Int))) (
    Option.bind (F16_15654 N N (IntKind.wrap IntKind.i64 (x0 * (2 : Int)), (0 : Int), x1, x2, x3)) fun y0 =>
    Option.bind (f (Prod.fst (Prod.snd y0), Prod.fst (Prod.snd (Prod.snd y0)), IntKind.wrap IntKind.i64 (Prod.fst y0 + (1 : Int)), Prod.snd (Prod.snd (Prod.snd y0)))) fun r => some r) (
    some (x3))

noncomputable def F16_122 (N : Nat) : Nat → (Int × (List Int) × Int × (List (Int × (Int × Unit)))) → Option ((List (Int × (Int × Unit))))
  | 0, _ => none
  | k + 1, x => B16_122 N (F16_122 N k) x

noncomputable def C16_122 (N : Nat) (k : Nat) : Cut := ⟨[4, 0, 3, 5], X16_122, tellX I16_122 (F16_122 N k) O16_122⟩

theorem B16_122_eq (N : Nat) (f : (Int × (List Int) × Int × (List (Int × (Int × Unit)))) → Option ((List (Int × (Int × Unit))))) (x0 : Int) (x1 : (List Int)) (x2 : Int) (x3 : (List (Int × (Int × Unit)))) : (roundEv (mkE Try.prog ownT (tab16 N) [(15654, (C16_15654 N N))]) Try.f16.ntmps A16 (loopAt (bod Try.f16) 122) 122 ⟨[4, 0, 3, 5], X16_122, tellX I16_122 f O16_122⟩ (J16_122 (x0, x1, x2, x3))).run D16_122 = B16_122 N f (x0, x1, x2, x3) := by kernel_rfl

theorem C16_122_ok (N : Nat) (k : Nat) : ∀ c', At (bod Try.f16) 122 c' → CutOK Try.prog Try.f16.ntmps (idsL A16) c' (C16_122 N k) :=
  loop_ok (E := (mkE Try.prog ownT (tab16 N) [(15654, (C16_15654 N N))])) (mkE_ok mix (tab16_ok N)) (cutsIn_ok ⟨fun c' h => (C16_15654_ok N N c' h), trivial⟩) (fuel := 200) (by decide +kernel) (by kernel_rfl) I16_122_ok D16_122_ok (B16_122 N) (F16_122 N) (fun _ => rfl) (fun _ _ => rfl) (fun f x => match x with | (x0, x1, x2, x3) => B16_122_eq N f x0 x1 x2 x3) k

noncomputable def O16 (r : (List (Int × (Int × Unit)))) : Tr (Pk) := .ret ⟨[.sl 0 (none)], [some (.row (Ty.cons (Ty.int IntKind.i64) (Ty.cons (Ty.int IntKind.i64) Ty.unit)) 34 (r))]⟩

noncomputable def D16 : Pk → Option ((List (Int × (Int × Unit))))
  | ⟨[.sl 0 (none)], [some (.row (Ty.cons (Ty.int IntKind.i64) (Ty.cons (Ty.int IntKind.i64) Ty.unit)) 34 x0)]⟩ => some (x0)
  | _ => none

theorem D16_ok : ∀ y r, D16 y = some r → ∀ z, (O16 r).to z → y = z := by
  intro y r h
  unfold D16 at h
  split at h <;> first | (cases h; intro z hz; exact Option.some.inj hz) | cases h

noncomputable def F16 (N : Nat) : ((List Int)) → Option ((List (Int × (Int × Unit))))
  | x0 =>
  iteP (decide ((0 : Int) ≤ (↑(List.length x0) : Int) ∧ (↑(List.length x0) : Int) ≤ (↑(List.length x0) : Int) ∧ (↑(List.length x0) : Int) * (16 : Int) ≤ (140737488355328 : Int) ∧ (↑(List.length x0) : Int) ≤ (140737488355328 : Int))) (
    Option.bind (F16_122 N N ((0 : Int), x0, (1 : Int), List.replicate (Int.toNat (↑(List.length x0) : Int)) ((0 : Int), (0 : Int), ()))) fun y0 =>
    some (y0)) (
    none)

theorem F16_eq (N : Nat) (x0 : (List Int)) : (fnEv (mkE Try.prog ownT (tab16 N) [(15654, (C16_15654 N N)), (122, (C16_122 N N))]) Try.f16 (J16 x0)).run D16 = F16 N x0 := by kernel_rfl

noncomputable def T16 (N : Nat) : Pk → Tr Pk := tell I16 (F16 N) O16

theorem T16_ok (N : Nat) : FOK Try.prog 16 (T16 N) :=
  (tell_ok (E := (mkE Try.prog ownT (tab16 N) [(15654, (C16_15654 N N)), (122, (C16_122 N N))])) (mkE_ok mix (tab16_ok N)) Try.func16 (show Try.f16.body = some (bod Try.f16) by kernel_rfl) (by decide +kernel) (F := F16 N) I16_ok D16_ok (args := A16) (fun _ => by kernel_rfl) (fun _ => by show 1 ≤ Try.f16.ntmps; exact of_decide_eq_true (by kernel_rfl)) (cutsIn_ok ⟨fun c' h => (C16_15654_ok N N c' h), ⟨fun c' h => (C16_122_ok N N c' h), trivial⟩⟩) (fun x => match x with | x0 => F16_eq N x0))


end Go.Proofs.Ytpjkklailofkjaa.Am
