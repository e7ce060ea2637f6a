/- The seat's Go functions come to the Lean functions written here, wherever these give an answer (first part). -/
import Derived.Test.YtpjkklailofkjaaAmC
import Derived.KernelRfl
import Derived.Test.YtpjkklailofkjaaProg
set_option linter.unusedVariables false
set_option maxRecDepth 100000
namespace Go.Proofs.Ytpjkklailofkjaa.Am
open Go.Am

theorem mix : Try.prog.follows .mixedOrders = true := by kernel_rfl

def ownT : FuncId → List Nat := ownL [(25, [2]), (27, [2]), (28, [2]), (43, [2]), (51, [1, 0, 0]), (54, [1]), (55, [4, 0]), (69, [3, 0]), (70, [4, 0, 0]), (72, [3, 0]), (73, [2]), (76, [4, 0, 0, 0]), (77, [4, 0, 0, 0, 0]), (79, [4, 0, 0, 0, 0]), (80, [4, 0, 0, 0, 0])]

/-! ## f36: mirador/huffman.counts -/

noncomputable def I36 : Pk → Option ((List Int))
  | ⟨[.ro (.int .i64) x0], []⟩ => some x0
  | _ => none

noncomputable def J36 (x : (List Int)) : Pk := ⟨[.ro (.int .i64) (x)], []⟩

theorem I36_ok : ∀ pk x, I36 pk = some x → pk = J36 x := by
  intro pk x h
  unfold I36 at h
  split at h <;> first | (cases h; rfl) | cases h

noncomputable def A36 : List TV := []

noncomputable def tab36 (N : Nat) : List (Nat × (Pk → Tr Pk)) := []

theorem tab36_ok (N : Nat) : TabOK Try.prog (tab36 N) := trivial

def X36_122 : Ex → List Nat
  | .ret => [2, 3]
  | .exit 0 => [4, 2]
  | _ => []

noncomputable def I36_122 : Pk → Option (Int × (List Int) × Int × (List Int) × (List Int))
  | ⟨[.v (.int .i64 x0), .ro (Ty.int IntKind.i64) x1, .v (.int .i64 x2), .adr 0 [], .adr 1 []], [some (.var (.arr (Ty.int IntKind.i64) 16 x3)), some (.var (.arr (Ty.int IntKind.i64) 16 x4))]⟩ => some (x0, x1, x2, x3, x4)
  | _ => none

noncomputable def J36_122 (x : Int × (List Int) × Int × (List Int) × (List Int)) : Pk := ⟨[.v (.int .i64 (x.1)), .ro (Ty.int IntKind.i64) (x.2.1), .v (.int .i64 (x.2.2.1)), .adr 0 [], .adr 1 []], [some (.var (.arr (Ty.int IntKind.i64) 16 (x.2.2.2.1))), some (.var (.arr (Ty.int IntKind.i64) 16 (x.2.2.2.2)))]⟩

theorem I36_122_ok : ∀ pk x, I36_122 pk = some x → pk = J36_122 x := by
  intro pk x h
  unfold I36_122 at h
  split at h <;> first | (cases h; rfl) | cases h

noncomputable def O36_122 (r : ((Int × (List Int)) ⊕ ((List Int) × (List Int)))) : Tr (Ex × Pk) := .sum _ _ r (fun u => .ret (.ret, ⟨[.adr 0 [], .v (.int .i64 (u.1))], [some (.var (.arr (Ty.int IntKind.i64) 16 (u.2)))]⟩)) (fun v => .ret (.exit 0, ⟨[.adr 0 [], .adr 1 []], [some (.var (.arr (Ty.int IntKind.i64) 16 (v.1))), some (.var (.arr (Ty.int IntKind.i64) 16 (v.2)))]⟩))

noncomputable def D36_122 : Ex × Pk → Option (((Int × (List Int)) ⊕ ((List Int) × (List Int))))
  | (.ret, ⟨[.adr 0 [], .v (.int .i64 x0)], [some (.var (.arr (Ty.int IntKind.i64) 16 x1))]⟩) => some (.inl ((x0, x1)))
  | (.exit 0, ⟨[.adr 0 [], .adr 1 []], [some (.var (.arr (Ty.int IntKind.i64) 16 x0)), some (.var (.arr (Ty.int IntKind.i64) 16 x1))]⟩) => some (.inr ((x0, x1)))
  | _ => none

theorem D36_122_ok : ∀ y r, D36_122 y = some r → ∀ z, (O36_122 r).to z → y = z := by
  intro y r h
  unfold D36_122 at h
  split at h <;> first | (cases h; intro z hz; exact Option.some.inj hz) | cases h

noncomputable def B36_122 (N : Nat) (f : (Int × (List Int) × Int × (List Int) × (List Int)) → Option (((Int × (List Int)) ⊕ ((List Int) × (List Int))))) : (Int × (List Int) × Int × (List Int) × (List Int)) → Option (((Int × (List Int)) ⊕ ((List Int) × (List Int))))
  | (x0, x1, x2, x3, x4) =>
  iteP (decide (x2 < x0)) (
    iteP (within x2 (List.length x1)) (
      Option.bind (x1[Int.toNat x2]?) fun y0 =>
      iteP (decide (y0 < (0 : Int))) (
        some (.inl (((50 : Int), x3)))) (
        iteP (decide (y0 > (15 : Int))) (
          some (.inl (((50 : Int), x3)))) (
          iteP (within y0 (16 : Nat)) (
            Option.bind (x3[Int.toNat y0]?) fun y1 =>
            iteP (within y0 (16 : Nat)) (
              Option.bind (x3[Int.toNat y0]?) fun y2 =>
              Option.bind (f (x0, x1, IntKind.wrap IntKind.i64 (x2 + (1 : Int)), List.set x3 (Int.toNat y0) (IntKind.wrap IntKind.i64 (y1 + (1 : Int))), x4)) fun r => match r with | .inl (y) => some (.inl (y)) | .inr (y) => some (.inr (y))) (
              none)) (
            none)))) (
      none)) (
    some (.inr ((x3, x4))))

noncomputable def F36_122 (N : Nat) : Nat → (Int × (List Int) × Int × (List Int) × (List Int)) → Option (((Int × (List Int)) ⊕ ((List Int) × (List Int))))
  | 0, _ => none
  | k + 1, x => B36_122 N (F36_122 N k) x

noncomputable def C36_122 (N : Nat) (k : Nat) : Cut := ⟨[12, 11, 13, 4, 2], X36_122, tellX I36_122 (F36_122 N k) O36_122⟩

theorem B36_122_eq (N : Nat) (f : (Int × (List Int) × Int × (List Int) × (List Int)) → Option (((Int × (List Int)) ⊕ ((List Int) × (List Int))))) (x0 : Int) (x1 : (List Int)) (x2 : Int) (x3 : (List Int)) (x4 : (List Int)) : (roundEv (mkE Try.prog ownT (tab36 N) []) Try.f36.ntmps A36 (loopAt (bod Try.f36) 122) 122 ⟨[12, 11, 13, 4, 2], X36_122, tellX I36_122 f O36_122⟩ (J36_122 (x0, x1, x2, x3, x4))).run D36_122 = B36_122 N f (x0, x1, x2, x3, x4) := by kernel_rfl

theorem C36_122_ok (N : Nat) (k : Nat) : ∀ c', At (bod Try.f36) 122 c' → CutOK Try.prog Try.f36.ntmps (idsL A36) c' (C36_122 N k) :=
  loop_ok (E := (mkE Try.prog ownT (tab36 N) [])) (mkE_ok mix (tab36_ok N)) (cutsIn_ok trivial) (fuel := 200) (by decide +kernel) (by kernel_rfl) I36_122_ok D36_122_ok (B36_122 N) (F36_122 N) (fun _ => rfl) (fun _ _ => rfl) (fun f x => match x with | (x0, x1, x2, x3, x4) => B36_122_eq N f x0 x1 x2 x3 x4) k

noncomputable def O36 (r : (List Int) × Int) : Tr (Pk) := .ret ⟨[.tup [.arr (Ty.int IntKind.i64) 16 (r.1), .v (.int .i64 (r.2))]], []⟩

noncomputable def D36 : Pk → Option ((List Int) × Int)
  | ⟨[.tup [.arr (Ty.int IntKind.i64) 16 x0, .v (.int .i64 x1)]], []⟩ => some ((x0, x1))
  | _ => none

theorem D36_ok : ∀ y r, D36 y = some r → ∀ z, (O36 r).to z → y = z := by
  intro y r h
  unfold D36 at h
  split at h <;> first | (cases h; intro z hz; exact Option.some.inj hz) | cases h

noncomputable def F36 (N : Nat) : ((List Int)) → Option ((List Int) × Int)
  | x0 =>
  iteP (decide ((↑(List.length x0) : Int) > (320 : Int))) (
    some (([(0 : Int), (0 : Int), (0 : Int), (0 : Int), (0 : Int), (0 : Int), (0 : Int), (0 : Int), (0 : Int), (0 : Int), (0 : Int), (0 : Int), (0 : Int), (0 : Int), (0 : Int), (0 : Int)], (50 : Int)))) (
    Option.bind (F36_122 N N ((↑(List.length x0) : Int), x0, (0 : Int), [(0 : Int), (0 : Int), (0 : Int), (0 : Int), (0 : Int), (0 : Int), (0 : Int), (0 : Int), (0 : Int), (0 : Int), (0 : Int), (0 : Int), (0 : Int), (0 : Int), (0 : Int), (0 : Int)], [(0 : Int), (0 : Int), (0 : Int), (0 : Int), (0 : Int), (0 : Int), (0 : Int), (0 : Int), (0 : Int), (0 : Int), (0 : Int), (0 : Int), (0 : Int), (0 : Int), (0 : Int), (0 : Int)])) fun y0 =>
    match y0 with
    | .inl y1 =>
      some ((Prod.snd y1, Prod.fst y1))
    | .inr y1 =>
      some ((Prod.fst y1, (0 : Int))))

theorem F36_eq (N : Nat) (x0 : (List Int)) : (fnEv (mkE Try.prog ownT (tab36 N) [(122, (C36_122 N N))]) Try.f36 (J36 x0)).run D36 = F36 N x0 := by kernel_rfl

noncomputable def T36 (N : Nat) : Pk → Tr Pk := tell I36 (F36 N) O36

theorem T36_ok (N : Nat) : FOK Try.prog 36 (T36 N) :=
  (tell_ok (E := (mkE Try.prog ownT (tab36 N) [(122, (C36_122 N N))])) (mkE_ok mix (tab36_ok N)) Try.func36 (show Try.f36.body = some (bod Try.f36) by kernel_rfl) (by decide +kernel) (F := F36 N) I36_ok D36_ok (args := A36) (fun _ => by kernel_rfl) (fun _ => by show 1 ≤ Try.f36.ntmps; exact of_decide_eq_true (by kernel_rfl)) (cutsIn_ok ⟨fun c' h => (C36_122_ok N N c' h), trivial⟩) (fun x => match x with | x0 => F36_eq N x0))

/-! ## f12: mirador/huffman.Check -/

noncomputable def I12 : Pk → Option ((List Int))
  | ⟨[.ro (.int .i64) x0], []⟩ => some x0
  | _ => none

noncomputable def J12 (x : (List Int)) : Pk := ⟨[.ro (.int .i64) (x)], []⟩

theorem I12_ok : ∀ pk x, I12 pk = some x → pk = J12 x := by
  intro pk x h
  unfold I12 at h
  split at h <;> first | (cases h; rfl) | cases h

noncomputable def A12 : List TV := []

noncomputable def tab12 (N : Nat) : List (Nat × (Pk → Tr Pk)) := [(36, T36 N)]

theorem tab12_ok (N : Nat) : TabOK Try.prog (tab12 N) := ⟨T36_ok N, trivial⟩

def X12_122 : Ex → List Nat
  | .ret => [2, 3]
  | .exit 0 => [6, 5]
  | _ => []

noncomputable def I12_122 : Pk → Option (Int × Int × Int × (List Int))
  | ⟨[.v (.int .i64 x0), .v (.int .i64 x1), .v (.int .i64 x2), .adr 0 []], [some (.var (.arr (Ty.int IntKind.i64) 16 x3))]⟩ => some (x0, x1, x2, x3)
  | _ => none

noncomputable def J12_122 (x : Int × Int × Int × (List Int)) : Pk := ⟨[.v (.int .i64 (x.1)), .v (.int .i64 (x.2.1)), .v (.int .i64 (x.2.2.1)), .adr 0 []], [some (.var (.arr (Ty.int IntKind.i64) 16 (x.2.2.2)))]⟩

theorem I12_122_ok : ∀ pk x, I12_122 pk = some x → pk = J12_122 x := by
  intro pk x h
  unfold I12_122 at h
  split at h <;> first | (cases h; rfl) | cases h

noncomputable def O12_122 (r : Int × Int) : Tr (Ex × Pk) := .ret (.exit 0, ⟨[.v (.int .i64 (r.1)), .v (.int .i64 (r.2))], []⟩)

noncomputable def D12_122 : Ex × Pk → Option (Int × Int)
  | (.exit 0, ⟨[.v (.int .i64 x0), .v (.int .i64 x1)], []⟩) => some ((x0, x1))
  | _ => none

theorem D12_122_ok : ∀ y r, D12_122 y = some r → ∀ z, (O12_122 r).to z → y = z := by
  intro y r h
  unfold D12_122 at h
  split at h <;> first | (cases h; intro z hz; exact Option.some.inj hz) | cases h

noncomputable def B12_122 (N : Nat) (f : (Int × Int × Int × (List Int)) → Option (Int × Int)) : (Int × Int × Int × (List Int)) → Option (Int × Int)
  | (x0, x1, x2, x3) =>
  iteP (decide (x2 ≤ (15 : Int))) (
    iteP (x1 == (0 : Int)) (
      iteP (within x2 (16 : Nat)) (
        Option.bind (x3[Int.toNat x2]?) fun y0 =>
        iteP (decide (IntKind.wrap IntKind.i64 (IntKind.wrap IntKind.i64 (x0 * (2 : Int)) - y0) < (0 : Int))) (
          Option.bind (f (IntKind.wrap IntKind.i64 (IntKind.wrap IntKind.i64 (x0 * (2 : Int)) - y0), (50 : Int), IntKind.wrap IntKind.i64 (x2 + (1 : Int)), x3)) fun r => some r) (
          Option.bind (f (IntKind.wrap IntKind.i64 (IntKind.wrap IntKind.i64 (x0 * (2 : Int)) - y0), x1, IntKind.wrap IntKind.i64 (x2 + (1 : Int)), x3)) fun r => some r)) (
        none)) (
      some ((x0, x1)))) (
    some ((x0, x1)))

noncomputable def F12_122 (N : Nat) : Nat → (Int × Int × Int × (List Int)) → Option (Int × Int)
  | 0, _ => none
  | k + 1, x => B12_122 N (F12_122 N k) x

noncomputable def C12_122 (N : Nat) (k : Nat) : Cut := ⟨[6, 5, 7, 4], X12_122, tellX I12_122 (F12_122 N k) O12_122⟩

theorem B12_122_eq (N : Nat) (f : (Int × Int × Int × (List Int)) → Option (Int × Int)) (x0 : Int) (x1 : Int) (x2 : Int) (x3 : (List Int)) : (roundEv (mkE Try.prog ownT (tab12 N) []) Try.f12.ntmps A12 (loopAt (bod Try.f12) 122) 122 ⟨[6, 5, 7, 4], X12_122, tellX I12_122 f O12_122⟩ (J12_122 (x0, x1, x2, x3))).run D12_122 = B12_122 N f (x0, x1, x2, x3) := by kernel_rfl

theorem C12_122_ok (N : Nat) (k : Nat) : ∀ c', At (bod Try.f12) 122 c' → CutOK Try.prog Try.f12.ntmps (idsL A12) c' (C12_122 N k) :=
  loop_ok (E := (mkE Try.prog ownT (tab12 N) [])) (mkE_ok mix (tab12_ok N)) (cutsIn_ok trivial) (fuel := 200) (by decide +kernel) (by kernel_rfl) I12_122_ok D12_122_ok (B12_122 N) (F12_122 N) (fun _ => rfl) (fun _ _ => rfl) (fun f x => match x with | (x0, x1, x2, x3) => B12_122_eq N f x0 x1 x2 x3) k

noncomputable def O12 (r : Int × Int) : Tr (Pk) := .ret ⟨[.tup [.v (.int .i64 (r.1)), .v (.int .i64 (r.2))]], []⟩

noncomputable def D12 : Pk → Option (Int × Int)
  | ⟨[.tup [.v (.int .i64 x0), .v (.int .i64 x1)]], []⟩ => some ((x0, x1))
  | _ => none

theorem D12_ok : ∀ y r, D12 y = some r → ∀ z, (O12 r).to z → y = z := by
  intro y r h
  unfold D12 at h
  split at h <;> first | (cases h; intro z hz; exact Option.some.inj hz) | cases h

noncomputable def F12 (N : Nat) : ((List Int)) → Option (Int × Int)
  | x0 =>
  Option.bind (F36 N x0) fun y0 =>
  Option.bind (F12_122 N N ((1 : Int), Prod.snd y0, (1 : Int), Prod.fst y0)) fun y1 =>
  iteP (Prod.snd y1 != (0 : Int)) (
    some (((0 : Int), Prod.snd y1))) (
    some ((Prod.fst y1, (0 : Int))))

theorem F12_eq (N : Nat) (x0 : (List Int)) : (fnEv (mkE Try.prog ownT (tab12 N) [(122, (C12_122 N N))]) Try.f12 (J12 x0)).run D12 = F12 N x0 := by kernel_rfl

noncomputable def T12 (N : Nat) : Pk → Tr Pk := tell I12 (F12 N) O12

theorem T12_ok (N : Nat) : FOK Try.prog 12 (T12 N) :=
  (tell_ok (E := (mkE Try.prog ownT (tab12 N) [(122, (C12_122 N N))])) (mkE_ok mix (tab12_ok N)) Try.func12 (show Try.f12.body = some (bod Try.f12) by kernel_rfl) (by decide +kernel) (F := F12 N) I12_ok D12_ok (args := A12) (fun _ => by kernel_rfl) (fun _ => by show 1 ≤ Try.f12.ntmps; exact of_decide_eq_true (by kernel_rfl)) (cutsIn_ok ⟨fun c' h => (C12_122_ok N N c' h), trivial⟩) (fun x => match x with | x0 => F12_eq N x0))

/-! ## f14: mirador/huffman.Codes -/

noncomputable def I14 : Pk → Option ((List Int))
  | ⟨[.ro (.int .i64) x0], []⟩ => some x0
  | _ => none

noncomputable def J14 (x : (List Int)) : Pk := ⟨[.ro (.int .i64) (x)], []⟩

theorem I14_ok : ∀ pk x, I14 pk = some x → pk = J14 x := by
  intro pk x h
  unfold I14 at h
  split at h <;> first | (cases h; rfl) | cases h

noncomputable def A14 : List TV := []

noncomputable def tab14 (N : Nat) : List (Nat × (Pk → Tr Pk)) := [(12, T12 N), (36, T36 N)]

theorem tab14_ok (N : Nat) : TabOK Try.prog (tab14 N) := ⟨T12_ok N, ⟨T36_ok N, trivial⟩⟩

def X14_250 : Ex → List Nat
  | .ret => [2, 3]
  | .exit 0 => [0, 8]
  | _ => []

def X14_1018 : Ex → List Nat
  | .ret => [2, 3]
  | .exit 2 => [10]
  | _ => []

noncomputable def I14_250 : Pk → Option (Int × (List Int) × (List Int) × (List Int))
  | ⟨[.v (.int .i64 x0), .ro (Ty.int IntKind.i64) x1, .adr 0 [], .adr 1 []], [some (.var (.arr (Ty.int IntKind.i64) 16 x2)), some (.var (.arr (Ty.int IntKind.i64) 16 x3))]⟩ => some (x0, x1, x2, x3)
  | _ => none

noncomputable def J14_250 (x : Int × (List Int) × (List Int) × (List Int)) : Pk := ⟨[.v (.int .i64 (x.1)), .ro (Ty.int IntKind.i64) (x.2.1), .adr 0 [], .adr 1 []], [some (.var (.arr (Ty.int IntKind.i64) 16 (x.2.2.1))), some (.var (.arr (Ty.int IntKind.i64) 16 (x.2.2.2)))]⟩

theorem I14_250_ok : ∀ pk x, I14_250 pk = some x → pk = J14_250 x := by
  intro pk x h
  unfold I14_250 at h
  split at h <;> first | (cases h; rfl) | cases h

noncomputable def O14_250 (r : (List Int) × (List Int)) : Tr (Ex × Pk) := .ret (.exit 0, ⟨[.ro (Ty.int IntKind.i64) (r.1), .adr 0 []], [some (.var (.arr (Ty.int IntKind.i64) 16 (r.2)))]⟩)

noncomputable def D14_250 : Ex × Pk → Option ((List Int) × (List Int))
  | (.exit 0, ⟨[.ro (Ty.int IntKind.i64) x0, .adr 0 []], [some (.var (.arr (Ty.int IntKind.i64) 16 x1))]⟩) => some ((x0, x1))
  | _ => none

theorem D14_250_ok : ∀ y r, D14_250 y = some r → ∀ z, (O14_250 r).to z → y = z := by
  intro y r h
  unfold D14_250 at h
  split at h <;> first | (cases h; intro z hz; exact Option.some.inj hz) | cases h

noncomputable def B14_250 (N : Nat) (f : (Int × (List Int) × (List Int) × (List Int)) → Option ((List Int) × (List Int))) : (Int × (List Int) × (List Int) × (List Int)) → Option ((List Int) × (List Int))
  | (x0, x1, x2, x3) =>
  iteP (decide (x0 < (15 : Int))) (
    iteP (within x0 (16 : Nat)) (
      Option.bind (x3[Int.toNat x0]?) fun y0 =>
      iteP (within x0 (16 : Nat)) (
        Option.bind (x2[Int.toNat x0]?) fun y1 =>
        iteP (within (IntKind.wrap IntKind.i64 (x0 + (1 : Int))) (16 : Nat)) (
          Option.bind (x3[Int.toNat (IntKind.wrap IntKind.i64 (x0 + (1 : Int)))]?) fun y2 =>
          Option.bind (f (IntKind.wrap IntKind.i64 (x0 + (1 : Int)), x1, x2, List.set x3 (Int.toNat (IntKind.wrap IntKind.i64 (x0 + (1 : Int)))) (IntKind.wrap IntKind.i64 (IntKind.wrap IntKind.i64 (y0 + y1) * (2 : Int))))) fun r => some r) (
          none)) (
        none)) (
      none)) (
    some ((x1, x3)))

noncomputable def F14_250 (N : Nat) : Nat → (Int × (List Int) × (List Int) × (List Int)) → Option ((List Int) × (List Int))
  | 0, _ => none
  | k + 1, x => B14_250 N (F14_250 N k) x

noncomputable def C14_250 (N : Nat) (k : Nat) : Cut := ⟨[9, 0, 6, 8], X14_250, tellX I14_250 (F14_250 N k) O14_250⟩

theorem B14_250_eq (N : Nat) (f : (Int × (List Int) × (List Int) × (List Int)) → Option ((List Int) × (List Int))) (x0 : Int) (x1 : (List Int)) (x2 : (List Int)) (x3 : (List Int)) : (roundEv (mkE Try.prog ownT (tab14 N) []) Try.f14.ntmps A14 (loopAt (bod Try.f14) 250) 250 ⟨[9, 0, 6, 8], X14_250, tellX I14_250 f O14_250⟩ (J14_250 (x0, x1, x2, x3))).run D14_250 = B14_250 N f (x0, x1, x2, x3) := by kernel_rfl

theorem C14_250_ok (N : Nat) (k : Nat) : ∀ c', At (bod Try.f14) 250 c' → CutOK Try.prog Try.f14.ntmps (idsL A14) c' (C14_250 N k) :=
  loop_ok (E := (mkE Try.prog ownT (tab14 N) [])) (mkE_ok mix (tab14_ok N)) (cutsIn_ok trivial) (fuel := 200) (by decide +kernel) (by kernel_rfl) I14_250_ok D14_250_ok (B14_250 N) (F14_250 N) (fun _ => rfl) (fun _ _ => rfl) (fun f x => match x with | (x0, x1, x2, x3) => B14_250_eq N f x0 x1 x2 x3) k

noncomputable def I14_1018 : Pk → Option (Int × Int × (List Int) × (List (Int × (Int × Unit))) × (List Int))
  | ⟨[.v (.int .i64 x0), .v (.int .i64 x1), .ro (Ty.int IntKind.i64) x2, .sl 0 (none), .adr 1 []], [some (.row (Ty.cons (Ty.int IntKind.i64) (Ty.cons (Ty.int IntKind.i64) Ty.unit)) 34 x3), some (.var (.arr (Ty.int IntKind.i64) 16 x4))]⟩ => some (x0, x1, x2, x3, x4)
  | _ => none

noncomputable def J14_1018 (x : Int × Int × (List Int) × (List (Int × (Int × Unit))) × (List Int)) : Pk := ⟨[.v (.int .i64 (x.1)), .v (.int .i64 (x.2.1)), .ro (Ty.int IntKind.i64) (x.2.2.1), .sl 0 (none), .adr 1 []], [some (.row (Ty.cons (Ty.int IntKind.i64) (Ty.cons (Ty.int IntKind.i64) Ty.unit)) 34 (x.2.2.2.1)), some (.var (.arr (Ty.int IntKind.i64) 16 (x.2.2.2.2)))]⟩

theorem I14_1018_ok : ∀ pk x, I14_1018 pk = some x → pk = J14_1018 x := by
  intro pk x h
  unfold I14_1018 at h
  split at h <;> first | (cases h; rfl) | cases h

noncomputable def O14_1018 (r : (List (Int × (Int × Unit)))) : Tr (Ex × Pk) := .ret (.exit 2, ⟨[.sl 0 (none)], [some (.row (Ty.cons (Ty.int IntKind.i64) (Ty.cons (Ty.int IntKind.i64) Ty.unit)) 34 (r))]⟩)

noncomputable def D14_1018 : Ex × Pk → Option ((List (Int × (Int × Unit))))
  | (.exit 2, ⟨[.sl 0 (none)], [some (.row (Ty.cons (Ty.int IntKind.i64) (Ty.cons (Ty.int IntKind.i64) Ty.unit)) 34 x0)]⟩) => some (x0)
  | _ => none

theorem D14_1018_ok : ∀ y r, D14_1018 y = some r → ∀ z, (O14_1018 r).to z → y = z := by
  intro y r h
  unfold D14_1018 at h
  split at h <;> first | (cases h; intro z hz; exact Option.some.inj hz) | cases h

noncomputable def B14_1018 (N : Nat) (f : (Int × Int × (List Int) × (List (Int × (Int × Unit))) × (List Int)) → Option ((List (Int × (Int × Unit))))) : (Int × Int × (List Int) × (List (Int × (Int × Unit))) × (List Int)) → Option ((List (Int × (Int × Unit))))
  | (x0, x1, x2, x3, x4) =>
  iteP (decide (x0 < x1)) (
    iteP (within x0 (List.length x2)) (
      Option.bind (x2[Int.toNat x0]?) fun y0 =>
      iteP (decide (y0 > (0 : Int))) (
        iteP (within y0 (16 : Nat)) (
          Option.bind (x4[Int.toNat y0]?) fun y1 =>
          iteP (within x0 (List.length x3)) (
            Option.bind (x3[Int.toNat x0]?) fun y2 =>
            iteP (within y0 (16 : Nat)) (
              Option.bind (x4[Int.toNat y0]?) fun y3 =>
              iteP (within y0 (16 : Nat)) (
                Option.bind (x4[Int.toNat y0]?) fun y4 =>
                Option.bind (f (IntKind.wrap IntKind.i64 (x0 + (1 : Int)), x1, x2, List.set x3 (Int.toNat x0) (y1, y0, ()), List.set x4 (Int.toNat y0) (IntKind.wrap IntKind.i64 (y3 + (1 : Int))))) fun r => some r) (
                none)) (
              none)) (
            none)) (
          none)) (
        Option.bind (f (IntKind.wrap IntKind.i64 (x0 + (1 : Int)), x1, x2, x3, x4)) fun r => some r)) (
      none)) (
    some (x3))

noncomputable def F14_1018 (N : Nat) : Nat → (Int × Int × (List Int) × (List (Int × (Int × Unit))) × (List Int)) → Option ((List (Int × (Int × Unit))))
  | 0, _ => none
  | k + 1, x => B14_1018 N (F14_1018 N k) x

noncomputable def C14_1018 (N : Nat) (k : Nat) : Cut := ⟨[46, 45, 44, 10, 8], X14_1018, tellX I14_1018 (F14_1018 N k) O14_1018⟩

theorem B14_1018_eq (N : Nat) (f : (Int × Int × (List Int) × (List (Int × (Int × Unit))) × (List Int)) → Option ((List (Int × (Int × Unit))))) (x0 : Int) (x1 : Int) (x2 : (List Int)) (x3 : (List (Int × (Int × Unit)))) (x4 : (List Int)) : (roundEv (mkE Try.prog ownT (tab14 N) [(250, (C14_250 N N))]) Try.f14.ntmps A14 (loopAt (bod Try.f14) 1018) 1018 ⟨[46, 45, 44, 10, 8], X14_1018, tellX I14_1018 f O14_1018⟩ (J14_1018 (x0, x1, x2, x3, x4))).run D14_1018 = B14_1018 N f (x0, x1, x2, x3, x4) := by kernel_rfl

theorem C14_1018_ok (N : Nat) (k : Nat) : ∀ c', At (bod Try.f14) 1018 c' → CutOK Try.prog Try.f14.ntmps (idsL A14) c' (C14_1018 N k) :=
  loop_ok (E := (mkE Try.prog ownT (tab14 N) [(250, (C14_250 N N))])) (mkE_ok mix (tab14_ok N)) (cutsIn_ok ⟨fun c' h => (C14_250_ok N N c' h), trivial⟩) (fuel := 200) (by decide +kernel) (by kernel_rfl) I14_1018_ok D14_1018_ok (B14_1018 N) (F14_1018 N) (fun _ => rfl) (fun _ _ => rfl) (fun f x => match x with | (x0, x1, x2, x3, x4) => B14_1018_eq N f x0 x1 x2 x3 x4) k

noncomputable def O14 (r : Int × (List (Int × (Int × Unit)))) : Tr (Pk) := .ret ⟨[.tup [.sl 0 (none), .v (.int .i64 (r.1))]], [some (.row (Ty.cons (Ty.int IntKind.i64) (Ty.cons (Ty.int IntKind.i64) Ty.unit)) 34 (r.2))]⟩

noncomputable def D14 : Pk → Option (Int × (List (Int × (Int × Unit))))
  | ⟨[.tup [.sl 0 (none), .v (.int .i64 x0)]], [some (.row (Ty.cons (Ty.int IntKind.i64) (Ty.cons (Ty.int IntKind.i64) Ty.unit)) 34 x1)]⟩ => some ((x0, x1))
  | _ => none

theorem D14_ok : ∀ y r, D14 y = some r → ∀ z, (O14 r).to z → y = z := by
  intro y r h
  unfold D14 at h
  split at h <;> first | (cases h; intro z hz; exact Option.some.inj hz) | cases h

noncomputable def F14 (N : Nat) : ((List Int)) → Option (Int × (List (Int × (Int × Unit))))
  | x0 =>
  Option.bind (F12 N x0) fun y0 =>
  iteP (Prod.snd y0 != (0 : Int)) (
    some ((Prod.snd y0, []))) (
    Option.bind (F36 N x0) fun y1 =>
    Option.bind (F14_250 N N ((1 : Int), x0, Prod.fst y1, [(0 : Int), (0 : Int), (0 : Int), (0 : Int), (0 : Int), (0 : Int), (0 : Int), (0 : Int), (0 : Int), (0 : Int), (0 : Int), (0 : Int), (0 : Int), (0 : Int), (0 : Int), (0 : Int)])) fun y2 =>
    iteP (decide ((0 : Int) ≤ (↑(List.length (Prod.fst y2)) : Int) ∧ (↑(List.length (Prod.fst y2)) : Int) ≤ (↑(List.length (Prod.fst y2)) : Int) ∧ (↑(List.length (Prod.fst y2)) : Int) * (16 : Int) ≤ (140737488355328 : Int) ∧ (↑(List.length (Prod.fst y2)) : Int) ≤ (140737488355328 : Int))) (
      Option.bind (F14_1018 N N ((0 : Int), (↑(List.length (Prod.fst y2)) : Int), Prod.fst y2, List.replicate (Int.toNat (↑(List.length (Prod.fst y2)) : Int)) ((0 : Int), (0 : Int), ()), Prod.snd y2)) fun y3 =>
      some (((0 : Int), y3))) (
      none))

theorem F14_eq (N : Nat) (x0 : (List Int)) : (fnEv (mkE Try.prog ownT (tab14 N) [(250, (C14_250 N N)), (1018, (C14_1018 N N))]) Try.f14 (J14 x0)).run D14 = F14 N x0 := by kernel_rfl

noncomputable def T14 (N : Nat) : Pk → Tr Pk := tell I14 (F14 N) O14

theorem T14_ok (N : Nat) : FOK Try.prog 14 (T14 N) :=
  (tell_ok (E := (mkE Try.prog ownT (tab14 N) [(250, (C14_250 N N)), (1018, (C14_1018 N N))])) (mkE_ok mix (tab14_ok N)) Try.func14 (show Try.f14.body = some (bod Try.f14) by kernel_rfl) (by decide +kernel) (F := F14 N) I14_ok D14_ok (args := A14) (fun _ => by kernel_rfl) (fun _ => by show 1 ≤ Try.f14.ntmps; exact of_decide_eq_true (by kernel_rfl)) (cutsIn_ok ⟨fun c' h => (C14_250_ok N N c' h), ⟨fun c' h => (C14_1018_ok N N c' h), trivial⟩⟩) (fun x => match x with | x0 => F14_eq N x0))

/-! ## f69: slices.Grow[[]mirador/huffman.bundle,mirador/huffman.bundle] -/

noncomputable def I69 : Pk → Option (Int)
  | ⟨[.v (.slice none 0 0), .v (.int .i64 x0)], []⟩ => some x0
  | _ => none

noncomputable def J69 (x : Int) : Pk := ⟨[.v (.slice none 0 0), .v (.int .i64 (x))], []⟩

theorem I69_ok : ∀ pk x, I69 pk = some x → pk = J69 x := by
  intro pk x h
  unfold I69 at h
  split at h <;> first | (cases h; rfl) | cases h

noncomputable def A69 : List TV := []

noncomputable def tab69 (N : Nat) : List (Nat × (Pk → Tr Pk)) := []

theorem tab69_ok (N : Nat) : TabOK Try.prog (tab69 N) := trivial

noncomputable def O69 (r : (((List (Int × ((List Int) × Unit)))) ⊕ ((List (Int × ((List Int) × Unit)))))) : Tr (Pk) := .sum _ _ r (fun u => .ret ⟨[.sl 0 (some ((0, 0)))], [some (.row (Ty.cons (Ty.int IntKind.i64) (Ty.cons (Ty.sl (Ty.int IntKind.i64)) Ty.unit)) 81 (u))]⟩) (fun v => .ret ⟨[.sl 0 (none)], [some (.row (Ty.cons (Ty.int IntKind.i64) (Ty.cons (Ty.sl (Ty.int IntKind.i64)) Ty.unit)) 81 (v))]⟩)

noncomputable def D69 : Pk → Option ((((List (Int × ((List Int) × Unit)))) ⊕ ((List (Int × ((List Int) × Unit))))))
  | ⟨[.sl 0 (some ((0, 0)))], [some (.row (Ty.cons (Ty.int IntKind.i64) (Ty.cons (Ty.sl (Ty.int IntKind.i64)) Ty.unit)) 81 x0)]⟩ => some (.inl (x0))
  | ⟨[.sl 0 (none)], [some (.row (Ty.cons (Ty.int IntKind.i64) (Ty.cons (Ty.sl (Ty.int IntKind.i64)) Ty.unit)) 81 x0)]⟩ => some (.inr (x0))
  | _ => none

theorem D69_ok : ∀ y r, D69 y = some r → ∀ z, (O69 r).to z → y = z := by
  intro y r h
  unfold D69 at h
  split at h <;> first | (cases h; intro z hz; exact Option.some.inj hz) | cases h

noncomputable def F69 (N : Nat) : (Int) → Option ((((List (Int × ((List Int) × Unit)))) ⊕ ((List (Int × ((List Int) × Unit))))))
  | x0 =>
  iteP (decide (x0 < (0 : Int))) (
    none) (
    iteP (decide (IntKind.wrap IntKind.i64 (x0 - (0 : Int)) > (0 : Int))) (
      iteP (decide ((0 : Int) < IntKind.wrap IntKind.i64 (x0 - (0 : Int)) ∧ IntKind.wrap IntKind.i64 (x0 - (0 : Int)) * (32 : Int) ≤ (140737488355328 : Int) ∧ IntKind.wrap IntKind.i64 (x0 - (0 : Int)) ≤ (140737488355328 : Int))) (
        iteP (decide ((0 : Int) ≤ (0 : Int) ∧ (0 : Int) ≤ (↑(List.length (List.replicate (Int.toNat (IntKind.wrap IntKind.i64 (x0 - (0 : Int)))) ((0 : Int), nilT (Ty.den (Ty.int IntKind.i64)), ()))) : Int))) (
          some (.inl (List.replicate (Int.toNat (IntKind.wrap IntKind.i64 (x0 - (0 : Int)))) ((0 : Int), nilT (Ty.den (Ty.int IntKind.i64)), ())))) (
          none)) (
        none)) (
      some (.inr ([]))))

theorem F69_eq (N : Nat) (x0 : Int) : (fnEv (mkE Try.prog ownT (tab69 N) []) Try.f69 (J69 x0)).run D69 = F69 N x0 := by kernel_rfl

noncomputable def T69 (N : Nat) : Pk → Tr Pk := postT (trimP (Ty.cons (Ty.int IntKind.i64) (Ty.cons (Ty.sl (Ty.int IntKind.i64)) (Ty.unit))) 81) (tell I69 (F69 N) O69)

theorem T69_ok (N : Nat) : FOK Try.prog 69 (T69 N) :=
  postT_ok (trimP_ok _ _) (tell_ok (E := (mkE Try.prog ownT (tab69 N) [])) (mkE_ok mix (tab69_ok N)) Try.func69 (show Try.f69.body = some (bod Try.f69) by kernel_rfl) (by decide +kernel) (F := F69 N) I69_ok D69_ok (args := A69) (fun _ => by kernel_rfl) (fun _ => by show 2 ≤ Try.f69.ntmps; exact of_decide_eq_true (by kernel_rfl)) (cutsIn_ok trivial) (fun x => match x with | x0 => F69_eq N x0))

/-! ## f54: slices.Concat[[]mirador/huffman.bundle,mirador/huffman.bundle] -/

noncomputable def I54 : Pk → Option ((List (List (Int × ((List Int) × Unit)))))
  | ⟨[.sl 0 none], [some (.row (.sl (.cons (.int .i64) (.cons (.sl (.int .i64)) .unit))) 77 x0)]⟩ => some x0
  | _ => none

noncomputable def J54 (x : (List (List (Int × ((List Int) × Unit))))) : Pk := ⟨[.sl 0 none], [some (.row (.sl (.cons (.int .i64) (.cons (.sl (.int .i64)) .unit))) 77 (x))]⟩

theorem I54_ok : ∀ pk x, I54 pk = some x → pk = J54 x := by
  intro pk x h
  unfold I54 at h
  split at h <;> first | (cases h; rfl) | cases h

noncomputable def A54 : List TV := []

noncomputable def tab54 (N : Nat) : List (Nat × (Pk → Tr Pk)) := [(69, T69 N)]

theorem tab54_ok (N : Nat) : TabOK Try.prog (tab54 N) := ⟨T69_ok N, trivial⟩

def X54_58 : Ex → List Nat
  | .ret => [2]
  | .exit 0 => [3, 0]
  | _ => []

def X54_250 : Ex → List Nat
  | .ret => [2]
  | .exit 2 => [6]
  | _ => []

noncomputable def I54_58 : Pk → Option (Int × Int × Int × (List (List (Int × ((List Int) × Unit)))))
  | ⟨[.v (.int .i64 x0), .v (.int .i64 x1), .v (.int .i64 x2), .sl 0 (none), .sl 0 (none)], [some (.row (Ty.sl (Ty.cons (Ty.int IntKind.i64) (Ty.cons (Ty.sl (Ty.int IntKind.i64)) Ty.unit))) 77 x3)]⟩ => some (x0, x1, x2, x3)
  | _ => none

noncomputable def J54_58 (x : Int × Int × Int × (List (List (Int × ((List Int) × Unit))))) : Pk := ⟨[.v (.int .i64 (x.1)), .v (.int .i64 (x.2.1)), .v (.int .i64 (x.2.2.1)), .sl 0 (none), .sl 0 (none)], [some (.row (Ty.sl (Ty.cons (Ty.int IntKind.i64) (Ty.cons (Ty.sl (Ty.int IntKind.i64)) Ty.unit))) 77 (x.2.2.2))]⟩

theorem I54_58_ok : ∀ pk x, I54_58 pk = some x → pk = J54_58 x := by
  intro pk x h
  unfold I54_58 at h
  split at h <;> first | (cases h; rfl) | cases h

noncomputable def O54_58 (r : Int × (List (List (Int × ((List Int) × Unit))))) : Tr (Ex × Pk) := .ret (.exit 0, ⟨[.v (.int .i64 (r.1)), .sl 0 (none)], [some (.row (Ty.sl (Ty.cons (Ty.int IntKind.i64) (Ty.cons (Ty.sl (Ty.int IntKind.i64)) Ty.unit))) 77 (r.2))]⟩)

noncomputable def D54_58 : Ex × Pk → Option (Int × (List (List (Int × ((List Int) × Unit)))))
  | (.exit 0, ⟨[.v (.int .i64 x0), .sl 0 (none)], [some (.row (Ty.sl (Ty.cons (Ty.int IntKind.i64) (Ty.cons (Ty.sl (Ty.int IntKind.i64)) Ty.unit))) 77 x1)]⟩) => some ((x0, x1))
  | _ => none

theorem D54_58_ok : ∀ y r, D54_58 y = some r → ∀ z, (O54_58 r).to z → y = z := by
  intro y r h
  unfold D54_58 at h
  split at h <;> first | (cases h; intro z hz; exact Option.some.inj hz) | cases h

noncomputable def B54_58 (N : Nat) (f : (Int × Int × Int × (List (List (Int × ((List Int) × Unit))))) → Option (Int × (List (List (Int × ((List Int) × Unit)))))) : (Int × Int × Int × (List (List (Int × ((List Int) × Unit))))) → Option (Int × (List (List (Int × ((List Int) × Unit)))))
  | (x0, x1, x2, x3) =>
  iteP (decide (x1 < x2)) (
    iteP (within x1 (List.length x3)) (
      Option.bind (x3[Int.toNat x1]?) fun y0 =>
      iteP (decide (IntKind.wrap IntKind.i64 (x0 + (↑(List.length y0) : Int)) < (0 : Int))) (
        none) (
        Option.bind (f (IntKind.wrap IntKind.i64 (x0 + (↑(List.length y0) : Int)), IntKind.wrap IntKind.i64 (x1 + (1 : Int)), x2, x3)) fun r => some r)) (
      none)) (
    some ((x0, x3)))

noncomputable def F54_58 (N : Nat) : Nat → (Int × Int × Int × (List (List (Int × ((List Int) × Unit))))) → Option (Int × (List (List (Int × ((List Int) × Unit)))))
  | 0, _ => none
  | k + 1, x => B54_58 N (F54_58 N k) x

noncomputable def C54_58 (N : Nat) (k : Nat) : Cut := ⟨[3, 11, 10, 0, 9], X54_58, tellX I54_58 (F54_58 N k) O54_58⟩

theorem B54_58_eq (N : Nat) (f : (Int × Int × Int × (List (List (Int × ((List Int) × Unit))))) → Option (Int × (List (List (Int × ((List Int) × Unit)))))) (x0 : Int) (x1 : Int) (x2 : Int) (x3 : (List (List (Int × ((List Int) × Unit))))) : (roundEv (mkE Try.prog ownT (tab54 N) []) Try.f54.ntmps A54 (loopAt (bod Try.f54) 58) 58 ⟨[3, 11, 10, 0, 9], X54_58, tellX I54_58 f O54_58⟩ (J54_58 (x0, x1, x2, x3))).run D54_58 = B54_58 N f (x0, x1, x2, x3) := by kernel_rfl

theorem C54_58_ok (N : Nat) (k : Nat) : ∀ c', At (bod Try.f54) 58 c' → CutOK Try.prog Try.f54.ntmps (idsL A54) c' (C54_58 N k) :=
  loop_ok (E := (mkE Try.prog ownT (tab54 N) [])) (mkE_ok mix (tab54_ok N)) (cutsIn_ok trivial) (fuel := 200) (by decide +kernel) (by kernel_rfl) I54_58_ok D54_58_ok (B54_58 N) (F54_58 N) (fun _ => rfl) (fun _ _ => rfl) (fun f x => match x with | (x0, x1, x2, x3) => B54_58_eq N f x0 x1 x2 x3) k

noncomputable def I54_250 : Pk → Option (Int × Int × (List (Int × ((List Int) × Unit))) × (List (List (Int × ((List Int) × Unit)))))
  | ⟨[.sl 0 (none), .v (.int .i64 x0), .v (.int .i64 x1), .sl 1 (none)], [some (.row (Ty.cons (Ty.int IntKind.i64) (Ty.cons (Ty.sl (Ty.int IntKind.i64)) Ty.unit)) 81 x2), some (.row (Ty.sl (Ty.cons (Ty.int IntKind.i64) (Ty.cons (Ty.sl (Ty.int IntKind.i64)) Ty.unit))) 77 x3)]⟩ => some (x0, x1, x2, x3)
  | _ => none

noncomputable def J54_250 (x : Int × Int × (List (Int × ((List Int) × Unit))) × (List (List (Int × ((List Int) × Unit))))) : Pk := ⟨[.sl 0 (none), .v (.int .i64 (x.1)), .v (.int .i64 (x.2.1)), .sl 1 (none)], [some (.row (Ty.cons (Ty.int IntKind.i64) (Ty.cons (Ty.sl (Ty.int IntKind.i64)) Ty.unit)) 81 (x.2.2.1)), some (.row (Ty.sl (Ty.cons (Ty.int IntKind.i64) (Ty.cons (Ty.sl (Ty.int IntKind.i64)) Ty.unit))) 77 (x.2.2.2))]⟩

theorem I54_250_ok : ∀ pk x, I54_250 pk = some x → pk = J54_250 x := by
  intro pk x h
  unfold I54_250 at h
  split at h <;> first | (cases h; rfl) | cases h

noncomputable def O54_250 (r : (List (Int × ((List Int) × Unit)))) : Tr (Ex × Pk) := .ret (.exit 2, ⟨[.sl 0 (none)], [some (.row (Ty.cons (Ty.int IntKind.i64) (Ty.cons (Ty.sl (Ty.int IntKind.i64)) Ty.unit)) 81 (r))]⟩)

noncomputable def D54_250 : Ex × Pk → Option ((List (Int × ((List Int) × Unit))))
  | (.exit 2, ⟨[.sl 0 (none)], [some (.row (Ty.cons (Ty.int IntKind.i64) (Ty.cons (Ty.sl (Ty.int IntKind.i64)) Ty.unit)) 81 x0)]⟩) => some (x0)
  | _ => none

theorem D54_250_ok : ∀ y r, D54_250 y = some r → ∀ z, (O54_250 r).to z → y = z := by
  intro y r h
  unfold D54_250 at h
  split at h <;> first | (cases h; intro z hz; exact Option.some.inj hz) | cases h

noncomputable def B54_250 (N : Nat) (f : (Int × Int × (List (Int × ((List Int) × Unit))) × (List (List (Int × ((List Int) × Unit))))) → Option ((List (Int × ((List Int) × Unit))))) : (Int × Int × (List (Int × ((List Int) × Unit))) × (List (List (Int × ((List Int) × Unit))))) → Option ((List (Int × ((List Int) × Unit))))
  | (x0, x1, x2, x3) =>
  iteP (decide (x0 < x1)) (
    iteP (within x0 (List.length x3)) (
      Option.bind (x3[Int.toNat x0]?) fun y0 =>
      iteP (decide ((List.length x2 + List.length y0) * (32 : Nat) ≤ (140737488355328 : Nat) ∧ List.length x2 + List.length y0 ≤ (140737488355328 : Nat))) (
        Option.bind (f (IntKind.wrap IntKind.i64 (x0 + (1 : Int)), x1, x2 ++ y0, x3)) fun r => some r) (
        none)) (
      none)) (
    some (x2))

noncomputable def F54_250 (N : Nat) : Nat → (Int × Int × (List (Int × ((List Int) × Unit))) × (List (List (Int × ((List Int) × Unit))))) → Option ((List (Int × ((List Int) × Unit))))
  | 0, _ => none
  | k + 1, x => B54_250 N (F54_250 N k) x

noncomputable def C54_250 (N : Nat) (k : Nat) : Cut := ⟨[6, 27, 26, 25], X54_250, tellX I54_250 (F54_250 N k) O54_250⟩

theorem B54_250_eq (N : Nat) (f : (Int × Int × (List (Int × ((List Int) × Unit))) × (List (List (Int × ((List Int) × Unit))))) → Option ((List (Int × ((List Int) × Unit))))) (x0 : Int) (x1 : Int) (x2 : (List (Int × ((List Int) × Unit)))) (x3 : (List (List (Int × ((List Int) × Unit))))) : (roundEv (mkE Try.prog ownT (tab54 N) [(58, (C54_58 N N))]) Try.f54.ntmps A54 (loopAt (bod Try.f54) 250) 250 ⟨[6, 27, 26, 25], X54_250, tellX I54_250 f O54_250⟩ (J54_250 (x0, x1, x2, x3))).run D54_250 = B54_250 N f (x0, x1, x2, x3) := by kernel_rfl

theorem C54_250_ok (N : Nat) (k : Nat) : ∀ c', At (bod Try.f54) 250 c' → CutOK Try.prog Try.f54.ntmps (idsL A54) c' (C54_250 N k) :=
  loop_ok (E := (mkE Try.prog ownT (tab54 N) [(58, (C54_58 N N))])) (mkE_ok mix (tab54_ok N)) (cutsIn_ok ⟨fun c' h => (C54_58_ok N N c' h), trivial⟩) (fuel := 200) (by decide +kernel) (by kernel_rfl) I54_250_ok D54_250_ok (B54_250 N) (F54_250 N) (fun _ => rfl) (fun _ _ => rfl) (fun f x => match x with | (x0, x1, x2, x3) => B54_250_eq N f x0 x1 x2 x3) k

noncomputable def O54 (r : (List (Int × ((List Int) × Unit)))) : Tr (Pk) := .ret ⟨[.sl 0 (none)], [some (.row (Ty.cons (Ty.int IntKind.i64) (Ty.cons (Ty.sl (Ty.int IntKind.i64)) Ty.unit)) 81 (r))]⟩

noncomputable def D54 : Pk → Option ((List (Int × ((List Int) × Unit))))
  | ⟨[.sl 0 (none)], [some (.row (Ty.cons (Ty.int IntKind.i64) (Ty.cons (Ty.sl (Ty.int IntKind.i64)) Ty.unit)) 81 x0)]⟩ => some (x0)
  | _ => none

theorem D54_ok : ∀ y r, D54 y = some r → ∀ z, (O54 r).to z → y = z := by
  intro y r h
  unfold D54 at h
  split at h <;> first | (cases h; intro z hz; exact Option.some.inj hz) | cases h

noncomputable def F54 (N : Nat) : ((List (List (Int × ((List Int) × Unit))))) → Option ((List (Int × ((List Int) × Unit))))
  | x0 =>
  Option.bind (F54_58 N N ((0 : Int), (0 : Int), (↑(List.length x0) : Int), x0)) fun y0 =>
  Option.bind (F69 N (Prod.fst y0)) fun y1 =>
  match y1 with
  | .inl y2 =>
    Option.bind (F54_250 N N ((0 : Int), (↑(List.length (Prod.snd y0)) : Int), [], Prod.snd y0)) fun y3 =>
    some (y3)
  | .inr y2 =>
    Option.bind (F54_250 N N ((0 : Int), (↑(List.length (Prod.snd y0)) : Int), y2, Prod.snd y0)) fun y4 =>
    some (y4)

theorem F54_eq (N : Nat) (x0 : (List (List (Int × ((List Int) × Unit))))) : (fnEv (mkE Try.prog ownT (tab54 N) [(58, (C54_58 N N)), (250, (C54_250 N N))]) Try.f54 (J54 x0)).run D54 = F54 N x0 := by kernel_rfl

noncomputable def T54 (N : Nat) : Pk → Tr Pk := tell I54 (F54 N) O54

theorem T54_ok (N : Nat) : FOK Try.prog 54 (T54 N) :=
  (tell_ok (E := (mkE Try.prog ownT (tab54 N) [(58, (C54_58 N N)), (250, (C54_250 N N))])) (mkE_ok mix (tab54_ok N)) Try.func54 (show Try.f54.body = some (bod Try.f54) by kernel_rfl) (by decide +kernel) (F := F54 N) I54_ok D54_ok (args := A54) (fun _ => by kernel_rfl) (fun _ => by show 1 ≤ Try.f54.ntmps; exact of_decide_eq_true (by kernel_rfl)) (cutsIn_ok ⟨fun c' h => (C54_58_ok N N c' h), ⟨fun c' h => (C54_250_ok N N c' h), trivial⟩⟩) (fun x => match x with | x0 => F54_eq N x0))

/-! ## f71: cmp.isNaN[int] -/

noncomputable def I71 : Pk → Option (Int)
  | ⟨[.v (.int .i64 x0)], []⟩ => some x0
  | _ => none

noncomputable def J71 (x : Int) : Pk := ⟨[.v (.int .i64 (x))], []⟩

theorem I71_ok : ∀ pk x, I71 pk = some x → pk = J71 x := by
  intro pk x h
  unfold I71 at h
  split at h <;> first | (cases h; rfl) | cases h

noncomputable def A71 : List TV := []

noncomputable def tab71 (N : Nat) : List (Nat × (Pk → Tr Pk)) := []

theorem tab71_ok (N : Nat) : TabOK Try.prog (tab71 N) := trivial

noncomputable def O71 (r : Bool) : Tr (Pk) := .ret ⟨[.v (.bool (r))], []⟩

noncomputable def D71 : Pk → Option (Bool)
  | ⟨[.v (.bool x0)], []⟩ => some (x0)
  | _ => none

theorem D71_ok : ∀ y r, D71 y = some r → ∀ z, (O71 r).to z → y = z := by
  intro y r h
  unfold D71 at h
  split at h <;> first | (cases h; intro z hz; exact Option.some.inj hz) | cases h

noncomputable def F71 (N : Nat) : (Int) → Option (Bool)
  | x0 =>
  some (x0 != x0)

theorem F71_eq (N : Nat) (x0 : Int) : (fnEv (mkE Try.prog ownT (tab71 N) []) Try.f71 (J71 x0)).run D71 = F71 N x0 := by kernel_rfl

noncomputable def T71 (N : Nat) : Pk → Tr Pk := tell I71 (F71 N) O71

theorem T71_ok (N : Nat) : FOK Try.prog 71 (T71 N) :=
  (tell_ok (E := (mkE Try.prog ownT (tab71 N) [])) (mkE_ok mix (tab71_ok N)) Try.func71 (show Try.f71.body = some (bod Try.f71) by kernel_rfl) (by decide +kernel) (F := F71 N) I71_ok D71_ok (args := A71) (fun _ => by kernel_rfl) (fun _ => by show 1 ≤ Try.f71.ntmps; exact of_decide_eq_true (by kernel_rfl)) (cutsIn_ok trivial) (fun x => match x with | x0 => F71_eq N x0))


end Go.Proofs.Ytpjkklailofkjaa.Am

set_option linter.unusedVariables false
set_option maxRecDepth 100000
namespace Go.Proofs.Ytpjkklailofkjaa.Am
open Go.Am

/-! ## f57: cmp.Compare[int] -/

noncomputable def I57 : Pk → Option (Int × Int)
  | ⟨[.v (.int .i64 x0), .v (.int .i64 x1)], []⟩ => some (x0, x1)
  | _ => none

noncomputable def J57 (x : Int × Int) : Pk := ⟨[.v (.int .i64 (x.1)), .v (.int .i64 (x.2))], []⟩

theorem I57_ok : ∀ pk x, I57 pk = some x → pk = J57 x := by
  intro pk x h
  unfold I57 at h
  split at h <;> first | (cases h; rfl) | cases h

noncomputable def A57 : List TV := []

noncomputable def tab57 (N : Nat) : List (Nat × (Pk → Tr Pk)) := [(71, T71 N)]

theorem tab57_ok (N : Nat) : TabOK Try.prog (tab57 N) := ⟨T71_ok N, trivial⟩

noncomputable def O57 (r : Int) : Tr (Pk) := .ret ⟨[.v (.int .i64 (r))], []⟩

noncomputable def D57 : Pk → Option (Int)
  | ⟨[.v (.int .i64 x0)], []⟩ => some (x0)
  | _ => none

theorem D57_ok : ∀ y r, D57 y = some r → ∀ z, (O57 r).to z → y = z := by
  intro y r h
  unfold D57 at h
  split at h <;> first | (cases h; intro z hz; exact Option.some.inj hz) | cases h

noncomputable def F57 (N : Nat) : (Int × Int) → Option (Int)
  | (x0, x1) =>
  Option.bind (F71 N x0) fun y0 =>
  Option.bind (F71 N x1) fun y1 =>
  iteP (y0) (
    iteP (y1) (
      some ((0 : Int))) (
      some ((-1 : Int)))) (
    iteP (y1) (
      some ((1 : Int))) (
      iteP (decide (x0 < x1)) (
        some ((-1 : Int))) (
        iteP (decide (x0 > x1)) (
          some ((1 : Int))) (
          some ((0 : Int))))))

theorem F57_eq (N : Nat) (x0 : Int) (x1 : Int) : (fnEv (mkE Try.prog ownT (tab57 N) []) Try.f57 (J57 (x0, x1))).run D57 = F57 N (x0, x1) := by kernel_rfl

noncomputable def T57 (N : Nat) : Pk → Tr Pk := tell I57 (F57 N) O57

theorem T57_ok (N : Nat) : FOK Try.prog 57 (T57 N) :=
  (tell_ok (E := (mkE Try.prog ownT (tab57 N) [])) (mkE_ok mix (tab57_ok N)) Try.func57 (show Try.f57.body = some (bod Try.f57) by kernel_rfl) (by decide +kernel) (F := F57 N) I57_ok D57_ok (args := A57) (fun _ => by kernel_rfl) (fun _ => by show 2 ≤ Try.f57.ntmps; exact of_decide_eq_true (by kernel_rfl)) (cutsIn_ok trivial) (fun x => match x with | (x0, x1) => F57_eq N x0 x1))

/-! ## f56: mirador/huffman.merged$1 -/

noncomputable def I56 : Pk → Option (Int × (List Int) × Int × (List Int))
  | ⟨[.agg [.v (.int .i64 x0), .ro (.int .i64) x1], .agg [.v (.int .i64 x2), .ro (.int .i64) x3]], []⟩ => some (x0, x1, x2, x3)
  | _ => none

noncomputable def J56 (x : Int × (List Int) × Int × (List Int)) : Pk := ⟨[.agg [.v (.int .i64 (x.1)), .ro (.int .i64) (x.2.1)], .agg [.v (.int .i64 (x.2.2.1)), .ro (.int .i64) (x.2.2.2)]], []⟩

theorem I56_ok : ∀ pk x, I56 pk = some x → pk = J56 x := by
  intro pk x h
  unfold I56 at h
  split at h <;> first | (cases h; rfl) | cases h

noncomputable def A56 : List TV := []

noncomputable def tab56 (N : Nat) : List (Nat × (Pk → Tr Pk)) := [(57, T57 N)]

theorem tab56_ok (N : Nat) : TabOK Try.prog (tab56 N) := ⟨T57_ok N, trivial⟩

noncomputable def O56 (r : Int) : Tr (Pk) := .ret ⟨[.v (.int .i64 (r))], []⟩

noncomputable def D56 : Pk → Option (Int)
  | ⟨[.v (.int .i64 x0)], []⟩ => some (x0)
  | _ => none

theorem D56_ok : ∀ y r, D56 y = some r → ∀ z, (O56 r).to z → y = z := by
  intro y r h
  unfold D56 at h
  split at h <;> first | (cases h; intro z hz; exact Option.some.inj hz) | cases h

noncomputable def F56 (N : Nat) : (Int × (List Int) × Int × (List Int)) → Option (Int)
  | (x0, x1, x2, x3) =>
  Option.bind (F57 N (x0, x2)) fun y0 =>
  some (y0)

theorem F56_eq (N : Nat) (x0 : Int) (x1 : (List Int)) (x2 : Int) (x3 : (List Int)) : (fnEv (mkE Try.prog ownT (tab56 N) []) Try.f56 (J56 (x0, x1, x2, x3))).run D56 = F56 N (x0, x1, x2, x3) := by kernel_rfl

noncomputable def T56 (N : Nat) : Pk → Tr Pk := tell I56 (F56 N) O56

theorem T56_ok (N : Nat) : FOK Try.prog 56 (T56 N) :=
  (tell_ok (E := (mkE Try.prog ownT (tab56 N) [])) (mkE_ok mix (tab56_ok N)) Try.func56 (show Try.f56.body = some (bod Try.f56) by kernel_rfl) (by decide +kernel) (F := F56 N) I56_ok D56_ok (args := A56) (fun _ => by kernel_rfl) (fun _ => by show 2 ≤ Try.f56.ntmps; exact of_decide_eq_true (by kernel_rfl)) (cutsIn_ok trivial) (fun x => match x with | (x0, x1, x2, x3) => F56_eq N x0 x1 x2 x3))

/-! ## f76a: slices.insertionSortCmpFunc[mirador/huffman.bundle] -/

noncomputable def I76a : Pk → Option (Nat × Nat × Int × Int × (List (Int × ((List Int) × Unit))))
  | ⟨[.sl 0 (some (x0, x1)), .v (.int .i64 x2), .v (.int .i64 x3), .v (.func (.func 56) ⟨[]⟩ ⟨[]⟩)], [some (.row (.cons (.int .i64) (.cons (.sl (.int .i64)) .unit)) 81 x4)]⟩ => some (x0, x1, x2, x3, x4)
  | _ => none

noncomputable def J76a (x : Nat × Nat × Int × Int × (List (Int × ((List Int) × Unit)))) : Pk := ⟨[.sl 0 (some ((x.1), (x.2.1))), .v (.int .i64 (x.2.2.1)), .v (.int .i64 (x.2.2.2.1)), .v (.func (.func 56) ⟨[]⟩ ⟨[]⟩)], [some (.row (.cons (.int .i64) (.cons (.sl (.int .i64)) .unit)) 81 (x.2.2.2.2))]⟩

theorem I76a_ok : ∀ pk x, I76a pk = some x → pk = J76a x := by
  intro pk x h
  unfold I76a at h
  split at h <;> first | (cases h; rfl) | cases h

noncomputable def A76a : List TV := [.adr 0 []]

noncomputable def tab76a (N : Nat) : List (Nat × (Pk → Tr Pk)) := [(56, T56 N)]

theorem tab76a_ok (N : Nat) : TabOK Try.prog (tab76a N) := ⟨T56_ok N, trivial⟩

def X76a_402 : Ex → List Nat
  | .ret => []
  | .exit 2 => [8, 2, 1, 3, 0]
  | .exit 1 => [8, 2, 1, 3, 0]
  | .exit 0 => []
  | _ => []

def X76a_6 : Ex → List Nat
  | .ret => []
  | .exit 0 => []
  | _ => []

noncomputable def I76a_6 : Pk → Option (Int × Int × Int × Nat × Nat × (List (Int × ((List Int) × Unit))))
  | ⟨[.v (.int .i64 x0), .v (.int .i64 x1), .v ((Value.func (Fn.func (56 : FuncId)) (Array.mk []) (Array.mk []))), .v (.int .i64 x2), .sl 0 (some ((x3, x4)))], [some (.row (Ty.cons (Ty.int IntKind.i64) (Ty.cons (Ty.sl (Ty.int IntKind.i64)) Ty.unit)) 81 x5)]⟩ => some (x0, x1, x2, x3, x4, x5)
  | _ => none

noncomputable def J76a_6 (x : Int × Int × Int × Nat × Nat × (List (Int × ((List Int) × Unit)))) : Pk := ⟨[.v (.int .i64 (x.1)), .v (.int .i64 (x.2.1)), .v ((Value.func (Fn.func (56 : FuncId)) (Array.mk []) (Array.mk []))), .v (.int .i64 (x.2.2.1)), .sl 0 (some (((x.2.2.2.1), (x.2.2.2.2.1))))], [some (.row (Ty.cons (Ty.int IntKind.i64) (Ty.cons (Ty.sl (Ty.int IntKind.i64)) Ty.unit)) 81 (x.2.2.2.2.2))]⟩

theorem I76a_6_ok : ∀ pk x, I76a_6 pk = some x → pk = J76a_6 x := by
  intro pk x h
  unfold I76a_6 at h
  split at h <;> first | (cases h; rfl) | cases h

noncomputable def I76a_402 : Pk → Option (Int × Int × Int × Int × Nat × Nat × (List (Int × ((List Int) × Unit))))
  | ⟨[.v (.int .i64 x0), .v ((Value.func (Fn.func (56 : FuncId)) (Array.mk []) (Array.mk []))), .v (.int .i64 x1), .v (.int .i64 x2), .v (.int .i64 x3), .sl 0 (some ((x4, x5)))], [some (.row (Ty.cons (Ty.int IntKind.i64) (Ty.cons (Ty.sl (Ty.int IntKind.i64)) Ty.unit)) 81 x6)]⟩ => some (x0, x1, x2, x3, x4, x5, x6)
  | _ => none

noncomputable def J76a_402 (x : Int × Int × Int × Int × Nat × Nat × (List (Int × ((List Int) × Unit)))) : Pk := ⟨[.v (.int .i64 (x.1)), .v ((Value.func (Fn.func (56 : FuncId)) (Array.mk []) (Array.mk []))), .v (.int .i64 (x.2.1)), .v (.int .i64 (x.2.2.1)), .v (.int .i64 (x.2.2.2.1)), .sl 0 (some (((x.2.2.2.2.1), (x.2.2.2.2.2.1))))], [some (.row (Ty.cons (Ty.int IntKind.i64) (Ty.cons (Ty.sl (Ty.int IntKind.i64)) Ty.unit)) 81 (x.2.2.2.2.2.2))]⟩

theorem I76a_402_ok : ∀ pk x, I76a_402 pk = some x → pk = J76a_402 x := by
  intro pk x h
  unfold I76a_402 at h
  split at h <;> first | (cases h; rfl) | cases h

noncomputable def O76a_402 (r : Int × Int × Int × Nat × Nat × (List (Int × ((List Int) × Unit)))) : Tr (Ex × Pk) := .ret (.exit 2, ⟨[.v (.int .i64 (r.1)), .v (.int .i64 (r.2.1)), .v (.int .i64 (r.2.2.1)), .v ((Value.func (Fn.func (56 : FuncId)) (Array.mk []) (Array.mk []))), .sl 0 (some (((r.2.2.2.1), (r.2.2.2.2.1))))], [some (.row (Ty.cons (Ty.int IntKind.i64) (Ty.cons (Ty.sl (Ty.int IntKind.i64)) Ty.unit)) 81 (r.2.2.2.2.2))]⟩)

noncomputable def D76a_402 : Ex × Pk → Option (Int × Int × Int × Nat × Nat × (List (Int × ((List Int) × Unit))))
  | (.exit 2, ⟨[.v (.int .i64 x0), .v (.int .i64 x1), .v (.int .i64 x2), .v ((Value.func (Fn.func (56 : FuncId)) (Array.mk []) (Array.mk []))), .sl 0 (some ((x3, x4)))], [some (.row (Ty.cons (Ty.int IntKind.i64) (Ty.cons (Ty.sl (Ty.int IntKind.i64)) Ty.unit)) 81 x5)]⟩) => some ((x0, x1, x2, x3, x4, x5))
  | _ => none

theorem D76a_402_ok : ∀ y r, D76a_402 y = some r → ∀ z, (O76a_402 r).to z → y = z := by
  intro y r h
  unfold D76a_402 at h
  split at h <;> first | (cases h; intro z hz; exact Option.some.inj hz) | cases h

noncomputable def B76a_402 (N : Nat) (f : (Int × Int × Int × Int × Nat × Nat × (List (Int × ((List Int) × Unit)))) → Option (Int × Int × Int × Nat × Nat × (List (Int × ((List Int) × Unit))))) : (Int × Int × Int × Int × Nat × Nat × (List (Int × ((List Int) × Unit)))) → Option (Int × Int × Int × Nat × Nat × (List (Int × ((List Int) × Unit))))
  | (x0, x1, x2, x3, x4, x5, x6) =>
  iteP (decide (x0 > x1)) (
    iteP (within x0 x5) (
      Option.bind (x6[x4 + Int.toNat x0]?) fun y0 =>
      iteP (within (IntKind.wrap IntKind.i64 (x0 - (1 : Int))) x5) (
        Option.bind (x6[x4 + Int.toNat (IntKind.wrap IntKind.i64 (x0 - (1 : Int)))]?) fun y1 =>
        Option.bind (F56 N (Prod.fst y0, Prod.fst (Prod.snd y0), Prod.fst y1, Prod.fst (Prod.snd y1))) fun y2 =>
        iteP (decide (y2 < (0 : Int))) (
          iteP (within (IntKind.wrap IntKind.i64 (x0 - (1 : Int))) x5) (
            Option.bind (x6[x4 + Int.toNat (IntKind.wrap IntKind.i64 (x0 - (1 : Int)))]?) fun y3 =>
            iteP (within x0 x5) (
              Option.bind (x6[x4 + Int.toNat x0]?) fun y4 =>
              iteP (within x0 x5) (
                Option.bind (x6[x4 + Int.toNat x0]?) fun y5 =>
                iteP (within (IntKind.wrap IntKind.i64 (x0 - (1 : Int))) x5) (
                  Option.bind ((List.set x6 (x4 + Int.toNat x0) (Prod.fst y3, Prod.fst (Prod.snd y3), ()))[x4 + Int.toNat (IntKind.wrap IntKind.i64 (x0 - (1 : Int)))]?) fun y6 =>
                  Option.bind (f (IntKind.wrap IntKind.i64 (x0 - (1 : Int)), x1, x2, x3, x4, x5, List.set (List.set x6 (x4 + Int.toNat x0) (Prod.fst y3, Prod.fst (Prod.snd y3), ())) (x4 + Int.toNat (IntKind.wrap IntKind.i64 (x0 - (1 : Int)))) (Prod.fst y4, Prod.fst (Prod.snd y4), ()))) fun r => some r) (
                  none)) (
                none)) (
              none)) (
            none)) (
          some ((x3, x2, x1, x4, x5, x6)))) (
        none)) (
      none)) (
    some ((x3, x2, x1, x4, x5, x6)))

noncomputable def F76a_402 (N : Nat) : Nat → (Int × Int × Int × Int × Nat × Nat × (List (Int × ((List Int) × Unit)))) → Option (Int × Int × Int × Nat × Nat × (List (Int × ((List Int) × Unit))))
  | 0, _ => none
  | k + 1, x => B76a_402 N (F76a_402 N k) x

noncomputable def C76a_402 (N : Nat) (k : Nat) : Cut := ⟨[9, 3, 1, 2, 8, 0], X76a_402, tellX I76a_402 (F76a_402 N k) O76a_402⟩

theorem B76a_402_eq (N : Nat) (f : (Int × Int × Int × Int × Nat × Nat × (List (Int × ((List Int) × Unit)))) → Option (Int × Int × Int × Nat × Nat × (List (Int × ((List Int) × Unit))))) (x0 : Int) (x1 : Int) (x2 : Int) (x3 : Int) (x4 : Nat) (x5 : Nat) (x6 : (List (Int × ((List Int) × Unit)))) : (roundEv (mkE Try.prog ownT (tab76a N) []) Try.f76.ntmps A76a (loopAt (bod Try.f76) 402) 402 ⟨[9, 3, 1, 2, 8, 0], X76a_402, tellX I76a_402 f O76a_402⟩ (J76a_402 (x0, x1, x2, x3, x4, x5, x6))).run D76a_402 = B76a_402 N f (x0, x1, x2, x3, x4, x5, x6) := by kernel_rfl

theorem C76a_402_ok (N : Nat) (k : Nat) : ∀ c', At (bod Try.f76) 402 c' → CutOK Try.prog Try.f76.ntmps (idsL A76a) c' (C76a_402 N k) :=
  loop_ok (E := (mkE Try.prog ownT (tab76a N) [])) (mkE_ok mix (tab76a_ok N)) (cutsIn_ok trivial) (fuel := 200) (by decide +kernel) (by kernel_rfl) I76a_402_ok D76a_402_ok (B76a_402 N) (F76a_402 N) (fun _ => rfl) (fun _ _ => rfl) (fun f x => match x with | (x0, x1, x2, x3, x4, x5, x6) => B76a_402_eq N f x0 x1 x2 x3 x4 x5 x6) k

noncomputable def O76a_6 (r : (List (Int × ((List Int) × Unit)))) : Tr (Ex × Pk) := .ret (.exit 0, ⟨[], [some (.row (Ty.cons (Ty.int IntKind.i64) (Ty.cons (Ty.sl (Ty.int IntKind.i64)) Ty.unit)) 81 (r))]⟩)

noncomputable def D76a_6 : Ex × Pk → Option ((List (Int × ((List Int) × Unit))))
  | (.exit 0, ⟨[], [some (.row (Ty.cons (Ty.int IntKind.i64) (Ty.cons (Ty.sl (Ty.int IntKind.i64)) Ty.unit)) 81 x0)]⟩) => some (x0)
  | _ => none

theorem D76a_6_ok : ∀ y r, D76a_6 y = some r → ∀ z, (O76a_6 r).to z → y = z := by
  intro y r h
  unfold D76a_6 at h
  split at h <;> first | (cases h; intro z hz; exact Option.some.inj hz) | cases h

noncomputable def B76a_6 (N : Nat) (f : (Int × Int × Int × Nat × Nat × (List (Int × ((List Int) × Unit)))) → Option ((List (Int × ((List Int) × Unit))))) : (Int × Int × Int × Nat × Nat × (List (Int × ((List Int) × Unit)))) → Option ((List (Int × ((List Int) × Unit))))
  | (x0, x1, x2, x3, x4, x5) =>
  iteP (decide (x2 < x0)) (
    Option.bind (F76a_402 N N (x2, x1, x0, x2, x3, x4, x5)) fun y0 =>
    Option.bind (f (Prod.fst (Prod.snd y0), Prod.fst (Prod.snd (Prod.snd y0)), IntKind.wrap IntKind.i64 (Prod.fst y0 + (1 : Int)), Prod.fst (Prod.snd (Prod.snd (Prod.snd y0))), Prod.fst (Prod.snd (Prod.snd (Prod.snd (Prod.snd y0)))), Prod.snd (Prod.snd (Prod.snd (Prod.snd (Prod.snd y0)))))) fun r => some r) (
    some (x5))

noncomputable def F76a_6 (N : Nat) : Nat → (Int × Int × Int × Nat × Nat × (List (Int × ((List Int) × Unit)))) → Option ((List (Int × ((List Int) × Unit))))
  | 0, _ => none
  | k + 1, x => B76a_6 N (F76a_6 N k) x

noncomputable def C76a_6 (N : Nat) (k : Nat) : Cut := ⟨[2, 1, 3, 8, 0], X76a_6, tellX I76a_6 (F76a_6 N k) O76a_6⟩

theorem B76a_6_eq (N : Nat) (f : (Int × Int × Int × Nat × Nat × (List (Int × ((List Int) × Unit)))) → Option ((List (Int × ((List Int) × Unit))))) (x0 : Int) (x1 : Int) (x2 : Int) (x3 : Nat) (x4 : Nat) (x5 : (List (Int × ((List Int) × Unit)))) : (roundEv (mkE Try.prog ownT (tab76a N) [(402, (C76a_402 N N))]) Try.f76.ntmps A76a (loopAt (bod Try.f76) 6) 6 ⟨[2, 1, 3, 8, 0], X76a_6, tellX I76a_6 f O76a_6⟩ (J76a_6 (x0, x1, x2, x3, x4, x5))).run D76a_6 = B76a_6 N f (x0, x1, x2, x3, x4, x5) := by kernel_rfl

theorem C76a_6_ok (N : Nat) (k : Nat) : ∀ c', At (bod Try.f76) 6 c' → CutOK Try.prog Try.f76.ntmps (idsL A76a) c' (C76a_6 N k) :=
  loop_ok (E := (mkE Try.prog ownT (tab76a N) [(402, (C76a_402 N N))])) (mkE_ok mix (tab76a_ok N)) (cutsIn_ok ⟨fun c' h => (C76a_402_ok N N c' h), trivial⟩) (fuel := 200) (by decide +kernel) (by kernel_rfl) I76a_6_ok D76a_6_ok (B76a_6 N) (F76a_6 N) (fun _ => rfl) (fun _ _ => rfl) (fun f x => match x with | (x0, x1, x2, x3, x4, x5) => B76a_6_eq N f x0 x1 x2 x3 x4 x5) k

noncomputable def O76a (r : (List (Int × ((List Int) × Unit)))) : Tr (Pk) := .ret ⟨[.tup []], [some (.row (Ty.cons (Ty.int IntKind.i64) (Ty.cons (Ty.sl (Ty.int IntKind.i64)) Ty.unit)) 81 (r))]⟩

noncomputable def D76a : Pk → Option ((List (Int × ((List Int) × Unit))))
  | ⟨[.tup []], [some (.row (Ty.cons (Ty.int IntKind.i64) (Ty.cons (Ty.sl (Ty.int IntKind.i64)) Ty.unit)) 81 x0)]⟩ => some (x0)
  | _ => none

theorem D76a_ok : ∀ y r, D76a y = some r → ∀ z, (O76a r).to z → y = z := by
  intro y r h
  unfold D76a at h
  split at h <;> first | (cases h; intro z hz; exact Option.some.inj hz) | cases h

noncomputable def F76a (N : Nat) : (Nat × Nat × Int × Int × (List (Int × ((List Int) × Unit)))) → Option ((List (Int × ((List Int) × Unit))))
  | (x0, x1, x2, x3, x4) =>
  Option.bind (F76a_6 N N (x3, x2, IntKind.wrap IntKind.i64 (x2 + (1 : Int)), x0, x1, x4)) fun y0 =>
  some (y0)

theorem F76a_eq (N : Nat) (x0 : Nat) (x1 : Nat) (x2 : Int) (x3 : Int) (x4 : (List (Int × ((List Int) × Unit)))) : (fnEv (mkE Try.prog ownT (tab76a N) [(402, (C76a_402 N N)), (6, (C76a_6 N N))]) Try.f76 (J76a (x0, x1, x2, x3, x4))).run D76a = F76a N (x0, x1, x2, x3, x4) := by kernel_rfl

noncomputable def V76a (N : Nat) : Pk → Tr Pk := tell I76a (F76a N) O76a

theorem V76a_ok (N : Nat) : FOK Try.prog 76 (V76a N) :=
  (tell_ok (E := (mkE Try.prog ownT (tab76a N) [(402, (C76a_402 N N)), (6, (C76a_6 N N))])) (mkE_ok mix (tab76a_ok N)) Try.func76 (show Try.f76.body = some (bod Try.f76) by kernel_rfl) (by decide +kernel) (F := F76a N) I76a_ok D76a_ok (args := A76a) (fun _ => by kernel_rfl) (fun _ => by show 4 ≤ Try.f76.ntmps; exact of_decide_eq_true (by kernel_rfl)) (cutsIn_ok ⟨fun c' h => (C76a_402_ok N N c' h), ⟨fun c' h => (C76a_6_ok N N c' h), trivial⟩⟩) (fun x => match x with | (x0, x1, x2, x3, x4) => F76a_eq N x0 x1 x2 x3 x4))

noncomputable def T76 (N : Nat) : Pk → Tr Pk := (V76a N)

theorem T76_ok (N : Nat) : FOK Try.prog 76 (T76 N) := (V76a_ok N)

/-! ## f80a: slices.swapRangeCmpFunc[mirador/huffman.bundle] -/

noncomputable def I80a : Pk → Option (Nat × Nat × Int × Int × Int × (List (Int × ((List Int) × Unit))))
  | ⟨[.sl 0 (some (x0, x1)), .v (.int .i64 x2), .v (.int .i64 x3), .v (.int .i64 x4), .v (.func (.func 56) ⟨[]⟩ ⟨[]⟩)], [some (.row (.cons (.int .i64) (.cons (.sl (.int .i64)) .unit)) 81 x5)]⟩ => some (x0, x1, x2, x3, x4, x5)
  | _ => none

noncomputable def J80a (x : Nat × Nat × Int × Int × Int × (List (Int × ((List Int) × Unit)))) : Pk := ⟨[.sl 0 (some ((x.1), (x.2.1))), .v (.int .i64 (x.2.2.1)), .v (.int .i64 (x.2.2.2.1)), .v (.int .i64 (x.2.2.2.2.1)), .v (.func (.func 56) ⟨[]⟩ ⟨[]⟩)], [some (.row (.cons (.int .i64) (.cons (.sl (.int .i64)) .unit)) 81 (x.2.2.2.2.2))]⟩

theorem I80a_ok : ∀ pk x, I80a pk = some x → pk = J80a x := by
  intro pk x h
  unfold I80a at h
  split at h <;> first | (cases h; rfl) | cases h

noncomputable def A80a : List TV := [.adr 0 []]

noncomputable def tab80a (N : Nat) : List (Nat × (Pk → Tr Pk)) := [(56, T56 N)]

theorem tab80a_ok (N : Nat) : TabOK Try.prog (tab80a N) := ⟨T56_ok N, trivial⟩

def X80a_6 : Ex → List Nat
  | .ret => []
  | .exit 0 => []
  | _ => []

noncomputable def I80a_6 : Pk → Option (Int × Int × Int × Nat × Nat × Int × (List (Int × ((List Int) × Unit))))
  | ⟨[.v (.int .i64 x0), .v (.int .i64 x1), .v (.int .i64 x2), .sl 0 (some ((x3, x4))), .v (.int .i64 x5)], [some (.row (Ty.cons (Ty.int IntKind.i64) (Ty.cons (Ty.sl (Ty.int IntKind.i64)) Ty.unit)) 81 x6)]⟩ => some (x0, x1, x2, x3, x4, x5, x6)
  | _ => none

noncomputable def J80a_6 (x : Int × Int × Int × Nat × Nat × Int × (List (Int × ((List Int) × Unit)))) : Pk := ⟨[.v (.int .i64 (x.1)), .v (.int .i64 (x.2.1)), .v (.int .i64 (x.2.2.1)), .sl 0 (some (((x.2.2.2.1), (x.2.2.2.2.1)))), .v (.int .i64 (x.2.2.2.2.2.1))], [some (.row (Ty.cons (Ty.int IntKind.i64) (Ty.cons (Ty.sl (Ty.int IntKind.i64)) Ty.unit)) 81 (x.2.2.2.2.2.2))]⟩

theorem I80a_6_ok : ∀ pk x, I80a_6 pk = some x → pk = J80a_6 x := by
  intro pk x h
  unfold I80a_6 at h
  split at h <;> first | (cases h; rfl) | cases h

noncomputable def O80a_6 (r : (List (Int × ((List Int) × Unit)))) : Tr (Ex × Pk) := .ret (.exit 0, ⟨[], [some (.row (Ty.cons (Ty.int IntKind.i64) (Ty.cons (Ty.sl (Ty.int IntKind.i64)) Ty.unit)) 81 (r))]⟩)

noncomputable def D80a_6 : Ex × Pk → Option ((List (Int × ((List Int) × Unit))))
  | (.exit 0, ⟨[], [some (.row (Ty.cons (Ty.int IntKind.i64) (Ty.cons (Ty.sl (Ty.int IntKind.i64)) Ty.unit)) 81 x0)]⟩) => some (x0)
  | _ => none

theorem D80a_6_ok : ∀ y r, D80a_6 y = some r → ∀ z, (O80a_6 r).to z → y = z := by
  intro y r h
  unfold D80a_6 at h
  split at h <;> first | (cases h; intro z hz; exact Option.some.inj hz) | cases h

noncomputable def B80a_6 (N : Nat) (f : (Int × Int × Int × Nat × Nat × Int × (List (Int × ((List Int) × Unit)))) → Option ((List (Int × ((List Int) × Unit))))) : (Int × Int × Int × Nat × Nat × Int × (List (Int × ((List Int) × Unit)))) → Option ((List (Int × ((List Int) × Unit))))
  | (x0, x1, x2, x3, x4, x5, x6) =>
  iteP (decide (x0 < x1)) (
    iteP (within (IntKind.wrap IntKind.i64 (x2 + x0)) x4) (
      Option.bind (x6[x3 + Int.toNat (IntKind.wrap IntKind.i64 (x2 + x0))]?) fun y0 =>
      iteP (within (IntKind.wrap IntKind.i64 (x5 + x0)) x4) (
        Option.bind (x6[x3 + Int.toNat (IntKind.wrap IntKind.i64 (x5 + x0))]?) fun y1 =>
        iteP (within (IntKind.wrap IntKind.i64 (x5 + x0)) x4) (
          Option.bind (x6[x3 + Int.toNat (IntKind.wrap IntKind.i64 (x5 + x0))]?) fun y2 =>
          iteP (within (IntKind.wrap IntKind.i64 (x2 + x0)) x4) (
            Option.bind ((List.set x6 (x3 + Int.toNat (IntKind.wrap IntKind.i64 (x5 + x0))) (Prod.fst y0, Prod.fst (Prod.snd y0), ()))[x3 + Int.toNat (IntKind.wrap IntKind.i64 (x2 + x0))]?) fun y3 =>
            Option.bind (f (IntKind.wrap IntKind.i64 (x0 + (1 : Int)), x1, x2, x3, x4, x5, List.set (List.set x6 (x3 + Int.toNat (IntKind.wrap IntKind.i64 (x5 + x0))) (Prod.fst y0, Prod.fst (Prod.snd y0), ())) (x3 + Int.toNat (IntKind.wrap IntKind.i64 (x2 + x0))) (Prod.fst y1, Prod.fst (Prod.snd y1), ()))) fun r => some r) (
            none)) (
          none)) (
        none)) (
      none)) (
    some (x6))

noncomputable def F80a_6 (N : Nat) : Nat → (Int × Int × Int × Nat × Nat × Int × (List (Int × ((List Int) × Unit)))) → Option ((List (Int × ((List Int) × Unit))))
  | 0, _ => none
  | k + 1, x => B80a_6 N (F80a_6 N k) x

noncomputable def C80a_6 (N : Nat) (k : Nat) : Cut := ⟨[10, 3, 2, 0, 1], X80a_6, tellX I80a_6 (F80a_6 N k) O80a_6⟩

theorem B80a_6_eq (N : Nat) (f : (Int × Int × Int × Nat × Nat × Int × (List (Int × ((List Int) × Unit)))) → Option ((List (Int × ((List Int) × Unit))))) (x0 : Int) (x1 : Int) (x2 : Int) (x3 : Nat) (x4 : Nat) (x5 : Int) (x6 : (List (Int × ((List Int) × Unit)))) : (roundEv (mkE Try.prog ownT (tab80a N) []) Try.f80.ntmps A80a (loopAt (bod Try.f80) 6) 6 ⟨[10, 3, 2, 0, 1], X80a_6, tellX I80a_6 f O80a_6⟩ (J80a_6 (x0, x1, x2, x3, x4, x5, x6))).run D80a_6 = B80a_6 N f (x0, x1, x2, x3, x4, x5, x6) := by kernel_rfl

theorem C80a_6_ok (N : Nat) (k : Nat) : ∀ c', At (bod Try.f80) 6 c' → CutOK Try.prog Try.f80.ntmps (idsL A80a) c' (C80a_6 N k) :=
  loop_ok (E := (mkE Try.prog ownT (tab80a N) [])) (mkE_ok mix (tab80a_ok N)) (cutsIn_ok trivial) (fuel := 200) (by decide +kernel) (by kernel_rfl) I80a_6_ok D80a_6_ok (B80a_6 N) (F80a_6 N) (fun _ => rfl) (fun _ _ => rfl) (fun f x => match x with | (x0, x1, x2, x3, x4, x5, x6) => B80a_6_eq N f x0 x1 x2 x3 x4 x5 x6) k

noncomputable def O80a (r : (List (Int × ((List Int) × Unit)))) : Tr (Pk) := .ret ⟨[.tup []], [some (.row (Ty.cons (Ty.int IntKind.i64) (Ty.cons (Ty.sl (Ty.int IntKind.i64)) Ty.unit)) 81 (r))]⟩

noncomputable def D80a : Pk → Option ((List (Int × ((List Int) × Unit))))
  | ⟨[.tup []], [some (.row (Ty.cons (Ty.int IntKind.i64) (Ty.cons (Ty.sl (Ty.int IntKind.i64)) Ty.unit)) 81 x0)]⟩ => some (x0)
  | _ => none

theorem D80a_ok : ∀ y r, D80a y = some r → ∀ z, (O80a r).to z → y = z := by
  intro y r h
  unfold D80a at h
  split at h <;> first | (cases h; intro z hz; exact Option.some.inj hz) | cases h

noncomputable def F80a (N : Nat) : (Nat × Nat × Int × Int × Int × (List (Int × ((List Int) × Unit)))) → Option ((List (Int × ((List Int) × Unit))))
  | (x0, x1, x2, x3, x4, x5) =>
  Option.bind (F80a_6 N N ((0 : Int), x4, x3, x0, x1, x2, x5)) fun y0 =>
  some (y0)

theorem F80a_eq (N : Nat) (x0 : Nat) (x1 : Nat) (x2 : Int) (x3 : Int) (x4 : Int) (x5 : (List (Int × ((List Int) × Unit)))) : (fnEv (mkE Try.prog ownT (tab80a N) [(6, (C80a_6 N N))]) Try.f80 (J80a (x0, x1, x2, x3, x4, x5))).run D80a = F80a N (x0, x1, x2, x3, x4, x5) := by kernel_rfl

noncomputable def V80a (N : Nat) : Pk → Tr Pk := tell I80a (F80a N) O80a

theorem V80a_ok (N : Nat) : FOK Try.prog 80 (V80a N) :=
  (tell_ok (E := (mkE Try.prog ownT (tab80a N) [(6, (C80a_6 N N))])) (mkE_ok mix (tab80a_ok N)) Try.func80 (show Try.f80.body = some (bod Try.f80) by kernel_rfl) (by decide +kernel) (F := F80a N) I80a_ok D80a_ok (args := A80a) (fun _ => by kernel_rfl) (fun _ => by show 5 ≤ Try.f80.ntmps; exact of_decide_eq_true (by kernel_rfl)) (cutsIn_ok ⟨fun c' h => (C80a_6_ok N N c' h), trivial⟩) (fun x => match x with | (x0, x1, x2, x3, x4, x5) => F80a_eq N x0 x1 x2 x3 x4 x5))

noncomputable def T80 (N : Nat) : Pk → Tr Pk := (V80a N)

theorem T80_ok (N : Nat) : FOK Try.prog 80 (T80 N) := (V80a_ok N)

/-! ## f79a: slices.rotateCmpFunc[mirador/huffman.bundle] -/

noncomputable def I79a : Pk → Option (Nat × Nat × Int × Int × Int × (List (Int × ((List Int) × Unit))))
  | ⟨[.sl 0 (some (x0, x1)), .v (.int .i64 x2), .v (.int .i64 x3), .v (.int .i64 x4), .v (.func (.func 56) ⟨[]⟩ ⟨[]⟩)], [some (.row (.cons (.int .i64) (.cons (.sl (.int .i64)) .unit)) 81 x5)]⟩ => some (x0, x1, x2, x3, x4, x5)
  | _ => none

noncomputable def J79a (x : Nat × Nat × Int × Int × Int × (List (Int × ((List Int) × Unit)))) : Pk := ⟨[.sl 0 (some ((x.1), (x.2.1))), .v (.int .i64 (x.2.2.1)), .v (.int .i64 (x.2.2.2.1)), .v (.int .i64 (x.2.2.2.2.1)), .v (.func (.func 56) ⟨[]⟩ ⟨[]⟩)], [some (.row (.cons (.int .i64) (.cons (.sl (.int .i64)) .unit)) 81 (x.2.2.2.2.2))]⟩

theorem I79a_ok : ∀ pk x, I79a pk = some x → pk = J79a x := by
  intro pk x h
  unfold I79a at h
  split at h <;> first | (cases h; rfl) | cases h

noncomputable def A79a : List TV := [.adr 0 []]

noncomputable def tab79a (N : Nat) : List (Nat × (Pk → Tr Pk)) := [(80, T80 N), (56, T56 N)]

theorem tab79a_ok (N : Nat) : TabOK Try.prog (tab79a N) := ⟨T80_ok N, ⟨T56_ok N, trivial⟩⟩

def X79a_28 : Ex → List Nat
  | .ret => []
  | .exit 0 => [0, 2, 10, 4]
  | _ => []

noncomputable def I79a_28 : Pk → Option (Int × Nat × Nat × Int × Int × (List (Int × ((List Int) × Unit))))
  | ⟨[.v (.int .i64 x0), .sl 0 (some ((x1, x2))), .v (.int .i64 x3), .v ((Value.func (Fn.func (56 : FuncId)) (Array.mk []) (Array.mk []))), .v (.int .i64 x4)], [some (.row (Ty.cons (Ty.int IntKind.i64) (Ty.cons (Ty.sl (Ty.int IntKind.i64)) Ty.unit)) 81 x5)]⟩ => some (x0, x1, x2, x3, x4, x5)
  | _ => none

noncomputable def J79a_28 (x : Int × Nat × Nat × Int × Int × (List (Int × ((List Int) × Unit)))) : Pk := ⟨[.v (.int .i64 (x.1)), .sl 0 (some (((x.2.1), (x.2.2.1)))), .v (.int .i64 (x.2.2.2.1)), .v ((Value.func (Fn.func (56 : FuncId)) (Array.mk []) (Array.mk []))), .v (.int .i64 (x.2.2.2.2.1))], [some (.row (Ty.cons (Ty.int IntKind.i64) (Ty.cons (Ty.sl (Ty.int IntKind.i64)) Ty.unit)) 81 (x.2.2.2.2.2))]⟩

theorem I79a_28_ok : ∀ pk x, I79a_28 pk = some x → pk = J79a_28 x := by
  intro pk x h
  unfold I79a_28 at h
  split at h <;> first | (cases h; rfl) | cases h

noncomputable def O79a_28 (r : Nat × Nat × Int × Int × (List (Int × ((List Int) × Unit)))) : Tr (Ex × Pk) := .ret (.exit 0, ⟨[.sl 0 (some (((r.1), (r.2.1)))), .v (.int .i64 (r.2.2.1)), .v (.int .i64 (r.2.2.2.1)), .v ((Value.func (Fn.func (56 : FuncId)) (Array.mk []) (Array.mk [])))], [some (.row (Ty.cons (Ty.int IntKind.i64) (Ty.cons (Ty.sl (Ty.int IntKind.i64)) Ty.unit)) 81 (r.2.2.2.2))]⟩)

noncomputable def D79a_28 : Ex × Pk → Option (Nat × Nat × Int × Int × (List (Int × ((List Int) × Unit))))
  | (.exit 0, ⟨[.sl 0 (some ((x0, x1))), .v (.int .i64 x2), .v (.int .i64 x3), .v ((Value.func (Fn.func (56 : FuncId)) (Array.mk []) (Array.mk [])))], [some (.row (Ty.cons (Ty.int IntKind.i64) (Ty.cons (Ty.sl (Ty.int IntKind.i64)) Ty.unit)) 81 x4)]⟩) => some ((x0, x1, x2, x3, x4))
  | _ => none

theorem D79a_28_ok : ∀ y r, D79a_28 y = some r → ∀ z, (O79a_28 r).to z → y = z := by
  intro y r h
  unfold D79a_28 at h
  split at h <;> first | (cases h; intro z hz; exact Option.some.inj hz) | cases h

noncomputable def B79a_28 (N : Nat) (f : (Int × Nat × Nat × Int × Int × (List (Int × ((List Int) × Unit)))) → Option (Nat × Nat × Int × Int × (List (Int × ((List Int) × Unit))))) : (Int × Nat × Nat × Int × Int × (List (Int × ((List Int) × Unit)))) → Option (Nat × Nat × Int × Int × (List (Int × ((List Int) × Unit))))
  | (x0, x1, x2, x3, x4, x5) =>
  iteP (x0 != x4) (
    iteP (decide (x0 > x4)) (
      Option.bind (F80a N (x1, x2, IntKind.wrap IntKind.i64 (x3 - x0), x3, x4, x5)) fun y0 =>
      Option.bind (f (IntKind.wrap IntKind.i64 (x0 - x4), x1, x2, x3, x4, y0)) fun r => some r) (
      Option.bind (F80a N (x1, x2, IntKind.wrap IntKind.i64 (x3 - x0), IntKind.wrap IntKind.i64 (IntKind.wrap IntKind.i64 (x3 + x4) - x0), x0, x5)) fun y1 =>
      Option.bind (f (x0, x1, x2, x3, IntKind.wrap IntKind.i64 (x4 - x0), y1)) fun r => some r)) (
    some ((x1, x2, x3, x0, x5)))

noncomputable def F79a_28 (N : Nat) : Nat → (Int × Nat × Nat × Int × Int × (List (Int × ((List Int) × Unit)))) → Option (Nat × Nat × Int × Int × (List (Int × ((List Int) × Unit))))
  | 0, _ => none
  | k + 1, x => B79a_28 N (F79a_28 N k) x

noncomputable def C79a_28 (N : Nat) (k : Nat) : Cut := ⟨[10, 0, 2, 4, 11], X79a_28, tellX I79a_28 (F79a_28 N k) O79a_28⟩

theorem B79a_28_eq (N : Nat) (f : (Int × Nat × Nat × Int × Int × (List (Int × ((List Int) × Unit)))) → Option (Nat × Nat × Int × Int × (List (Int × ((List Int) × Unit))))) (x0 : Int) (x1 : Nat) (x2 : Nat) (x3 : Int) (x4 : Int) (x5 : (List (Int × ((List Int) × Unit)))) : (roundEv (mkE Try.prog ownT (tab79a N) []) Try.f79.ntmps A79a (loopAt (bod Try.f79) 28) 28 ⟨[10, 0, 2, 4, 11], X79a_28, tellX I79a_28 f O79a_28⟩ (J79a_28 (x0, x1, x2, x3, x4, x5))).run D79a_28 = B79a_28 N f (x0, x1, x2, x3, x4, x5) := by kernel_rfl

theorem C79a_28_ok (N : Nat) (k : Nat) : ∀ c', At (bod Try.f79) 28 c' → CutOK Try.prog Try.f79.ntmps (idsL A79a) c' (C79a_28 N k) :=
  loop_ok (E := (mkE Try.prog ownT (tab79a N) [])) (mkE_ok mix (tab79a_ok N)) (cutsIn_ok trivial) (fuel := 200) (by decide +kernel) (by kernel_rfl) I79a_28_ok D79a_28_ok (B79a_28 N) (F79a_28 N) (fun _ => rfl) (fun _ _ => rfl) (fun f x => match x with | (x0, x1, x2, x3, x4, x5) => B79a_28_eq N f x0 x1 x2 x3 x4 x5) k

noncomputable def O79a (r : (List (Int × ((List Int) × Unit)))) : Tr (Pk) := .ret ⟨[.tup []], [some (.row (Ty.cons (Ty.int IntKind.i64) (Ty.cons (Ty.sl (Ty.int IntKind.i64)) Ty.unit)) 81 (r))]⟩

noncomputable def D79a : Pk → Option ((List (Int × ((List Int) × Unit))))
  | ⟨[.tup []], [some (.row (Ty.cons (Ty.int IntKind.i64) (Ty.cons (Ty.sl (Ty.int IntKind.i64)) Ty.unit)) 81 x0)]⟩ => some (x0)
  | _ => none

theorem D79a_ok : ∀ y r, D79a y = some r → ∀ z, (O79a r).to z → y = z := by
  intro y r h
  unfold D79a at h
  split at h <;> first | (cases h; intro z hz; exact Option.some.inj hz) | cases h

noncomputable def F79a (N : Nat) : (Nat × Nat × Int × Int × Int × (List (Int × ((List Int) × Unit)))) → Option ((List (Int × ((List Int) × Unit))))
  | (x0, x1, x2, x3, x4, x5) =>
  Option.bind (F79a_28 N N (IntKind.wrap IntKind.i64 (x3 - x2), x0, x1, x3, IntKind.wrap IntKind.i64 (x4 - x3), x5)) fun y0 =>
  Option.bind (F80a N (Prod.fst y0, Prod.fst (Prod.snd y0), IntKind.wrap IntKind.i64 (Prod.fst (Prod.snd (Prod.snd y0)) - Prod.fst (Prod.snd (Prod.snd (Prod.snd y0)))), Prod.fst (Prod.snd (Prod.snd y0)), Prod.fst (Prod.snd (Prod.snd (Prod.snd y0))), Prod.snd (Prod.snd (Prod.snd (Prod.snd y0))))) fun y1 =>
  some (y1)

theorem F79a_eq (N : Nat) (x0 : Nat) (x1 : Nat) (x2 : Int) (x3 : Int) (x4 : Int) (x5 : (List (Int × ((List Int) × Unit)))) : (fnEv (mkE Try.prog ownT (tab79a N) [(28, (C79a_28 N N))]) Try.f79 (J79a (x0, x1, x2, x3, x4, x5))).run D79a = F79a N (x0, x1, x2, x3, x4, x5) := by kernel_rfl

noncomputable def V79a (N : Nat) : Pk → Tr Pk := tell I79a (F79a N) O79a

theorem V79a_ok (N : Nat) : FOK Try.prog 79 (V79a N) :=
  (tell_ok (E := (mkE Try.prog ownT (tab79a N) [(28, (C79a_28 N N))])) (mkE_ok mix (tab79a_ok N)) Try.func79 (show Try.f79.body = some (bod Try.f79) by kernel_rfl) (by decide +kernel) (F := F79a N) I79a_ok D79a_ok (args := A79a) (fun _ => by kernel_rfl) (fun _ => by show 5 ≤ Try.f79.ntmps; exact of_decide_eq_true (by kernel_rfl)) (cutsIn_ok ⟨fun c' h => (C79a_28_ok N N c' h), trivial⟩) (fun x => match x with | (x0, x1, x2, x3, x4, x5) => F79a_eq N x0 x1 x2 x3 x4 x5))

noncomputable def T79 (N : Nat) : Pk → Tr Pk := (V79a N)

theorem T79_ok (N : Nat) : FOK Try.prog 79 (T79 N) := (V79a_ok N)


end Go.Proofs.Ytpjkklailofkjaa.Am

set_option linter.unusedVariables false
set_option maxRecDepth 100000
namespace Go.Proofs.Ytpjkklailofkjaa.Am
open Go.Am

/-! ## f77a: slices.symMergeCmpFunc[mirador/huffman.bundle] -/

noncomputable def I77a : Pk → Option (Nat × Nat × Int × Int × Int × (List (Int × ((List Int) × Unit))))
  | ⟨[.sl 0 (some (x0, x1)), .v (.int .i64 x2), .v (.int .i64 x3), .v (.int .i64 x4), .v (.func (.func 56) ⟨[]⟩ ⟨[]⟩)], [some (.row (.cons (.int .i64) (.cons (.sl (.int .i64)) .unit)) 81 x5)]⟩ => some (x0, x1, x2, x3, x4, x5)
  | _ => none

noncomputable def J77a (x : Nat × Nat × Int × Int × Int × (List (Int × ((List Int) × Unit)))) : Pk := ⟨[.sl 0 (some ((x.1), (x.2.1))), .v (.int .i64 (x.2.2.1)), .v (.int .i64 (x.2.2.2.1)), .v (.int .i64 (x.2.2.2.2.1)), .v (.func (.func 56) ⟨[]⟩ ⟨[]⟩)], [some (.row (.cons (.int .i64) (.cons (.sl (.int .i64)) .unit)) 81 (x.2.2.2.2.2))]⟩

theorem I77a_ok : ∀ pk x, I77a pk = some x → pk = J77a x := by
  intro pk x h
  unfold I77a at h
  split at h <;> first | (cases h; rfl) | cases h

noncomputable def A77a : List TV := [.adr 0 []]

noncomputable def O77a (r : (List (Int × ((List Int) × Unit)))) : Tr (Pk) := .ret ⟨[.tup []], [some (.row (Ty.cons (Ty.int IntKind.i64) (Ty.cons (Ty.sl (Ty.int IntKind.i64)) (Ty.unit))) 81 (r))]⟩

noncomputable def D77a : Pk → Option ((List (Int × ((List Int) × Unit))))
  | ⟨[.tup []], [some (.row (Ty.cons (Ty.int IntKind.i64) (Ty.cons (Ty.sl (Ty.int IntKind.i64)) (Ty.unit))) 81 x0)]⟩ => some (x0)
  | _ => none

noncomputable def tab77a (N : Nat) (G : (Nat × Nat × Int × Int × Int × (List (Int × ((List Int) × Unit)))) → Option ((List (Int × ((List Int) × Unit))))) : List (Nat × (Pk → Tr Pk)) := [(77, tell I77a G O77a), (79, T79 N), (56, T56 N)]

theorem tab77a_ok (N : Nat) (G : (Nat × Nat × Int × Int × Int × (List (Int × ((List Int) × Unit)))) → Option ((List (Int × ((List Int) × Unit))))) (hG : FOK Try.prog 77 (tell I77a G O77a)) : TabOK Try.prog (tab77a N G) := ⟨hG, ⟨T79_ok N, ⟨T56_ok N, trivial⟩⟩⟩

def X77a_172 : Ex → List Nat
  | .ret => []
  | .exit 0 => [1, 10, 0]
  | _ => []

def X77a_698 : Ex → List Nat
  | .ret => []
  | .exit 2 => []
  | _ => []

def X77a_428 : Ex → List Nat
  | .ret => []
  | .exit 4 => [2, 14, 0]
  | _ => []

def X77a_1722 : Ex → List Nat
  | .ret => []
  | .exit 6 => []
  | _ => []

def X77a_1020 : Ex → List Nat
  | .ret => []
  | .exit 8 => [19, 2, 1, 20, 0, 18, 3, 4]
  | _ => []

noncomputable def I77a_172 : Pk → Option (Int × Int × Nat × Nat × Int × (List (Int × ((List Int) × Unit))))
  | ⟨[.v (.int .i64 x0), .v (.int .i64 x1), .v ((Value.func (Fn.func (56 : FuncId)) (Array.mk []) (Array.mk []))), .sl 0 (some ((x2, x3))), .v (.int .i64 x4)], [some (.row (Ty.cons (Ty.int IntKind.i64) (Ty.cons (Ty.sl (Ty.int IntKind.i64)) Ty.unit)) 81 x5)]⟩ => some (x0, x1, x2, x3, x4, x5)
  | _ => none

noncomputable def J77a_172 (x : Int × Int × Nat × Nat × Int × (List (Int × ((List Int) × Unit)))) : Pk := ⟨[.v (.int .i64 (x.1)), .v (.int .i64 (x.2.1)), .v ((Value.func (Fn.func (56 : FuncId)) (Array.mk []) (Array.mk []))), .sl 0 (some (((x.2.2.1), (x.2.2.2.1)))), .v (.int .i64 (x.2.2.2.2.1))], [some (.row (Ty.cons (Ty.int IntKind.i64) (Ty.cons (Ty.sl (Ty.int IntKind.i64)) Ty.unit)) 81 (x.2.2.2.2.2))]⟩

theorem I77a_172_ok : ∀ pk x, I77a_172 pk = some x → pk = J77a_172 x := by
  intro pk x h
  unfold I77a_172 at h
  split at h <;> first | (cases h; rfl) | cases h

noncomputable def O77a_172 (r : Int × Int × Nat × Nat × (List (Int × ((List Int) × Unit)))) : Tr (Ex × Pk) := .ret (.exit 0, ⟨[.v (.int .i64 (r.1)), .v (.int .i64 (r.2.1)), .sl 0 (some (((r.2.2.1), (r.2.2.2.1))))], [some (.row (Ty.cons (Ty.int IntKind.i64) (Ty.cons (Ty.sl (Ty.int IntKind.i64)) Ty.unit)) 81 (r.2.2.2.2))]⟩)

noncomputable def D77a_172 : Ex × Pk → Option (Int × Int × Nat × Nat × (List (Int × ((List Int) × Unit))))
  | (.exit 0, ⟨[.v (.int .i64 x0), .v (.int .i64 x1), .sl 0 (some ((x2, x3)))], [some (.row (Ty.cons (Ty.int IntKind.i64) (Ty.cons (Ty.sl (Ty.int IntKind.i64)) Ty.unit)) 81 x4)]⟩) => some ((x0, x1, x2, x3, x4))
  | _ => none

theorem D77a_172_ok : ∀ y r, D77a_172 y = some r → ∀ z, (O77a_172 r).to z → y = z := by
  intro y r h
  unfold D77a_172 at h
  split at h <;> first | (cases h; intro z hz; exact Option.some.inj hz) | cases h

noncomputable def B77a_172 (N : Nat) (G : (Nat × Nat × Int × Int × Int × (List (Int × ((List Int) × Unit)))) → Option ((List (Int × ((List Int) × Unit))))) (f : (Int × Int × Nat × Nat × Int × (List (Int × ((List Int) × Unit)))) → Option (Int × Int × Nat × Nat × (List (Int × ((List Int) × Unit))))) : (Int × Int × Nat × Nat × Int × (List (Int × ((List Int) × Unit)))) → Option (Int × Int × Nat × Nat × (List (Int × ((List Int) × Unit))))
  | (x0, x1, x2, x3, x4, x5) =>
  iteP (decide (x0 < x1)) (
    iteP (within (IntKind.wrap IntKind.i64 (Int.fdiv (IntKind.wrap IntKind.u64 (IntKind.wrap IntKind.i64 (x0 + x1))) (2 : Int))) x3) (
      Option.bind (x5[x2 + Int.toNat (IntKind.wrap IntKind.i64 (Int.fdiv (IntKind.wrap IntKind.u64 (IntKind.wrap IntKind.i64 (x0 + x1))) (2 : Int)))]?) fun y0 =>
      iteP (within x4 x3) (
        Option.bind (x5[x2 + Int.toNat x4]?) fun y1 =>
        Option.bind (F56 N (Prod.fst y0, Prod.fst (Prod.snd y0), Prod.fst y1, Prod.fst (Prod.snd y1))) fun y2 =>
        iteP (decide (y2 < (0 : Int))) (
          Option.bind (f (IntKind.wrap IntKind.i64 (IntKind.wrap IntKind.i64 (Int.fdiv (IntKind.wrap IntKind.u64 (IntKind.wrap IntKind.i64 (x0 + x1))) (2 : Int)) + (1 : Int)), x1, x2, x3, x4, x5)) fun r => some r) (
          Option.bind (f (x0, IntKind.wrap IntKind.i64 (Int.fdiv (IntKind.wrap IntKind.u64 (IntKind.wrap IntKind.i64 (x0 + x1))) (2 : Int)), x2, x3, x4, x5)) fun r => some r)) (
        none)) (
      none)) (
    some ((x4, x0, x2, x3, x5)))

noncomputable def F77a_172 (N : Nat) (G : (Nat × Nat × Int × Int × Int × (List (Int × ((List Int) × Unit)))) → Option ((List (Int × ((List Int) × Unit))))) : Nat → (Int × Int × Nat × Nat × Int × (List (Int × ((List Int) × Unit)))) → Option (Int × Int × Nat × Nat × (List (Int × ((List Int) × Unit))))
  | 0, _ => none
  | k + 1, x => B77a_172 N G (F77a_172 N G k) x

noncomputable def C77a_172 (N : Nat) (G : (Nat × Nat × Int × Int × Int × (List (Int × ((List Int) × Unit)))) → Option ((List (Int × ((List Int) × Unit))))) (k : Nat) : Cut := ⟨[10, 11, 4, 0, 1], X77a_172, tellX I77a_172 (F77a_172 N G k) O77a_172⟩

theorem B77a_172_eq (N : Nat) (G : (Nat × Nat × Int × Int × Int × (List (Int × ((List Int) × Unit)))) → Option ((List (Int × ((List Int) × Unit))))) (f : (Int × Int × Nat × Nat × Int × (List (Int × ((List Int) × Unit)))) → Option (Int × Int × Nat × Nat × (List (Int × ((List Int) × Unit))))) (x0 : Int) (x1 : Int) (x2 : Nat) (x3 : Nat) (x4 : Int) (x5 : (List (Int × ((List Int) × Unit)))) : (roundEv (mkE Try.prog ownT (tab77a N G) []) Try.f77.ntmps A77a (loopAt (bod Try.f77) 172) 172 ⟨[10, 11, 4, 0, 1], X77a_172, tellX I77a_172 f O77a_172⟩ (J77a_172 (x0, x1, x2, x3, x4, x5))).run D77a_172 = B77a_172 N G f (x0, x1, x2, x3, x4, x5) := by kernel_rfl

theorem C77a_172_ok (N : Nat) (G : (Nat × Nat × Int × Int × Int × (List (Int × ((List Int) × Unit)))) → Option ((List (Int × ((List Int) × Unit))))) (hG : FOK Try.prog 77 (tell I77a G O77a)) (k : Nat) : ∀ c', At (bod Try.f77) 172 c' → CutOK Try.prog Try.f77.ntmps (idsL A77a) c' (C77a_172 N G k) :=
  loop_ok (E := (mkE Try.prog ownT (tab77a N G) [])) (mkE_ok mix (tab77a_ok N G hG)) (cutsIn_ok trivial) (fuel := 200) (by decide +kernel) (by kernel_rfl) I77a_172_ok D77a_172_ok (B77a_172 N G) (F77a_172 N G) (fun _ => rfl) (fun _ _ => rfl) (fun f x => match x with | (x0, x1, x2, x3, x4, x5) => B77a_172_eq N G f x0 x1 x2 x3 x4 x5) k

noncomputable def I77a_698 : Pk → Option (Int × Int × Nat × Nat × (List (Int × ((List Int) × Unit))))
  | ⟨[.v (.int .i64 x0), .v (.int .i64 x1), .sl 0 (some ((x2, x3)))], [some (.row (Ty.cons (Ty.int IntKind.i64) (Ty.cons (Ty.sl (Ty.int IntKind.i64)) Ty.unit)) 81 x4)]⟩ => some (x0, x1, x2, x3, x4)
  | _ => none

noncomputable def J77a_698 (x : Int × Int × Nat × Nat × (List (Int × ((List Int) × Unit)))) : Pk := ⟨[.v (.int .i64 (x.1)), .v (.int .i64 (x.2.1)), .sl 0 (some (((x.2.2.1), (x.2.2.2.1))))], [some (.row (Ty.cons (Ty.int IntKind.i64) (Ty.cons (Ty.sl (Ty.int IntKind.i64)) Ty.unit)) 81 (x.2.2.2.2))]⟩

theorem I77a_698_ok : ∀ pk x, I77a_698 pk = some x → pk = J77a_698 x := by
  intro pk x h
  unfold I77a_698 at h
  split at h <;> first | (cases h; rfl) | cases h

noncomputable def O77a_698 (r : (List (Int × ((List Int) × Unit)))) : Tr (Ex × Pk) := .ret (.exit 2, ⟨[], [some (.row (Ty.cons (Ty.int IntKind.i64) (Ty.cons (Ty.sl (Ty.int IntKind.i64)) Ty.unit)) 81 (r))]⟩)

noncomputable def D77a_698 : Ex × Pk → Option ((List (Int × ((List Int) × Unit))))
  | (.exit 2, ⟨[], [some (.row (Ty.cons (Ty.int IntKind.i64) (Ty.cons (Ty.sl (Ty.int IntKind.i64)) Ty.unit)) 81 x0)]⟩) => some (x0)
  | _ => none

theorem D77a_698_ok : ∀ y r, D77a_698 y = some r → ∀ z, (O77a_698 r).to z → y = z := by
  intro y r h
  unfold D77a_698 at h
  split at h <;> first | (cases h; intro z hz; exact Option.some.inj hz) | cases h

noncomputable def B77a_698 (N : Nat) (G : (Nat × Nat × Int × Int × Int × (List (Int × ((List Int) × Unit)))) → Option ((List (Int × ((List Int) × Unit))))) (f : (Int × Int × Nat × Nat × (List (Int × ((List Int) × Unit)))) → Option ((List (Int × ((List Int) × Unit))))) : (Int × Int × Nat × Nat × (List (Int × ((List Int) × Unit)))) → Option ((List (Int × ((List Int) × Unit))))
  | (x0, x1, x2, x3, x4) =>
  iteP (decide (x0 < IntKind.wrap IntKind.i64 (x1 - (1 : Int)))) (
    iteP (within (IntKind.wrap IntKind.i64 (x0 + (1 : Int))) x3) (
      Option.bind (x4[x2 + Int.toNat (IntKind.wrap IntKind.i64 (x0 + (1 : Int)))]?) fun y0 =>
      iteP (within x0 x3) (
        Option.bind (x4[x2 + Int.toNat x0]?) fun y1 =>
        iteP (within x0 x3) (
          Option.bind (x4[x2 + Int.toNat x0]?) fun y2 =>
          iteP (within (IntKind.wrap IntKind.i64 (x0 + (1 : Int))) x3) (
            Option.bind ((List.set x4 (x2 + Int.toNat x0) (Prod.fst y0, Prod.fst (Prod.snd y0), ()))[x2 + Int.toNat (IntKind.wrap IntKind.i64 (x0 + (1 : Int)))]?) fun y3 =>
            Option.bind (f (IntKind.wrap IntKind.i64 (x0 + (1 : Int)), x1, x2, x3, List.set (List.set x4 (x2 + Int.toNat x0) (Prod.fst y0, Prod.fst (Prod.snd y0), ())) (x2 + Int.toNat (IntKind.wrap IntKind.i64 (x0 + (1 : Int)))) (Prod.fst y1, Prod.fst (Prod.snd y1), ()))) fun r => some r) (
            none)) (
          none)) (
        none)) (
      none)) (
    some (x4))

noncomputable def F77a_698 (N : Nat) (G : (Nat × Nat × Int × Int × Int × (List (Int × ((List Int) × Unit)))) → Option ((List (Int × ((List Int) × Unit))))) : Nat → (Int × Int × Nat × Nat × (List (Int × ((List Int) × Unit)))) → Option ((List (Int × ((List Int) × Unit))))
  | 0, _ => none
  | k + 1, x => B77a_698 N G (F77a_698 N G k) x

noncomputable def C77a_698 (N : Nat) (G : (Nat × Nat × Int × Int × Int × (List (Int × ((List Int) × Unit)))) → Option ((List (Int × ((List Int) × Unit))))) (k : Nat) : Cut := ⟨[13, 10, 0], X77a_698, tellX I77a_698 (F77a_698 N G k) O77a_698⟩

theorem B77a_698_eq (N : Nat) (G : (Nat × Nat × Int × Int × Int × (List (Int × ((List Int) × Unit)))) → Option ((List (Int × ((List Int) × Unit))))) (f : (Int × Int × Nat × Nat × (List (Int × ((List Int) × Unit)))) → Option ((List (Int × ((List Int) × Unit))))) (x0 : Int) (x1 : Int) (x2 : Nat) (x3 : Nat) (x4 : (List (Int × ((List Int) × Unit)))) : (roundEv (mkE Try.prog ownT (tab77a N G) [(172, (C77a_172 N G N))]) Try.f77.ntmps A77a (loopAt (bod Try.f77) 698) 698 ⟨[13, 10, 0], X77a_698, tellX I77a_698 f O77a_698⟩ (J77a_698 (x0, x1, x2, x3, x4))).run D77a_698 = B77a_698 N G f (x0, x1, x2, x3, x4) := by kernel_rfl

theorem C77a_698_ok (N : Nat) (G : (Nat × Nat × Int × Int × Int × (List (Int × ((List Int) × Unit)))) → Option ((List (Int × ((List Int) × Unit))))) (hG : FOK Try.prog 77 (tell I77a G O77a)) (k : Nat) : ∀ c', At (bod Try.f77) 698 c' → CutOK Try.prog Try.f77.ntmps (idsL A77a) c' (C77a_698 N G k) :=
  loop_ok (E := (mkE Try.prog ownT (tab77a N G) [(172, (C77a_172 N G N))])) (mkE_ok mix (tab77a_ok N G hG)) (cutsIn_ok ⟨fun c' h => (C77a_172_ok N G hG N c' h), trivial⟩) (fuel := 200) (by decide +kernel) (by kernel_rfl) I77a_698_ok D77a_698_ok (B77a_698 N G) (F77a_698 N G) (fun _ => rfl) (fun _ _ => rfl) (fun f x => match x with | (x0, x1, x2, x3, x4) => B77a_698_eq N G f x0 x1 x2 x3 x4) k

noncomputable def I77a_428 : Pk → Option (Int × Int × Int × Nat × Nat × (List (Int × ((List Int) × Unit))))
  | ⟨[.v (.int .i64 x0), .v (.int .i64 x1), .v ((Value.func (Fn.func (56 : FuncId)) (Array.mk []) (Array.mk []))), .v (.int .i64 x2), .sl 0 (some ((x3, x4)))], [some (.row (Ty.cons (Ty.int IntKind.i64) (Ty.cons (Ty.sl (Ty.int IntKind.i64)) Ty.unit)) 81 x5)]⟩ => some (x0, x1, x2, x3, x4, x5)
  | _ => none

noncomputable def J77a_428 (x : Int × Int × Int × Nat × Nat × (List (Int × ((List Int) × Unit)))) : Pk := ⟨[.v (.int .i64 (x.1)), .v (.int .i64 (x.2.1)), .v ((Value.func (Fn.func (56 : FuncId)) (Array.mk []) (Array.mk []))), .v (.int .i64 (x.2.2.1)), .sl 0 (some (((x.2.2.2.1), (x.2.2.2.2.1))))], [some (.row (Ty.cons (Ty.int IntKind.i64) (Ty.cons (Ty.sl (Ty.int IntKind.i64)) Ty.unit)) 81 (x.2.2.2.2.2))]⟩

theorem I77a_428_ok : ∀ pk x, I77a_428 pk = some x → pk = J77a_428 x := by
  intro pk x h
  unfold I77a_428 at h
  split at h <;> first | (cases h; rfl) | cases h

noncomputable def O77a_428 (r : Int × Int × Nat × Nat × (List (Int × ((List Int) × Unit)))) : Tr (Ex × Pk) := .ret (.exit 4, ⟨[.v (.int .i64 (r.1)), .v (.int .i64 (r.2.1)), .sl 0 (some (((r.2.2.1), (r.2.2.2.1))))], [some (.row (Ty.cons (Ty.int IntKind.i64) (Ty.cons (Ty.sl (Ty.int IntKind.i64)) Ty.unit)) 81 (r.2.2.2.2))]⟩)

noncomputable def D77a_428 : Ex × Pk → Option (Int × Int × Nat × Nat × (List (Int × ((List Int) × Unit))))
  | (.exit 4, ⟨[.v (.int .i64 x0), .v (.int .i64 x1), .sl 0 (some ((x2, x3)))], [some (.row (Ty.cons (Ty.int IntKind.i64) (Ty.cons (Ty.sl (Ty.int IntKind.i64)) Ty.unit)) 81 x4)]⟩) => some ((x0, x1, x2, x3, x4))
  | _ => none

theorem D77a_428_ok : ∀ y r, D77a_428 y = some r → ∀ z, (O77a_428 r).to z → y = z := by
  intro y r h
  unfold D77a_428 at h
  split at h <;> first | (cases h; intro z hz; exact Option.some.inj hz) | cases h

noncomputable def B77a_428 (N : Nat) (G : (Nat × Nat × Int × Int × Int × (List (Int × ((List Int) × Unit)))) → Option ((List (Int × ((List Int) × Unit))))) (f : (Int × Int × Int × Nat × Nat × (List (Int × ((List Int) × Unit)))) → Option (Int × Int × Nat × Nat × (List (Int × ((List Int) × Unit))))) : (Int × Int × Int × Nat × Nat × (List (Int × ((List Int) × Unit)))) → Option (Int × Int × Nat × Nat × (List (Int × ((List Int) × Unit))))
  | (x0, x1, x2, x3, x4, x5) =>
  iteP (decide (x0 < x1)) (
    iteP (within x2 x4) (
      Option.bind (x5[x3 + Int.toNat x2]?) fun y0 =>
      iteP (within (IntKind.wrap IntKind.i64 (Int.fdiv (IntKind.wrap IntKind.u64 (IntKind.wrap IntKind.i64 (x0 + x1))) (2 : Int))) x4) (
        Option.bind (x5[x3 + Int.toNat (IntKind.wrap IntKind.i64 (Int.fdiv (IntKind.wrap IntKind.u64 (IntKind.wrap IntKind.i64 (x0 + x1))) (2 : Int)))]?) fun y1 =>
        Option.bind (F56 N (Prod.fst y0, Prod.fst (Prod.snd y0), Prod.fst y1, Prod.fst (Prod.snd y1))) fun y2 =>
        iteP (!decide (y2 < (0 : Int))) (
          Option.bind (f (IntKind.wrap IntKind.i64 (IntKind.wrap IntKind.i64 (Int.fdiv (IntKind.wrap IntKind.u64 (IntKind.wrap IntKind.i64 (x0 + x1))) (2 : Int)) + (1 : Int)), x1, x2, x3, x4, x5)) fun r => some r) (
          Option.bind (f (x0, IntKind.wrap IntKind.i64 (Int.fdiv (IntKind.wrap IntKind.u64 (IntKind.wrap IntKind.i64 (x0 + x1))) (2 : Int)), x2, x3, x4, x5)) fun r => some r)) (
        none)) (
      none)) (
    some ((x2, x0, x3, x4, x5)))

noncomputable def F77a_428 (N : Nat) (G : (Nat × Nat × Int × Int × Int × (List (Int × ((List Int) × Unit)))) → Option ((List (Int × ((List Int) × Unit))))) : Nat → (Int × Int × Int × Nat × Nat × (List (Int × ((List Int) × Unit)))) → Option (Int × Int × Nat × Nat × (List (Int × ((List Int) × Unit))))
  | 0, _ => none
  | k + 1, x => B77a_428 N G (F77a_428 N G k) x

noncomputable def C77a_428 (N : Nat) (G : (Nat × Nat × Int × Int × Int × (List (Int × ((List Int) × Unit)))) → Option ((List (Int × ((List Int) × Unit))))) (k : Nat) : Cut := ⟨[14, 15, 4, 2, 0], X77a_428, tellX I77a_428 (F77a_428 N G k) O77a_428⟩

theorem B77a_428_eq (N : Nat) (G : (Nat × Nat × Int × Int × Int × (List (Int × ((List Int) × Unit)))) → Option ((List (Int × ((List Int) × Unit))))) (f : (Int × Int × Int × Nat × Nat × (List (Int × ((List Int) × Unit)))) → Option (Int × Int × Nat × Nat × (List (Int × ((List Int) × Unit))))) (x0 : Int) (x1 : Int) (x2 : Int) (x3 : Nat) (x4 : Nat) (x5 : (List (Int × ((List Int) × Unit)))) : (roundEv (mkE Try.prog ownT (tab77a N G) [(172, (C77a_172 N G N)), (698, (C77a_698 N G N))]) Try.f77.ntmps A77a (loopAt (bod Try.f77) 428) 428 ⟨[14, 15, 4, 2, 0], X77a_428, tellX I77a_428 f O77a_428⟩ (J77a_428 (x0, x1, x2, x3, x4, x5))).run D77a_428 = B77a_428 N G f (x0, x1, x2, x3, x4, x5) := by kernel_rfl

theorem C77a_428_ok (N : Nat) (G : (Nat × Nat × Int × Int × Int × (List (Int × ((List Int) × Unit)))) → Option ((List (Int × ((List Int) × Unit))))) (hG : FOK Try.prog 77 (tell I77a G O77a)) (k : Nat) : ∀ c', At (bod Try.f77) 428 c' → CutOK Try.prog Try.f77.ntmps (idsL A77a) c' (C77a_428 N G k) :=
  loop_ok (E := (mkE Try.prog ownT (tab77a N G) [(172, (C77a_172 N G N)), (698, (C77a_698 N G N))])) (mkE_ok mix (tab77a_ok N G hG)) (cutsIn_ok ⟨fun c' h => (C77a_172_ok N G hG N c' h), ⟨fun c' h => (C77a_698_ok N G hG N c' h), trivial⟩⟩) (fuel := 200) (by decide +kernel) (by kernel_rfl) I77a_428_ok D77a_428_ok (B77a_428 N G) (F77a_428 N G) (fun _ => rfl) (fun _ _ => rfl) (fun f x => match x with | (x0, x1, x2, x3, x4, x5) => B77a_428_eq N G f x0 x1 x2 x3 x4 x5) k

noncomputable def I77a_1722 : Pk → Option (Int × Int × Nat × Nat × (List (Int × ((List Int) × Unit))))
  | ⟨[.v (.int .i64 x0), .v (.int .i64 x1), .sl 0 (some ((x2, x3)))], [some (.row (Ty.cons (Ty.int IntKind.i64) (Ty.cons (Ty.sl (Ty.int IntKind.i64)) Ty.unit)) 81 x4)]⟩ => some (x0, x1, x2, x3, x4)
  | _ => none

noncomputable def J77a_1722 (x : Int × Int × Nat × Nat × (List (Int × ((List Int) × Unit)))) : Pk := ⟨[.v (.int .i64 (x.1)), .v (.int .i64 (x.2.1)), .sl 0 (some (((x.2.2.1), (x.2.2.2.1))))], [some (.row (Ty.cons (Ty.int IntKind.i64) (Ty.cons (Ty.sl (Ty.int IntKind.i64)) Ty.unit)) 81 (x.2.2.2.2))]⟩

theorem I77a_1722_ok : ∀ pk x, I77a_1722 pk = some x → pk = J77a_1722 x := by
  intro pk x h
  unfold I77a_1722 at h
  split at h <;> first | (cases h; rfl) | cases h

noncomputable def O77a_1722 (r : (List (Int × ((List Int) × Unit)))) : Tr (Ex × Pk) := .ret (.exit 6, ⟨[], [some (.row (Ty.cons (Ty.int IntKind.i64) (Ty.cons (Ty.sl (Ty.int IntKind.i64)) Ty.unit)) 81 (r))]⟩)

noncomputable def D77a_1722 : Ex × Pk → Option ((List (Int × ((List Int) × Unit))))
  | (.exit 6, ⟨[], [some (.row (Ty.cons (Ty.int IntKind.i64) (Ty.cons (Ty.sl (Ty.int IntKind.i64)) Ty.unit)) 81 x0)]⟩) => some (x0)
  | _ => none

theorem D77a_1722_ok : ∀ y r, D77a_1722 y = some r → ∀ z, (O77a_1722 r).to z → y = z := by
  intro y r h
  unfold D77a_1722 at h
  split at h <;> first | (cases h; intro z hz; exact Option.some.inj hz) | cases h

noncomputable def B77a_1722 (N : Nat) (G : (Nat × Nat × Int × Int × Int × (List (Int × ((List Int) × Unit)))) → Option ((List (Int × ((List Int) × Unit))))) (f : (Int × Int × Nat × Nat × (List (Int × ((List Int) × Unit)))) → Option ((List (Int × ((List Int) × Unit))))) : (Int × Int × Nat × Nat × (List (Int × ((List Int) × Unit)))) → Option ((List (Int × ((List Int) × Unit))))
  | (x0, x1, x2, x3, x4) =>
  iteP (decide (x0 > x1)) (
    iteP (within (IntKind.wrap IntKind.i64 (x0 - (1 : Int))) x3) (
      Option.bind (x4[x2 + Int.toNat (IntKind.wrap IntKind.i64 (x0 - (1 : Int)))]?) fun y0 =>
      iteP (within x0 x3) (
        Option.bind (x4[x2 + Int.toNat x0]?) fun y1 =>
        iteP (within x0 x3) (
          Option.bind (x4[x2 + Int.toNat x0]?) fun y2 =>
          iteP (within (IntKind.wrap IntKind.i64 (x0 - (1 : Int))) x3) (
            Option.bind ((List.set x4 (x2 + Int.toNat x0) (Prod.fst y0, Prod.fst (Prod.snd y0), ()))[x2 + Int.toNat (IntKind.wrap IntKind.i64 (x0 - (1 : Int)))]?) fun y3 =>
            Option.bind (f (IntKind.wrap IntKind.i64 (x0 - (1 : Int)), x1, x2, x3, List.set (List.set x4 (x2 + Int.toNat x0) (Prod.fst y0, Prod.fst (Prod.snd y0), ())) (x2 + Int.toNat (IntKind.wrap IntKind.i64 (x0 - (1 : Int)))) (Prod.fst y1, Prod.fst (Prod.snd y1), ()))) fun r => some r) (
            none)) (
          none)) (
        none)) (
      none)) (
    some (x4))

noncomputable def F77a_1722 (N : Nat) (G : (Nat × Nat × Int × Int × Int × (List (Int × ((List Int) × Unit)))) → Option ((List (Int × ((List Int) × Unit))))) : Nat → (Int × Int × Nat × Nat × (List (Int × ((List Int) × Unit)))) → Option ((List (Int × ((List Int) × Unit))))
  | 0, _ => none
  | k + 1, x => B77a_1722 N G (F77a_1722 N G k) x

noncomputable def C77a_1722 (N : Nat) (G : (Nat × Nat × Int × Int × Int × (List (Int × ((List Int) × Unit)))) → Option ((List (Int × ((List Int) × Unit))))) (k : Nat) : Cut := ⟨[17, 14, 0], X77a_1722, tellX I77a_1722 (F77a_1722 N G k) O77a_1722⟩

theorem B77a_1722_eq (N : Nat) (G : (Nat × Nat × Int × Int × Int × (List (Int × ((List Int) × Unit)))) → Option ((List (Int × ((List Int) × Unit))))) (f : (Int × Int × Nat × Nat × (List (Int × ((List Int) × Unit)))) → Option ((List (Int × ((List Int) × Unit))))) (x0 : Int) (x1 : Int) (x2 : Nat) (x3 : Nat) (x4 : (List (Int × ((List Int) × Unit)))) : (roundEv (mkE Try.prog ownT (tab77a N G) [(172, (C77a_172 N G N)), (698, (C77a_698 N G N)), (428, (C77a_428 N G N))]) Try.f77.ntmps A77a (loopAt (bod Try.f77) 1722) 1722 ⟨[17, 14, 0], X77a_1722, tellX I77a_1722 f O77a_1722⟩ (J77a_1722 (x0, x1, x2, x3, x4))).run D77a_1722 = B77a_1722 N G f (x0, x1, x2, x3, x4) := by kernel_rfl

theorem C77a_1722_ok (N : Nat) (G : (Nat × Nat × Int × Int × Int × (List (Int × ((List Int) × Unit)))) → Option ((List (Int × ((List Int) × Unit))))) (hG : FOK Try.prog 77 (tell I77a G O77a)) (k : Nat) : ∀ c', At (bod Try.f77) 1722 c' → CutOK Try.prog Try.f77.ntmps (idsL A77a) c' (C77a_1722 N G k) :=
  loop_ok (E := (mkE Try.prog ownT (tab77a N G) [(172, (C77a_172 N G N)), (698, (C77a_698 N G N)), (428, (C77a_428 N G N))])) (mkE_ok mix (tab77a_ok N G hG)) (cutsIn_ok ⟨fun c' h => (C77a_172_ok N G hG N c' h), ⟨fun c' h => (C77a_698_ok N G hG N c' h), ⟨fun c' h => (C77a_428_ok N G hG N c' h), trivial⟩⟩⟩) (fuel := 200) (by decide +kernel) (by kernel_rfl) I77a_1722_ok D77a_1722_ok (B77a_1722 N G) (F77a_1722 N G) (fun _ => rfl) (fun _ _ => rfl) (fun f x => match x with | (x0, x1, x2, x3, x4) => B77a_1722_eq N G f x0 x1 x2 x3 x4) k

noncomputable def I77a_1020 : Pk → Option (Int × Int × Int × Int × Int × Int × Int × Int × Nat × Nat × (List (Int × ((List Int) × Unit))))
  | ⟨[.v (.int .i64 x0), .v (.int .i64 x1), .v (.int .i64 x2), .v (.int .i64 x3), .v (.int .i64 x4), .v (.int .i64 x5), .v (.int .i64 x6), .v ((Value.func (Fn.func (56 : FuncId)) (Array.mk []) (Array.mk []))), .v (.int .i64 x7), .sl 0 (some ((x8, x9)))], [some (.row (Ty.cons (Ty.int IntKind.i64) (Ty.cons (Ty.sl (Ty.int IntKind.i64)) Ty.unit)) 81 x10)]⟩ => some (x0, x1, x2, x3, x4, x5, x6, x7, x8, x9, x10)
  | _ => none

noncomputable def J77a_1020 (x : Int × Int × Int × Int × Int × Int × Int × Int × Nat × Nat × (List (Int × ((List Int) × Unit)))) : Pk := ⟨[.v (.int .i64 (x.1)), .v (.int .i64 (x.2.1)), .v (.int .i64 (x.2.2.1)), .v (.int .i64 (x.2.2.2.1)), .v (.int .i64 (x.2.2.2.2.1)), .v (.int .i64 (x.2.2.2.2.2.1)), .v (.int .i64 (x.2.2.2.2.2.2.1)), .v ((Value.func (Fn.func (56 : FuncId)) (Array.mk []) (Array.mk []))), .v (.int .i64 (x.2.2.2.2.2.2.2.1)), .sl 0 (some (((x.2.2.2.2.2.2.2.2.1), (x.2.2.2.2.2.2.2.2.2.1))))], [some (.row (Ty.cons (Ty.int IntKind.i64) (Ty.cons (Ty.sl (Ty.int IntKind.i64)) Ty.unit)) 81 (x.2.2.2.2.2.2.2.2.2.2))]⟩

theorem I77a_1020_ok : ∀ pk x, I77a_1020 pk = some x → pk = J77a_1020 x := by
  intro pk x h
  unfold I77a_1020 at h
  split at h <;> first | (cases h; rfl) | cases h

noncomputable def O77a_1020 (r : Int × Int × Int × Int × Nat × Nat × Int × Int × (List (Int × ((List Int) × Unit)))) : Tr (Ex × Pk) := .ret (.exit 8, ⟨[.v (.int .i64 (r.1)), .v (.int .i64 (r.2.1)), .v (.int .i64 (r.2.2.1)), .v (.int .i64 (r.2.2.2.1)), .sl 0 (some (((r.2.2.2.2.1), (r.2.2.2.2.2.1)))), .v (.int .i64 (r.2.2.2.2.2.2.1)), .v (.int .i64 (r.2.2.2.2.2.2.2.1)), .v ((Value.func (Fn.func (56 : FuncId)) (Array.mk []) (Array.mk [])))], [some (.row (Ty.cons (Ty.int IntKind.i64) (Ty.cons (Ty.sl (Ty.int IntKind.i64)) Ty.unit)) 81 (r.2.2.2.2.2.2.2.2))]⟩)

noncomputable def D77a_1020 : Ex × Pk → Option (Int × Int × Int × Int × Nat × Nat × Int × Int × (List (Int × ((List Int) × Unit))))
  | (.exit 8, ⟨[.v (.int .i64 x0), .v (.int .i64 x1), .v (.int .i64 x2), .v (.int .i64 x3), .sl 0 (some ((x4, x5))), .v (.int .i64 x6), .v (.int .i64 x7), .v ((Value.func (Fn.func (56 : FuncId)) (Array.mk []) (Array.mk [])))], [some (.row (Ty.cons (Ty.int IntKind.i64) (Ty.cons (Ty.sl (Ty.int IntKind.i64)) Ty.unit)) 81 x8)]⟩) => some ((x0, x1, x2, x3, x4, x5, x6, x7, x8))
  | _ => none

theorem D77a_1020_ok : ∀ y r, D77a_1020 y = some r → ∀ z, (O77a_1020 r).to z → y = z := by
  intro y r h
  unfold D77a_1020 at h
  split at h <;> first | (cases h; intro z hz; exact Option.some.inj hz) | cases h

noncomputable def B77a_1020 (N : Nat) (G : (Nat × Nat × Int × Int × Int × (List (Int × ((List Int) × Unit)))) → Option ((List (Int × ((List Int) × Unit))))) (f : (Int × Int × Int × Int × Int × Int × Int × Int × Nat × Nat × (List (Int × ((List Int) × Unit)))) → Option (Int × Int × Int × Int × Nat × Nat × Int × Int × (List (Int × ((List Int) × Unit))))) : (Int × Int × Int × Int × Int × Int × Int × Int × Nat × Nat × (List (Int × ((List Int) × Unit)))) → Option (Int × Int × Int × Int × Nat × Nat × Int × Int × (List (Int × ((List Int) × Unit))))
  | (x0, x1, x2, x3, x4, x5, x6, x7, x8, x9, x10) =>
  iteP (decide (x0 < x6)) (
    iteP (within (IntKind.wrap IntKind.i64 (x7 - IntKind.wrap IntKind.i64 (Int.fdiv (IntKind.wrap IntKind.u64 (IntKind.wrap IntKind.i64 (x0 + x6))) (2 : Int)))) x9) (
      Option.bind (x10[x8 + Int.toNat (IntKind.wrap IntKind.i64 (x7 - IntKind.wrap IntKind.i64 (Int.fdiv (IntKind.wrap IntKind.u64 (IntKind.wrap IntKind.i64 (x0 + x6))) (2 : Int))))]?) fun y0 =>
      iteP (within (IntKind.wrap IntKind.i64 (Int.fdiv (IntKind.wrap IntKind.u64 (IntKind.wrap IntKind.i64 (x0 + x6))) (2 : Int))) x9) (
        Option.bind (x10[x8 + Int.toNat (IntKind.wrap IntKind.i64 (Int.fdiv (IntKind.wrap IntKind.u64 (IntKind.wrap IntKind.i64 (x0 + x6))) (2 : Int)))]?) fun y1 =>
        Option.bind (F56 N (Prod.fst y0, Prod.fst (Prod.snd y0), Prod.fst y1, Prod.fst (Prod.snd y1))) fun y2 =>
        iteP (!decide (y2 < (0 : Int))) (
          Option.bind (f (IntKind.wrap IntKind.i64 (IntKind.wrap IntKind.i64 (Int.fdiv (IntKind.wrap IntKind.u64 (IntKind.wrap IntKind.i64 (x0 + x6))) (2 : Int)) + (1 : Int)), x1, x2, x3, x4, x5, x6, x7, x8, x9, x10)) fun r => some r) (
          Option.bind (f (x0, x1, x2, x3, x4, x5, IntKind.wrap IntKind.i64 (Int.fdiv (IntKind.wrap IntKind.u64 (IntKind.wrap IntKind.i64 (x0 + x6))) (2 : Int)), x7, x8, x9, x10)) fun r => some r)) (
        none)) (
      none)) (
    some ((x5, x4, x3, x0, x8, x9, x2, x1, x10)))

noncomputable def F77a_1020 (N : Nat) (G : (Nat × Nat × Int × Int × Int × (List (Int × ((List Int) × Unit)))) → Option ((List (Int × ((List Int) × Unit))))) : Nat → (Int × Int × Int × Int × Int × Int × Int × Int × Nat × Nat × (List (Int × ((List Int) × Unit)))) → Option (Int × Int × Int × Int × Nat × Nat × Int × Int × (List (Int × ((List Int) × Unit))))
  | 0, _ => none
  | k + 1, x => B77a_1020 N G (F77a_1020 N G k) x

noncomputable def C77a_1020 (N : Nat) (G : (Nat × Nat × Int × Int × Int × (List (Int × ((List Int) × Unit)))) → Option ((List (Int × ((List Int) × Unit))))) (k : Nat) : Cut := ⟨[20, 3, 18, 1, 2, 19, 21, 4, 22, 0], X77a_1020, tellX I77a_1020 (F77a_1020 N G k) O77a_1020⟩

theorem B77a_1020_eq (N : Nat) (G : (Nat × Nat × Int × Int × Int × (List (Int × ((List Int) × Unit)))) → Option ((List (Int × ((List Int) × Unit))))) (f : (Int × Int × Int × Int × Int × Int × Int × Int × Nat × Nat × (List (Int × ((List Int) × Unit)))) → Option (Int × Int × Int × Int × Nat × Nat × Int × Int × (List (Int × ((List Int) × Unit))))) (x0 : Int) (x1 : Int) (x2 : Int) (x3 : Int) (x4 : Int) (x5 : Int) (x6 : Int) (x7 : Int) (x8 : Nat) (x9 : Nat) (x10 : (List (Int × ((List Int) × Unit)))) : (roundEv (mkE Try.prog ownT (tab77a N G) [(172, (C77a_172 N G N)), (698, (C77a_698 N G N)), (428, (C77a_428 N G N)), (1722, (C77a_1722 N G N))]) Try.f77.ntmps A77a (loopAt (bod Try.f77) 1020) 1020 ⟨[20, 3, 18, 1, 2, 19, 21, 4, 22, 0], X77a_1020, tellX I77a_1020 f O77a_1020⟩ (J77a_1020 (x0, x1, x2, x3, x4, x5, x6, x7, x8, x9, x10))).run D77a_1020 = B77a_1020 N G f (x0, x1, x2, x3, x4, x5, x6, x7, x8, x9, x10) := by kernel_rfl

theorem C77a_1020_ok (N : Nat) (G : (Nat × Nat × Int × Int × Int × (List (Int × ((List Int) × Unit)))) → Option ((List (Int × ((List Int) × Unit))))) (hG : FOK Try.prog 77 (tell I77a G O77a)) (k : Nat) : ∀ c', At (bod Try.f77) 1020 c' → CutOK Try.prog Try.f77.ntmps (idsL A77a) c' (C77a_1020 N G k) :=
  loop_ok (E := (mkE Try.prog ownT (tab77a N G) [(172, (C77a_172 N G N)), (698, (C77a_698 N G N)), (428, (C77a_428 N G N)), (1722, (C77a_1722 N G N))])) (mkE_ok mix (tab77a_ok N G hG)) (cutsIn_ok ⟨fun c' h => (C77a_172_ok N G hG N c' h), ⟨fun c' h => (C77a_698_ok N G hG N c' h), ⟨fun c' h => (C77a_428_ok N G hG N c' h), ⟨fun c' h => (C77a_1722_ok N G hG N c' h), trivial⟩⟩⟩⟩) (fuel := 200) (by decide +kernel) (by kernel_rfl) I77a_1020_ok D77a_1020_ok (B77a_1020 N G) (F77a_1020 N G) (fun _ => rfl) (fun _ _ => rfl) (fun f x => match x with | (x0, x1, x2, x3, x4, x5, x6, x7, x8, x9, x10) => B77a_1020_eq N G f x0 x1 x2 x3 x4 x5 x6 x7 x8 x9 x10) k

theorem D77a_ok : ∀ y r, D77a y = some r → ∀ z, (O77a r).to z → y = z := by
  intro y r h
  unfold D77a at h
  split at h <;> first | (cases h; intro z hz; exact Option.some.inj hz) | cases h

noncomputable def F77ag (N : Nat) (G : (Nat × Nat × Int × Int × Int × (List (Int × ((List Int) × Unit)))) → Option ((List (Int × ((List Int) × Unit))))) : (Nat × Nat × Int × Int × Int × (List (Int × ((List Int) × Unit)))) → Option ((List (Int × ((List Int) × Unit))))
  | (x0, x1, x2, x3, x4, x5) =>
  iteP (IntKind.wrap IntKind.i64 (x3 - x2) == (1 : Int)) (
    Option.bind (F77a_172 N G N (x3, x4, x0, x1, x2, x5)) fun y0 =>
    Option.bind (F77a_698 N G N (Prod.fst y0, Prod.fst (Prod.snd y0), Prod.fst (Prod.snd (Prod.snd y0)), Prod.fst (Prod.snd (Prod.snd (Prod.snd y0))), Prod.snd (Prod.snd (Prod.snd (Prod.snd y0))))) fun y1 =>
    some (y1)) (
    iteP (IntKind.wrap IntKind.i64 (x4 - x3) == (1 : Int)) (
      Option.bind (F77a_428 N G N (x2, x3, x3, x0, x1, x5)) fun y2 =>
      Option.bind (F77a_1722 N G N (Prod.fst y2, Prod.fst (Prod.snd y2), Prod.fst (Prod.snd (Prod.snd y2)), Prod.fst (Prod.snd (Prod.snd (Prod.snd y2))), Prod.snd (Prod.snd (Prod.snd (Prod.snd y2))))) fun y3 =>
      some (y3)) (
      iteP (decide (x3 > IntKind.wrap IntKind.i64 (Int.fdiv (IntKind.wrap IntKind.u64 (IntKind.wrap IntKind.i64 (x2 + x4))) (2 : Int)))) (
        Option.bind (F77a_1020 N G N (IntKind.wrap IntKind.i64 (IntKind.wrap IntKind.i64 (IntKind.wrap IntKind.i64 (Int.fdiv (IntKind.wrap IntKind.u64 (IntKind.wrap IntKind.i64 (x2 + x4))) (2 : Int)) + x3) - x4), x4, IntKind.wrap IntKind.i64 (Int.fdiv (IntKind.wrap IntKind.u64 (IntKind.wrap IntKind.i64 (x2 + x4))) (2 : Int)), x2, x3, IntKind.wrap IntKind.i64 (IntKind.wrap IntKind.i64 (Int.fdiv (IntKind.wrap IntKind.u64 (IntKind.wrap IntKind.i64 (x2 + x4))) (2 : Int)) + x3), IntKind.wrap IntKind.i64 (Int.fdiv (IntKind.wrap IntKind.u64 (IntKind.wrap IntKind.i64 (x2 + x4))) (2 : Int)), IntKind.wrap IntKind.i64 (IntKind.wrap IntKind.i64 (IntKind.wrap IntKind.i64 (Int.fdiv (IntKind.wrap IntKind.u64 (IntKind.wrap IntKind.i64 (x2 + x4))) (2 : Int)) + x3) - (1 : Int)), x0, x1, x5)) fun y4 =>
        iteP (decide (Prod.fst (Prod.snd (Prod.snd (Prod.snd y4))) < Prod.fst (Prod.snd y4))) (
          iteP (decide (Prod.fst (Prod.snd y4) < IntKind.wrap IntKind.i64 (Prod.fst y4 - Prod.fst (Prod.snd (Prod.snd (Prod.snd y4)))))) (
            Option.bind (F79a N (Prod.fst (Prod.snd (Prod.snd (Prod.snd (Prod.snd y4)))), Prod.fst (Prod.snd (Prod.snd (Prod.snd (Prod.snd (Prod.snd y4))))), Prod.fst (Prod.snd (Prod.snd (Prod.snd y4))), Prod.fst (Prod.snd y4), IntKind.wrap IntKind.i64 (Prod.fst y4 - Prod.fst (Prod.snd (Prod.snd (Prod.snd y4)))), Prod.snd (Prod.snd (Prod.snd (Prod.snd (Prod.snd (Prod.snd (Prod.snd (Prod.snd y4))))))))) fun y5 =>
            iteP (decide (Prod.fst (Prod.snd (Prod.snd y4)) < Prod.fst (Prod.snd (Prod.snd (Prod.snd y4))))) (
              iteP (decide (Prod.fst (Prod.snd (Prod.snd (Prod.snd y4))) < Prod.fst (Prod.snd (Prod.snd (Prod.snd (Prod.snd (Prod.snd (Prod.snd y4)))))))) (
                Option.bind (G (Prod.fst (Prod.snd (Prod.snd (Prod.snd (Prod.snd y4)))), Prod.fst (Prod.snd (Prod.snd (Prod.snd (Prod.snd (Prod.snd y4))))), Prod.fst (Prod.snd (Prod.snd y4)), Prod.fst (Prod.snd (Prod.snd (Prod.snd y4))), Prod.fst (Prod.snd (Prod.snd (Prod.snd (Prod.snd (Prod.snd (Prod.snd y4)))))), y5)) fun y6 =>
                iteP (decide (Prod.fst (Prod.snd (Prod.snd (Prod.snd (Prod.snd (Prod.snd (Prod.snd y4)))))) < IntKind.wrap IntKind.i64 (Prod.fst y4 - Prod.fst (Prod.snd (Prod.snd (Prod.snd y4)))))) (
                  iteP (decide (IntKind.wrap IntKind.i64 (Prod.fst y4 - Prod.fst (Prod.snd (Prod.snd (Prod.snd y4)))) < Prod.fst (Prod.snd (Prod.snd (Prod.snd (Prod.snd (Prod.snd (Prod.snd (Prod.snd y4))))))))) (
                    Option.bind (G (Prod.fst (Prod.snd (Prod.snd (Prod.snd (Prod.snd y4)))), Prod.fst (Prod.snd (Prod.snd (Prod.snd (Prod.snd (Prod.snd y4))))), Prod.fst (Prod.snd (Prod.snd (Prod.snd (Prod.snd (Prod.snd (Prod.snd y4)))))), IntKind.wrap IntKind.i64 (Prod.fst y4 - Prod.fst (Prod.snd (Prod.snd (Prod.snd y4)))), Prod.fst (Prod.snd (Prod.snd (Prod.snd (Prod.snd (Prod.snd (Prod.snd (Prod.snd y4))))))), y6)) fun y7 =>
                    some (y7)) (
                    some (y6))) (
                  some (y6))) (
                iteP (decide (Prod.fst (Prod.snd (Prod.snd (Prod.snd (Prod.snd (Prod.snd (Prod.snd y4)))))) < IntKind.wrap IntKind.i64 (Prod.fst y4 - Prod.fst (Prod.snd (Prod.snd (Prod.snd y4)))))) (
                  iteP (decide (IntKind.wrap IntKind.i64 (Prod.fst y4 - Prod.fst (Prod.snd (Prod.snd (Prod.snd y4)))) < Prod.fst (Prod.snd (Prod.snd (Prod.snd (Prod.snd (Prod.snd (Prod.snd (Prod.snd y4))))))))) (
                    Option.bind (G (Prod.fst (Prod.snd (Prod.snd (Prod.snd (Prod.snd y4)))), Prod.fst (Prod.snd (Prod.snd (Prod.snd (Prod.snd (Prod.snd y4))))), Prod.fst (Prod.snd (Prod.snd (Prod.snd (Prod.snd (Prod.snd (Prod.snd y4)))))), IntKind.wrap IntKind.i64 (Prod.fst y4 - Prod.fst (Prod.snd (Prod.snd (Prod.snd y4)))), Prod.fst (Prod.snd (Prod.snd (Prod.snd (Prod.snd (Prod.snd (Prod.snd (Prod.snd y4))))))), y5)) fun y8 =>
                    some (y8)) (
                    some (y5))) (
                  some (y5)))) (
              iteP (decide (Prod.fst (Prod.snd (Prod.snd (Prod.snd (Prod.snd (Prod.snd (Prod.snd y4)))))) < IntKind.wrap IntKind.i64 (Prod.fst y4 - Prod.fst (Prod.snd (Prod.snd (Prod.snd y4)))))) (
                iteP (decide (IntKind.wrap IntKind.i64 (Prod.fst y4 - Prod.fst (Prod.snd (Prod.snd (Prod.snd y4)))) < Prod.fst (Prod.snd (Prod.snd (Prod.snd (Prod.snd (Prod.snd (Prod.snd (Prod.snd y4))))))))) (
                  Option.bind (G (Prod.fst (Prod.snd (Prod.snd (Prod.snd (Prod.snd y4)))), Prod.fst (Prod.snd (Prod.snd (Prod.snd (Prod.snd (Prod.snd y4))))), Prod.fst (Prod.snd (Prod.snd (Prod.snd (Prod.snd (Prod.snd (Prod.snd y4)))))), IntKind.wrap IntKind.i64 (Prod.fst y4 - Prod.fst (Prod.snd (Prod.snd (Prod.snd y4)))), Prod.fst (Prod.snd (Prod.snd (Prod.snd (Prod.snd (Prod.snd (Prod.snd (Prod.snd y4))))))), y5)) fun y9 =>
                  some (y9)) (
                  some (y5))) (
                some (y5)))) (
            iteP (decide (Prod.fst (Prod.snd (Prod.snd y4)) < Prod.fst (Prod.snd (Prod.snd (Prod.snd y4))))) (
              iteP (decide (Prod.fst (Prod.snd (Prod.snd (Prod.snd y4))) < Prod.fst (Prod.snd (Prod.snd (Prod.snd (Prod.snd (Prod.snd (Prod.snd y4)))))))) (
                Option.bind (G (Prod.fst (Prod.snd (Prod.snd (Prod.snd (Prod.snd y4)))), Prod.fst (Prod.snd (Prod.snd (Prod.snd (Prod.snd (Prod.snd y4))))), Prod.fst (Prod.snd (Prod.snd y4)), Prod.fst (Prod.snd (Prod.snd (Prod.snd y4))), Prod.fst (Prod.snd (Prod.snd (Prod.snd (Prod.snd (Prod.snd (Prod.snd y4)))))), Prod.snd (Prod.snd (Prod.snd (Prod.snd (Prod.snd (Prod.snd (Prod.snd (Prod.snd y4))))))))) fun y10 =>
                iteP (decide (Prod.fst (Prod.snd (Prod.snd (Prod.snd (Prod.snd (Prod.snd (Prod.snd y4)))))) < IntKind.wrap IntKind.i64 (Prod.fst y4 - Prod.fst (Prod.snd (Prod.snd (Prod.snd y4)))))) (
                  iteP (decide (IntKind.wrap IntKind.i64 (Prod.fst y4 - Prod.fst (Prod.snd (Prod.snd (Prod.snd y4)))) < Prod.fst (Prod.snd (Prod.snd (Prod.snd (Prod.snd (Prod.snd (Prod.snd (Prod.snd y4))))))))) (
                    Option.bind (G (Prod.fst (Prod.snd (Prod.snd (Prod.snd (Prod.snd y4)))), Prod.fst (Prod.snd (Prod.snd (Prod.snd (Prod.snd (Prod.snd y4))))), Prod.fst (Prod.snd (Prod.snd (Prod.snd (Prod.snd (Prod.snd (Prod.snd y4)))))), IntKind.wrap IntKind.i64 (Prod.fst y4 - Prod.fst (Prod.snd (Prod.snd (Prod.snd y4)))), Prod.fst (Prod.snd (Prod.snd (Prod.snd (Prod.snd (Prod.snd (Prod.snd (Prod.snd y4))))))), y10)) fun y11 =>
                    some (y11)) (
                    some (y10))) (
                  some (y10))) (
                iteP (decide (Prod.fst (Prod.snd (Prod.snd (Prod.snd (Prod.snd (Prod.snd (Prod.snd y4)))))) < IntKind.wrap IntKind.i64 (Prod.fst y4 - Prod.fst (Prod.snd (Prod.snd (Prod.snd y4)))))) (
                  iteP (decide (IntKind.wrap IntKind.i64 (Prod.fst y4 - Prod.fst (Prod.snd (Prod.snd (Prod.snd y4)))) < Prod.fst (Prod.snd (Prod.snd (Prod.snd (Prod.snd (Prod.snd (Prod.snd (Prod.snd y4))))))))) (
                    Option.bind (G (Prod.fst (Prod.snd (Prod.snd (Prod.snd (Prod.snd y4)))), Prod.fst (Prod.snd (Prod.snd (Prod.snd (Prod.snd (Prod.snd y4))))), Prod.fst (Prod.snd (Prod.snd (Prod.snd (Prod.snd (Prod.snd (Prod.snd y4)))))), IntKind.wrap IntKind.i64 (Prod.fst y4 - Prod.fst (Prod.snd (Prod.snd (Prod.snd y4)))), Prod.fst (Prod.snd (Prod.snd (Prod.snd (Prod.snd (Prod.snd (Prod.snd (Prod.snd y4))))))), Prod.snd (Prod.snd (Prod.snd (Prod.snd (Prod.snd (Prod.snd (Prod.snd (Prod.snd y4))))))))) fun y12 =>
                    some (y12)) (
                    some (Prod.snd (Prod.snd (Prod.snd (Prod.snd (Prod.snd (Prod.snd (Prod.snd (Prod.snd y4)))))))))) (
                  some (Prod.snd (Prod.snd (Prod.snd (Prod.snd (Prod.snd (Prod.snd (Prod.snd (Prod.snd y4))))))))))) (
              iteP (decide (Prod.fst (Prod.snd (Prod.snd (Prod.snd (Prod.snd (Prod.snd (Prod.snd y4)))))) < IntKind.wrap IntKind.i64 (Prod.fst y4 - Prod.fst (Prod.snd (Prod.snd (Prod.snd y4)))))) (
                iteP (decide (IntKind.wrap IntKind.i64 (Prod.fst y4 - Prod.fst (Prod.snd (Prod.snd (Prod.snd y4)))) < Prod.fst (Prod.snd (Prod.snd (Prod.snd (Prod.snd (Prod.snd (Prod.snd (Prod.snd y4))))))))) (
                  Option.bind (G (Prod.fst (Prod.snd (Prod.snd (Prod.snd (Prod.snd y4)))), Prod.fst (Prod.snd (Prod.snd (Prod.snd (Prod.snd (Prod.snd y4))))), Prod.fst (Prod.snd (Prod.snd (Prod.snd (Prod.snd (Prod.snd (Prod.snd y4)))))), IntKind.wrap IntKind.i64 (Prod.fst y4 - Prod.fst (Prod.snd (Prod.snd (Prod.snd y4)))), Prod.fst (Prod.snd (Prod.snd (Prod.snd (Prod.snd (Prod.snd (Prod.snd (Prod.snd y4))))))), Prod.snd (Prod.snd (Prod.snd (Prod.snd (Prod.snd (Prod.snd (Prod.snd (Prod.snd y4))))))))) fun y13 =>
                  some (y13)) (
                  some (Prod.snd (Prod.snd (Prod.snd (Prod.snd (Prod.snd (Prod.snd (Prod.snd (Prod.snd y4)))))))))) (
                some (Prod.snd (Prod.snd (Prod.snd (Prod.snd (Prod.snd (Prod.snd (Prod.snd (Prod.snd y4)))))))))))) (
          iteP (decide (Prod.fst (Prod.snd (Prod.snd y4)) < Prod.fst (Prod.snd (Prod.snd (Prod.snd y4))))) (
            iteP (decide (Prod.fst (Prod.snd (Prod.snd (Prod.snd y4))) < Prod.fst (Prod.snd (Prod.snd (Prod.snd (Prod.snd (Prod.snd (Prod.snd y4)))))))) (
              Option.bind (G (Prod.fst (Prod.snd (Prod.snd (Prod.snd (Prod.snd y4)))), Prod.fst (Prod.snd (Prod.snd (Prod.snd (Prod.snd (Prod.snd y4))))), Prod.fst (Prod.snd (Prod.snd y4)), Prod.fst (Prod.snd (Prod.snd (Prod.snd y4))), Prod.fst (Prod.snd (Prod.snd (Prod.snd (Prod.snd (Prod.snd (Prod.snd y4)))))), Prod.snd (Prod.snd (Prod.snd (Prod.snd (Prod.snd (Prod.snd (Prod.snd (Prod.snd y4))))))))) fun y14 =>
              iteP (decide (Prod.fst (Prod.snd (Prod.snd (Prod.snd (Prod.snd (Prod.snd (Prod.snd y4)))))) < IntKind.wrap IntKind.i64 (Prod.fst y4 - Prod.fst (Prod.snd (Prod.snd (Prod.snd y4)))))) (
                iteP (decide (IntKind.wrap IntKind.i64 (Prod.fst y4 - Prod.fst (Prod.snd (Prod.snd (Prod.snd y4)))) < Prod.fst (Prod.snd (Prod.snd (Prod.snd (Prod.snd (Prod.snd (Prod.snd (Prod.snd y4))))))))) (
                  Option.bind (G (Prod.fst (Prod.snd (Prod.snd (Prod.snd (Prod.snd y4)))), Prod.fst (Prod.snd (Prod.snd (Prod.snd (Prod.snd (Prod.snd y4))))), Prod.fst (Prod.snd (Prod.snd (Prod.snd (Prod.snd (Prod.snd (Prod.snd y4)))))), IntKind.wrap IntKind.i64 (Prod.fst y4 - Prod.fst (Prod.snd (Prod.snd (Prod.snd y4)))), Prod.fst (Prod.snd (Prod.snd (Prod.snd (Prod.snd (Prod.snd (Prod.snd (Prod.snd y4))))))), y14)) fun y15 =>
                  some (y15)) (
                  some (y14))) (
                some (y14))) (
              iteP (decide (Prod.fst (Prod.snd (Prod.snd (Prod.snd (Prod.snd (Prod.snd (Prod.snd y4)))))) < IntKind.wrap IntKind.i64 (Prod.fst y4 - Prod.fst (Prod.snd (Prod.snd (Prod.snd y4)))))) (
                iteP (decide (IntKind.wrap IntKind.i64 (Prod.fst y4 - Prod.fst (Prod.snd (Prod.snd (Prod.snd y4)))) < Prod.fst (Prod.snd (Prod.snd (Prod.snd (Prod.snd (Prod.snd (Prod.snd (Prod.snd y4))))))))) (
                  Option.bind (G (Prod.fst (Prod.snd (Prod.snd (Prod.snd (Prod.snd y4)))), Prod.fst (Prod.snd (Prod.snd (Prod.snd (Prod.snd (Prod.snd y4))))), Prod.fst (Prod.snd (Prod.snd (Prod.snd (Prod.snd (Prod.snd (Prod.snd y4)))))), IntKind.wrap IntKind.i64 (Prod.fst y4 - Prod.fst (Prod.snd (Prod.snd (Prod.snd y4)))), Prod.fst (Prod.snd (Prod.snd (Prod.snd (Prod.snd (Prod.snd (Prod.snd (Prod.snd y4))))))), Prod.snd (Prod.snd (Prod.snd (Prod.snd (Prod.snd (Prod.snd (Prod.snd (Prod.snd y4))))))))) fun y16 =>
                  some (y16)) (
                  some (Prod.snd (Prod.snd (Prod.snd (Prod.snd (Prod.snd (Prod.snd (Prod.snd (Prod.snd y4)))))))))) (
                some (Prod.snd (Prod.snd (Prod.snd (Prod.snd (Prod.snd (Prod.snd (Prod.snd (Prod.snd y4))))))))))) (
            iteP (decide (Prod.fst (Prod.snd (Prod.snd (Prod.snd (Prod.snd (Prod.snd (Prod.snd y4)))))) < IntKind.wrap IntKind.i64 (Prod.fst y4 - Prod.fst (Prod.snd (Prod.snd (Prod.snd y4)))))) (
              iteP (decide (IntKind.wrap IntKind.i64 (Prod.fst y4 - Prod.fst (Prod.snd (Prod.snd (Prod.snd y4)))) < Prod.fst (Prod.snd (Prod.snd (Prod.snd (Prod.snd (Prod.snd (Prod.snd (Prod.snd y4))))))))) (
                Option.bind (G (Prod.fst (Prod.snd (Prod.snd (Prod.snd (Prod.snd y4)))), Prod.fst (Prod.snd (Prod.snd (Prod.snd (Prod.snd (Prod.snd y4))))), Prod.fst (Prod.snd (Prod.snd (Prod.snd (Prod.snd (Prod.snd (Prod.snd y4)))))), IntKind.wrap IntKind.i64 (Prod.fst y4 - Prod.fst (Prod.snd (Prod.snd (Prod.snd y4)))), Prod.fst (Prod.snd (Prod.snd (Prod.snd (Prod.snd (Prod.snd (Prod.snd (Prod.snd y4))))))), Prod.snd (Prod.snd (Prod.snd (Prod.snd (Prod.snd (Prod.snd (Prod.snd (Prod.snd y4))))))))) fun y17 =>
                some (y17)) (
                some (Prod.snd (Prod.snd (Prod.snd (Prod.snd (Prod.snd (Prod.snd (Prod.snd (Prod.snd y4)))))))))) (
              some (Prod.snd (Prod.snd (Prod.snd (Prod.snd (Prod.snd (Prod.snd (Prod.snd (Prod.snd y4)))))))))))) (
        Option.bind (F77a_1020 N G N (x2, x4, IntKind.wrap IntKind.i64 (Int.fdiv (IntKind.wrap IntKind.u64 (IntKind.wrap IntKind.i64 (x2 + x4))) (2 : Int)), x2, x3, IntKind.wrap IntKind.i64 (IntKind.wrap IntKind.i64 (Int.fdiv (IntKind.wrap IntKind.u64 (IntKind.wrap IntKind.i64 (x2 + x4))) (2 : Int)) + x3), x3, IntKind.wrap IntKind.i64 (IntKind.wrap IntKind.i64 (IntKind.wrap IntKind.i64 (Int.fdiv (IntKind.wrap IntKind.u64 (IntKind.wrap IntKind.i64 (x2 + x4))) (2 : Int)) + x3) - (1 : Int)), x0, x1, x5)) fun y18 =>
        iteP (decide (Prod.fst (Prod.snd (Prod.snd (Prod.snd y18))) < Prod.fst (Prod.snd y18))) (
          iteP (decide (Prod.fst (Prod.snd y18) < IntKind.wrap IntKind.i64 (Prod.fst y18 - Prod.fst (Prod.snd (Prod.snd (Prod.snd y18)))))) (
            Option.bind (F79a N (Prod.fst (Prod.snd (Prod.snd (Prod.snd (Prod.snd y18)))), Prod.fst (Prod.snd (Prod.snd (Prod.snd (Prod.snd (Prod.snd y18))))), Prod.fst (Prod.snd (Prod.snd (Prod.snd y18))), Prod.fst (Prod.snd y18), IntKind.wrap IntKind.i64 (Prod.fst y18 - Prod.fst (Prod.snd (Prod.snd (Prod.snd y18)))), Prod.snd (Prod.snd (Prod.snd (Prod.snd (Prod.snd (Prod.snd (Prod.snd (Prod.snd y18))))))))) fun y19 =>
            iteP (decide (Prod.fst (Prod.snd (Prod.snd y18)) < Prod.fst (Prod.snd (Prod.snd (Prod.snd y18))))) (
              iteP (decide (Prod.fst (Prod.snd (Prod.snd (Prod.snd y18))) < Prod.fst (Prod.snd (Prod.snd (Prod.snd (Prod.snd (Prod.snd (Prod.snd y18)))))))) (
                Option.bind (G (Prod.fst (Prod.snd (Prod.snd (Prod.snd (Prod.snd y18)))), Prod.fst (Prod.snd (Prod.snd (Prod.snd (Prod.snd (Prod.snd y18))))), Prod.fst (Prod.snd (Prod.snd y18)), Prod.fst (Prod.snd (Prod.snd (Prod.snd y18))), Prod.fst (Prod.snd (Prod.snd (Prod.snd (Prod.snd (Prod.snd (Prod.snd y18)))))), y19)) fun y20 =>
                iteP (decide (Prod.fst (Prod.snd (Prod.snd (Prod.snd (Prod.snd (Prod.snd (Prod.snd y18)))))) < IntKind.wrap IntKind.i64 (Prod.fst y18 - Prod.fst (Prod.snd (Prod.snd (Prod.snd y18)))))) (
                  iteP (decide (IntKind.wrap IntKind.i64 (Prod.fst y18 - Prod.fst (Prod.snd (Prod.snd (Prod.snd y18)))) < Prod.fst (Prod.snd (Prod.snd (Prod.snd (Prod.snd (Prod.snd (Prod.snd (Prod.snd y18))))))))) (
                    Option.bind (G (Prod.fst (Prod.snd (Prod.snd (Prod.snd (Prod.snd y18)))), Prod.fst (Prod.snd (Prod.snd (Prod.snd (Prod.snd (Prod.snd y18))))), Prod.fst (Prod.snd (Prod.snd (Prod.snd (Prod.snd (Prod.snd (Prod.snd y18)))))), IntKind.wrap IntKind.i64 (Prod.fst y18 - Prod.fst (Prod.snd (Prod.snd (Prod.snd y18)))), Prod.fst (Prod.snd (Prod.snd (Prod.snd (Prod.snd (Prod.snd (Prod.snd (Prod.snd y18))))))), y20)) fun y21 =>
                    some (y21)) (
                    some (y20))) (
                  some (y20))) (
                iteP (decide (Prod.fst (Prod.snd (Prod.snd (Prod.snd (Prod.snd (Prod.snd (Prod.snd y18)))))) < IntKind.wrap IntKind.i64 (Prod.fst y18 - Prod.fst (Prod.snd (Prod.snd (Prod.snd y18)))))) (
                  iteP (decide (IntKind.wrap IntKind.i64 (Prod.fst y18 - Prod.fst (Prod.snd (Prod.snd (Prod.snd y18)))) < Prod.fst (Prod.snd (Prod.snd (Prod.snd (Prod.snd (Prod.snd (Prod.snd (Prod.snd y18))))))))) (
                    Option.bind (G (Prod.fst (Prod.snd (Prod.snd (Prod.snd (Prod.snd y18)))), Prod.fst (Prod.snd (Prod.snd (Prod.snd (Prod.snd (Prod.snd y18))))), Prod.fst (Prod.snd (Prod.snd (Prod.snd (Prod.snd (Prod.snd (Prod.snd y18)))))), IntKind.wrap IntKind.i64 (Prod.fst y18 - Prod.fst (Prod.snd (Prod.snd (Prod.snd y18)))), Prod.fst (Prod.snd (Prod.snd (Prod.snd (Prod.snd (Prod.snd (Prod.snd (Prod.snd y18))))))), y19)) fun y22 =>
                    some (y22)) (
                    some (y19))) (
                  some (y19)))) (
              iteP (decide (Prod.fst (Prod.snd (Prod.snd (Prod.snd (Prod.snd (Prod.snd (Prod.snd y18)))))) < IntKind.wrap IntKind.i64 (Prod.fst y18 - Prod.fst (Prod.snd (Prod.snd (Prod.snd y18)))))) (
                iteP (decide (IntKind.wrap IntKind.i64 (Prod.fst y18 - Prod.fst (Prod.snd (Prod.snd (Prod.snd y18)))) < Prod.fst (Prod.snd (Prod.snd (Prod.snd (Prod.snd (Prod.snd (Prod.snd (Prod.snd y18))))))))) (
                  Option.bind (G (Prod.fst (Prod.snd (Prod.snd (Prod.snd (Prod.snd y18)))), Prod.fst (Prod.snd (Prod.snd (Prod.snd (Prod.snd (Prod.snd y18))))), Prod.fst (Prod.snd (Prod.snd (Prod.snd (Prod.snd (Prod.snd (Prod.snd y18)))))), IntKind.wrap IntKind.i64 (Prod.fst y18 - Prod.fst (Prod.snd (Prod.snd (Prod.snd y18)))), Prod.fst (Prod.snd (Prod.snd (Prod.snd (Prod.snd (Prod.snd (Prod.snd (Prod.snd y18))))))), y19)) fun y23 =>
                  some (y23)) (
                  some (y19))) (
                some (y19)))) (
            iteP (decide (Prod.fst (Prod.snd (Prod.snd y18)) < Prod.fst (Prod.snd (Prod.snd (Prod.snd y18))))) (
              iteP (decide (Prod.fst (Prod.snd (Prod.snd (Prod.snd y18))) < Prod.fst (Prod.snd (Prod.snd (Prod.snd (Prod.snd (Prod.snd (Prod.snd y18)))))))) (
                Option.bind (G (Prod.fst (Prod.snd (Prod.snd (Prod.snd (Prod.snd y18)))), Prod.fst (Prod.snd (Prod.snd (Prod.snd (Prod.snd (Prod.snd y18))))), Prod.fst (Prod.snd (Prod.snd y18)), Prod.fst (Prod.snd (Prod.snd (Prod.snd y18))), Prod.fst (Prod.snd (Prod.snd (Prod.snd (Prod.snd (Prod.snd (Prod.snd y18)))))), Prod.snd (Prod.snd (Prod.snd (Prod.snd (Prod.snd (Prod.snd (Prod.snd (Prod.snd y18))))))))) fun y24 =>
                iteP (decide (Prod.fst (Prod.snd (Prod.snd (Prod.snd (Prod.snd (Prod.snd (Prod.snd y18)))))) < IntKind.wrap IntKind.i64 (Prod.fst y18 - Prod.fst (Prod.snd (Prod.snd (Prod.snd y18)))))) (
                  iteP (decide (IntKind.wrap IntKind.i64 (Prod.fst y18 - Prod.fst (Prod.snd (Prod.snd (Prod.snd y18)))) < Prod.fst (Prod.snd (Prod.snd (Prod.snd (Prod.snd (Prod.snd (Prod.snd (Prod.snd y18))))))))) (
                    Option.bind (G (Prod.fst (Prod.snd (Prod.snd (Prod.snd (Prod.snd y18)))), Prod.fst (Prod.snd (Prod.snd (Prod.snd (Prod.snd (Prod.snd y18))))), Prod.fst (Prod.snd (Prod.snd (Prod.snd (Prod.snd (Prod.snd (Prod.snd y18)))))), IntKind.wrap IntKind.i64 (Prod.fst y18 - Prod.fst (Prod.snd (Prod.snd (Prod.snd y18)))), Prod.fst (Prod.snd (Prod.snd (Prod.snd (Prod.snd (Prod.snd (Prod.snd (Prod.snd y18))))))), y24)) fun y25 =>
                    some (y25)) (
                    some (y24))) (
                  some (y24))) (
                iteP (decide (Prod.fst (Prod.snd (Prod.snd (Prod.snd (Prod.snd (Prod.snd (Prod.snd y18)))))) < IntKind.wrap IntKind.i64 (Prod.fst y18 - Prod.fst (Prod.snd (Prod.snd (Prod.snd y18)))))) (
                  iteP (decide (IntKind.wrap IntKind.i64 (Prod.fst y18 - Prod.fst (Prod.snd (Prod.snd (Prod.snd y18)))) < Prod.fst (Prod.snd (Prod.snd (Prod.snd (Prod.snd (Prod.snd (Prod.snd (Prod.snd y18))))))))) (
                    Option.bind (G (Prod.fst (Prod.snd (Prod.snd (Prod.snd (Prod.snd y18)))), Prod.fst (Prod.snd (Prod.snd (Prod.snd (Prod.snd (Prod.snd y18))))), Prod.fst (Prod.snd (Prod.snd (Prod.snd (Prod.snd (Prod.snd (Prod.snd y18)))))), IntKind.wrap IntKind.i64 (Prod.fst y18 - Prod.fst (Prod.snd (Prod.snd (Prod.snd y18)))), Prod.fst (Prod.snd (Prod.snd (Prod.snd (Prod.snd (Prod.snd (Prod.snd (Prod.snd y18))))))), Prod.snd (Prod.snd (Prod.snd (Prod.snd (Prod.snd (Prod.snd (Prod.snd (Prod.snd y18))))))))) fun y26 =>
                    some (y26)) (
                    some (Prod.snd (Prod.snd (Prod.snd (Prod.snd (Prod.snd (Prod.snd (Prod.snd (Prod.snd y18)))))))))) (
                  some (Prod.snd (Prod.snd (Prod.snd (Prod.snd (Prod.snd (Prod.snd (Prod.snd (Prod.snd y18))))))))))) (
              iteP (decide (Prod.fst (Prod.snd (Prod.snd (Prod.snd (Prod.snd (Prod.snd (Prod.snd y18)))))) < IntKind.wrap IntKind.i64 (Prod.fst y18 - Prod.fst (Prod.snd (Prod.snd (Prod.snd y18)))))) (
                iteP (decide (IntKind.wrap IntKind.i64 (Prod.fst y18 - Prod.fst (Prod.snd (Prod.snd (Prod.snd y18)))) < Prod.fst (Prod.snd (Prod.snd (Prod.snd (Prod.snd (Prod.snd (Prod.snd (Prod.snd y18))))))))) (
                  Option.bind (G (Prod.fst (Prod.snd (Prod.snd (Prod.snd (Prod.snd y18)))), Prod.fst (Prod.snd (Prod.snd (Prod.snd (Prod.snd (Prod.snd y18))))), Prod.fst (Prod.snd (Prod.snd (Prod.snd (Prod.snd (Prod.snd (Prod.snd y18)))))), IntKind.wrap IntKind.i64 (Prod.fst y18 - Prod.fst (Prod.snd (Prod.snd (Prod.snd y18)))), Prod.fst (Prod.snd (Prod.snd (Prod.snd (Prod.snd (Prod.snd (Prod.snd (Prod.snd y18))))))), Prod.snd (Prod.snd (Prod.snd (Prod.snd (Prod.snd (Prod.snd (Prod.snd (Prod.snd y18))))))))) fun y27 =>
                  some (y27)) (
                  some (Prod.snd (Prod.snd (Prod.snd (Prod.snd (Prod.snd (Prod.snd (Prod.snd (Prod.snd y18)))))))))) (
                some (Prod.snd (Prod.snd (Prod.snd (Prod.snd (Prod.snd (Prod.snd (Prod.snd (Prod.snd y18)))))))))))) (
          iteP (decide (Prod.fst (Prod.snd (Prod.snd y18)) < Prod.fst (Prod.snd (Prod.snd (Prod.snd y18))))) (
            iteP (decide (Prod.fst (Prod.snd (Prod.snd (Prod.snd y18))) < Prod.fst (Prod.snd (Prod.snd (Prod.snd (Prod.snd (Prod.snd (Prod.snd y18)))))))) (
              Option.bind (G (Prod.fst (Prod.snd (Prod.snd (Prod.snd (Prod.snd y18)))), Prod.fst (Prod.snd (Prod.snd (Prod.snd (Prod.snd (Prod.snd y18))))), Prod.fst (Prod.snd (Prod.snd y18)), Prod.fst (Prod.snd (Prod.snd (Prod.snd y18))), Prod.fst (Prod.snd (Prod.snd (Prod.snd (Prod.snd (Prod.snd (Prod.snd y18)))))), Prod.snd (Prod.snd (Prod.snd (Prod.snd (Prod.snd (Prod.snd (Prod.snd (Prod.snd y18))))))))) fun y28 =>
              iteP (decide (Prod.fst (Prod.snd (Prod.snd (Prod.snd (Prod.snd (Prod.snd (Prod.snd y18)))))) < IntKind.wrap IntKind.i64 (Prod.fst y18 - Prod.fst (Prod.snd (Prod.snd (Prod.snd y18)))))) (
                iteP (decide (IntKind.wrap IntKind.i64 (Prod.fst y18 - Prod.fst (Prod.snd (Prod.snd (Prod.snd y18)))) < Prod.fst (Prod.snd (Prod.snd (Prod.snd (Prod.snd (Prod.snd (Prod.snd (Prod.snd y18))))))))) (
                  Option.bind (G (Prod.fst (Prod.snd (Prod.snd (Prod.snd (Prod.snd y18)))), Prod.fst (Prod.snd (Prod.snd (Prod.snd (Prod.snd (Prod.snd y18))))), Prod.fst (Prod.snd (Prod.snd (Prod.snd (Prod.snd (Prod.snd (Prod.snd y18)))))), IntKind.wrap IntKind.i64 (Prod.fst y18 - Prod.fst (Prod.snd (Prod.snd (Prod.snd y18)))), Prod.fst (Prod.snd (Prod.snd (Prod.snd (Prod.snd (Prod.snd (Prod.snd (Prod.snd y18))))))), y28)) fun y29 =>
                  some (y29)) (
                  some (y28))) (
                some (y28))) (
              iteP (decide (Prod.fst (Prod.snd (Prod.snd (Prod.snd (Prod.snd (Prod.snd (Prod.snd y18)))))) < IntKind.wrap IntKind.i64 (Prod.fst y18 - Prod.fst (Prod.snd (Prod.snd (Prod.snd y18)))))) (
                iteP (decide (IntKind.wrap IntKind.i64 (Prod.fst y18 - Prod.fst (Prod.snd (Prod.snd (Prod.snd y18)))) < Prod.fst (Prod.snd (Prod.snd (Prod.snd (Prod.snd (Prod.snd (Prod.snd (Prod.snd y18))))))))) (
                  Option.bind (G (Prod.fst (Prod.snd (Prod.snd (Prod.snd (Prod.snd y18)))), Prod.fst (Prod.snd (Prod.snd (Prod.snd (Prod.snd (Prod.snd y18))))), Prod.fst (Prod.snd (Prod.snd (Prod.snd (Prod.snd (Prod.snd (Prod.snd y18)))))), IntKind.wrap IntKind.i64 (Prod.fst y18 - Prod.fst (Prod.snd (Prod.snd (Prod.snd y18)))), Prod.fst (Prod.snd (Prod.snd (Prod.snd (Prod.snd (Prod.snd (Prod.snd (Prod.snd y18))))))), Prod.snd (Prod.snd (Prod.snd (Prod.snd (Prod.snd (Prod.snd (Prod.snd (Prod.snd y18))))))))) fun y30 =>
                  some (y30)) (
                  some (Prod.snd (Prod.snd (Prod.snd (Prod.snd (Prod.snd (Prod.snd (Prod.snd (Prod.snd y18)))))))))) (
                some (Prod.snd (Prod.snd (Prod.snd (Prod.snd (Prod.snd (Prod.snd (Prod.snd (Prod.snd y18))))))))))) (
            iteP (decide (Prod.fst (Prod.snd (Prod.snd (Prod.snd (Prod.snd (Prod.snd (Prod.snd y18)))))) < IntKind.wrap IntKind.i64 (Prod.fst y18 - Prod.fst (Prod.snd (Prod.snd (Prod.snd y18)))))) (
              iteP (decide (IntKind.wrap IntKind.i64 (Prod.fst y18 - Prod.fst (Prod.snd (Prod.snd (Prod.snd y18)))) < Prod.fst (Prod.snd (Prod.snd (Prod.snd (Prod.snd (Prod.snd (Prod.snd (Prod.snd y18))))))))) (
                Option.bind (G (Prod.fst (Prod.snd (Prod.snd (Prod.snd (Prod.snd y18)))), Prod.fst (Prod.snd (Prod.snd (Prod.snd (Prod.snd (Prod.snd y18))))), Prod.fst (Prod.snd (Prod.snd (Prod.snd (Prod.snd (Prod.snd (Prod.snd y18)))))), IntKind.wrap IntKind.i64 (Prod.fst y18 - Prod.fst (Prod.snd (Prod.snd (Prod.snd y18)))), Prod.fst (Prod.snd (Prod.snd (Prod.snd (Prod.snd (Prod.snd (Prod.snd (Prod.snd y18))))))), Prod.snd (Prod.snd (Prod.snd (Prod.snd (Prod.snd (Prod.snd (Prod.snd (Prod.snd y18))))))))) fun y31 =>
                some (y31)) (
                some (Prod.snd (Prod.snd (Prod.snd (Prod.snd (Prod.snd (Prod.snd (Prod.snd (Prod.snd y18)))))))))) (
              some (Prod.snd (Prod.snd (Prod.snd (Prod.snd (Prod.snd (Prod.snd (Prod.snd (Prod.snd y18))))))))))))))

noncomputable def F77ak (N : Nat) : Nat → (Nat × Nat × Int × Int × Int × (List (Int × ((List Int) × Unit)))) → Option ((List (Int × ((List Int) × Unit))))
  | 0, _ => none
  | k + 1, x => F77ag N (F77ak N k) x

noncomputable def F77a (N : Nat) : (Nat × Nat × Int × Int × Int × (List (Int × ((List Int) × Unit)))) → Option ((List (Int × ((List Int) × Unit)))) := F77ak N N

theorem F77a_eq (N : Nat) (G : (Nat × Nat × Int × Int × Int × (List (Int × ((List Int) × Unit)))) → Option ((List (Int × ((List Int) × Unit))))) (x0 : Nat) (x1 : Nat) (x2 : Int) (x3 : Int) (x4 : Int) (x5 : (List (Int × ((List Int) × Unit)))) : (fnEv (mkE Try.prog ownT (tab77a N G) [(172, (C77a_172 N G N)), (698, (C77a_698 N G N)), (428, (C77a_428 N G N)), (1722, (C77a_1722 N G N)), (1020, (C77a_1020 N G N))]) Try.f77 (J77a (x0, x1, x2, x3, x4, x5))).run D77a = F77ag N G (x0, x1, x2, x3, x4, x5) := by kernel_rfl

noncomputable def V77a (N : Nat) : Pk → Tr Pk := tell I77a (F77a N) O77a

theorem V77a_rec (N : Nat) : ∀ k, FOK Try.prog 77 (tell I77a (F77ak N k) O77a)
  | 0 => tell_none fun _ => rfl
  | k + 1 => tell_ok (E := (mkE Try.prog ownT (tab77a N (F77ak N k)) [(172, (C77a_172 N (F77ak N k) N)), (698, (C77a_698 N (F77ak N k) N)), (428, (C77a_428 N (F77ak N k) N)), (1722, (C77a_1722 N (F77ak N k) N)), (1020, (C77a_1020 N (F77ak N k) N))])) (mkE_ok mix (tab77a_ok N (F77ak N k) (V77a_rec N k))) Try.func77 (show Try.f77.body = some (bod Try.f77) by kernel_rfl) (by decide +kernel) (F := F77ak N (k + 1)) I77a_ok D77a_ok (args := A77a) (fun _ => by kernel_rfl) (fun _ => by show 5 ≤ Try.f77.ntmps; exact of_decide_eq_true (by kernel_rfl)) (cutsIn_ok ⟨fun c' h => (C77a_172_ok N (F77ak N k) (V77a_rec N k) N c' h), ⟨fun c' h => (C77a_698_ok N (F77ak N k) (V77a_rec N k) N c' h), ⟨fun c' h => (C77a_428_ok N (F77ak N k) (V77a_rec N k) N c' h), ⟨fun c' h => (C77a_1722_ok N (F77ak N k) (V77a_rec N k) N c' h), ⟨fun c' h => (C77a_1020_ok N (F77ak N k) (V77a_rec N k) N c' h), trivial⟩⟩⟩⟩⟩) (fun x => match x with | (x0, x1, x2, x3, x4, x5) => F77a_eq N (F77ak N k) x0 x1 x2 x3 x4 x5)

theorem V77a_ok (N : Nat) : FOK Try.prog 77 (V77a N) :=
  (V77a_rec N N)

noncomputable def T77 (N : Nat) : Pk → Tr Pk := (V77a N)

theorem T77_ok (N : Nat) : FOK Try.prog 77 (T77 N) := (V77a_ok N)


end Go.Proofs.Ytpjkklailofkjaa.Am

set_option linter.unusedVariables false
set_option maxRecDepth 100000
namespace Go.Proofs.Ytpjkklailofkjaa.Am
open Go.Am

/-! ## f70a: slices.stableCmpFunc[mirador/huffman.bundle] -/

noncomputable def I70a : Pk → Option (Nat × Nat × Int × (List (Int × ((List Int) × Unit))))
  | ⟨[.sl 0 (some (x0, x1)), .v (.int .i64 x2), .v (.func (.func 56) ⟨[]⟩ ⟨[]⟩)], [some (.row (.cons (.int .i64) (.cons (.sl (.int .i64)) .unit)) 81 x3)]⟩ => some (x0, x1, x2, x3)
  | _ => none

noncomputable def J70a (x : Nat × Nat × Int × (List (Int × ((List Int) × Unit)))) : Pk := ⟨[.sl 0 (some ((x.1), (x.2.1))), .v (.int .i64 (x.2.2.1)), .v (.func (.func 56) ⟨[]⟩ ⟨[]⟩)], [some (.row (.cons (.int .i64) (.cons (.sl (.int .i64)) .unit)) 81 (x.2.2.2))]⟩

theorem I70a_ok : ∀ pk x, I70a pk = some x → pk = J70a x := by
  intro pk x h
  unfold I70a at h
  split at h <;> first | (cases h; rfl) | cases h

noncomputable def A70a : List TV := [.adr 0 []]

noncomputable def tab70a (N : Nat) : List (Nat × (Pk → Tr Pk)) := [(76, T76 N), (77, T77 N), (56, T56 N)]

theorem tab70a_ok (N : Nat) : TabOK Try.prog (tab70a N) := ⟨T76_ok N, ⟨T77_ok N, ⟨T56_ok N, trivial⟩⟩⟩

def X70a_28 : Ex → List Nat
  | .ret => []
  | .exit 0 => [7, 1, 0, 2, 6]
  | _ => []

def X70a_3988 : Ex → List Nat
  | .ret => []
  | .exit 4 => [7, 6, 1, 0, 2]
  | .exit 3 => [1, 0, 2, 6]
  | .exit 2 => []
  | _ => []

def X70a_62 : Ex → List Nat
  | .ret => []
  | .exit 2 => []
  | _ => []

noncomputable def I70a_28 : Pk → Option (Int × Int × Int × Nat × Nat × Int × (List (Int × ((List Int) × Unit))))
  | ⟨[.v (.int .i64 x0), .v (.int .i64 x1), .v (.int .i64 x2), .sl 0 (some ((x3, x4))), .v ((Value.func (Fn.func (56 : FuncId)) (Array.mk []) (Array.mk []))), .v (.int .i64 x5)], [some (.row (Ty.cons (Ty.int IntKind.i64) (Ty.cons (Ty.sl (Ty.int IntKind.i64)) Ty.unit)) 81 x6)]⟩ => some (x0, x1, x2, x3, x4, x5, x6)
  | _ => none

noncomputable def J70a_28 (x : Int × Int × Int × Nat × Nat × Int × (List (Int × ((List Int) × Unit)))) : Pk := ⟨[.v (.int .i64 (x.1)), .v (.int .i64 (x.2.1)), .v (.int .i64 (x.2.2.1)), .sl 0 (some (((x.2.2.2.1), (x.2.2.2.2.1)))), .v ((Value.func (Fn.func (56 : FuncId)) (Array.mk []) (Array.mk []))), .v (.int .i64 (x.2.2.2.2.2.1))], [some (.row (Ty.cons (Ty.int IntKind.i64) (Ty.cons (Ty.sl (Ty.int IntKind.i64)) Ty.unit)) 81 (x.2.2.2.2.2.2))]⟩

theorem I70a_28_ok : ∀ pk x, I70a_28 pk = some x → pk = J70a_28 x := by
  intro pk x h
  unfold I70a_28 at h
  split at h <;> first | (cases h; rfl) | cases h

noncomputable def O70a_28 (r : Int × Int × Nat × Nat × Int × (List (Int × ((List Int) × Unit)))) : Tr (Ex × Pk) := .ret (.exit 0, ⟨[.v (.int .i64 (r.1)), .v (.int .i64 (r.2.1)), .sl 0 (some (((r.2.2.1), (r.2.2.2.1)))), .v ((Value.func (Fn.func (56 : FuncId)) (Array.mk []) (Array.mk []))), .v (.int .i64 (r.2.2.2.2.1))], [some (.row (Ty.cons (Ty.int IntKind.i64) (Ty.cons (Ty.sl (Ty.int IntKind.i64)) Ty.unit)) 81 (r.2.2.2.2.2))]⟩)

noncomputable def D70a_28 : Ex × Pk → Option (Int × Int × Nat × Nat × Int × (List (Int × ((List Int) × Unit))))
  | (.exit 0, ⟨[.v (.int .i64 x0), .v (.int .i64 x1), .sl 0 (some ((x2, x3))), .v ((Value.func (Fn.func (56 : FuncId)) (Array.mk []) (Array.mk []))), .v (.int .i64 x4)], [some (.row (Ty.cons (Ty.int IntKind.i64) (Ty.cons (Ty.sl (Ty.int IntKind.i64)) Ty.unit)) 81 x5)]⟩) => some ((x0, x1, x2, x3, x4, x5))
  | _ => none

theorem D70a_28_ok : ∀ y r, D70a_28 y = some r → ∀ z, (O70a_28 r).to z → y = z := by
  intro y r h
  unfold D70a_28 at h
  split at h <;> first | (cases h; intro z hz; exact Option.some.inj hz) | cases h

noncomputable def B70a_28 (N : Nat) (f : (Int × Int × Int × Nat × Nat × Int × (List (Int × ((List Int) × Unit)))) → Option (Int × Int × Nat × Nat × Int × (List (Int × ((List Int) × Unit))))) : (Int × Int × Int × Nat × Nat × Int × (List (Int × ((List Int) × Unit)))) → Option (Int × Int × Nat × Nat × Int × (List (Int × ((List Int) × Unit))))
  | (x0, x1, x2, x3, x4, x5, x6) =>
  iteP (decide (x1 ≤ x2)) (
    Option.bind (F76a N (x3, x4, x0, x1, x6)) fun y0 =>
    Option.bind (f (x1, IntKind.wrap IntKind.i64 (x1 + x5), x2, x3, x4, x5, y0)) fun r => some r) (
    some ((x0, x2, x3, x4, x5, x6)))

noncomputable def F70a_28 (N : Nat) : Nat → (Int × Int × Int × Nat × Nat × Int × (List (Int × ((List Int) × Unit)))) → Option (Int × Int × Nat × Nat × Int × (List (Int × ((List Int) × Unit))))
  | 0, _ => none
  | k + 1, x => B70a_28 N (F70a_28 N k) x

noncomputable def C70a_28 (N : Nat) (k : Nat) : Cut := ⟨[7, 8, 1, 0, 2, 6], X70a_28, tellX I70a_28 (F70a_28 N k) O70a_28⟩

theorem B70a_28_eq (N : Nat) (f : (Int × Int × Int × Nat × Nat × Int × (List (Int × ((List Int) × Unit)))) → Option (Int × Int × Nat × Nat × Int × (List (Int × ((List Int) × Unit))))) (x0 : Int) (x1 : Int) (x2 : Int) (x3 : Nat) (x4 : Nat) (x5 : Int) (x6 : (List (Int × ((List Int) × Unit)))) : (roundEv (mkE Try.prog ownT (tab70a N) []) Try.f70.ntmps A70a (loopAt (bod Try.f70) 28) 28 ⟨[7, 8, 1, 0, 2, 6], X70a_28, tellX I70a_28 f O70a_28⟩ (J70a_28 (x0, x1, x2, x3, x4, x5, x6))).run D70a_28 = B70a_28 N f (x0, x1, x2, x3, x4, x5, x6) := by kernel_rfl

theorem C70a_28_ok (N : Nat) (k : Nat) : ∀ c', At (bod Try.f70) 28 c' → CutOK Try.prog Try.f70.ntmps (idsL A70a) c' (C70a_28 N k) :=
  loop_ok (E := (mkE Try.prog ownT (tab70a N) [])) (mkE_ok mix (tab70a_ok N)) (cutsIn_ok trivial) (fuel := 200) (by decide +kernel) (by kernel_rfl) I70a_28_ok D70a_28_ok (B70a_28 N) (F70a_28 N) (fun _ => rfl) (fun _ _ => rfl) (fun f x => match x with | (x0, x1, x2, x3, x4, x5, x6) => B70a_28_eq N f x0 x1 x2 x3 x4 x5 x6) k

noncomputable def I70a_62 : Pk → Option (Int × Nat × Nat × Int × (List (Int × ((List Int) × Unit))))
  | ⟨[.v (.int .i64 x0), .sl 0 (some ((x1, x2))), .v ((Value.func (Fn.func (56 : FuncId)) (Array.mk []) (Array.mk []))), .v (.int .i64 x3)], [some (.row (Ty.cons (Ty.int IntKind.i64) (Ty.cons (Ty.sl (Ty.int IntKind.i64)) Ty.unit)) 81 x4)]⟩ => some (x0, x1, x2, x3, x4)
  | _ => none

noncomputable def J70a_62 (x : Int × Nat × Nat × Int × (List (Int × ((List Int) × Unit)))) : Pk := ⟨[.v (.int .i64 (x.1)), .sl 0 (some (((x.2.1), (x.2.2.1)))), .v ((Value.func (Fn.func (56 : FuncId)) (Array.mk []) (Array.mk []))), .v (.int .i64 (x.2.2.2.1))], [some (.row (Ty.cons (Ty.int IntKind.i64) (Ty.cons (Ty.sl (Ty.int IntKind.i64)) Ty.unit)) 81 (x.2.2.2.2))]⟩

theorem I70a_62_ok : ∀ pk x, I70a_62 pk = some x → pk = J70a_62 x := by
  intro pk x h
  unfold I70a_62 at h
  split at h <;> first | (cases h; rfl) | cases h

noncomputable def I70a_3988 : Pk → Option (Int × Int × Int × Nat × Nat × Int × (List (Int × ((List Int) × Unit))))
  | ⟨[.v (.int .i64 x0), .v (.int .i64 x1), .v (.int .i64 x2), .sl 0 (some ((x3, x4))), .v ((Value.func (Fn.func (56 : FuncId)) (Array.mk []) (Array.mk []))), .v (.int .i64 x5)], [some (.row (Ty.cons (Ty.int IntKind.i64) (Ty.cons (Ty.sl (Ty.int IntKind.i64)) Ty.unit)) 81 x6)]⟩ => some (x0, x1, x2, x3, x4, x5, x6)
  | _ => none

noncomputable def J70a_3988 (x : Int × Int × Int × Nat × Nat × Int × (List (Int × ((List Int) × Unit)))) : Pk := ⟨[.v (.int .i64 (x.1)), .v (.int .i64 (x.2.1)), .v (.int .i64 (x.2.2.1)), .sl 0 (some (((x.2.2.2.1), (x.2.2.2.2.1)))), .v ((Value.func (Fn.func (56 : FuncId)) (Array.mk []) (Array.mk []))), .v (.int .i64 (x.2.2.2.2.2.1))], [some (.row (Ty.cons (Ty.int IntKind.i64) (Ty.cons (Ty.sl (Ty.int IntKind.i64)) Ty.unit)) 81 (x.2.2.2.2.2.2))]⟩

theorem I70a_3988_ok : ∀ pk x, I70a_3988 pk = some x → pk = J70a_3988 x := by
  intro pk x h
  unfold I70a_3988 at h
  split at h <;> first | (cases h; rfl) | cases h

noncomputable def O70a_3988 (r : Int × Int × Int × Nat × Nat × (List (Int × ((List Int) × Unit)))) : Tr (Ex × Pk) := .ret (.exit 4, ⟨[.v (.int .i64 (r.1)), .v (.int .i64 (r.2.1)), .v (.int .i64 (r.2.2.1)), .sl 0 (some (((r.2.2.2.1), (r.2.2.2.2.1)))), .v ((Value.func (Fn.func (56 : FuncId)) (Array.mk []) (Array.mk [])))], [some (.row (Ty.cons (Ty.int IntKind.i64) (Ty.cons (Ty.sl (Ty.int IntKind.i64)) Ty.unit)) 81 (r.2.2.2.2.2))]⟩)

noncomputable def D70a_3988 : Ex × Pk → Option (Int × Int × Int × Nat × Nat × (List (Int × ((List Int) × Unit))))
  | (.exit 4, ⟨[.v (.int .i64 x0), .v (.int .i64 x1), .v (.int .i64 x2), .sl 0 (some ((x3, x4))), .v ((Value.func (Fn.func (56 : FuncId)) (Array.mk []) (Array.mk [])))], [some (.row (Ty.cons (Ty.int IntKind.i64) (Ty.cons (Ty.sl (Ty.int IntKind.i64)) Ty.unit)) 81 x5)]⟩) => some ((x0, x1, x2, x3, x4, x5))
  | _ => none

theorem D70a_3988_ok : ∀ y r, D70a_3988 y = some r → ∀ z, (O70a_3988 r).to z → y = z := by
  intro y r h
  unfold D70a_3988 at h
  split at h <;> first | (cases h; intro z hz; exact Option.some.inj hz) | cases h

noncomputable def B70a_3988 (N : Nat) (f : (Int × Int × Int × Nat × Nat × Int × (List (Int × ((List Int) × Unit)))) → Option (Int × Int × Int × Nat × Nat × (List (Int × ((List Int) × Unit))))) : (Int × Int × Int × Nat × Nat × Int × (List (Int × ((List Int) × Unit)))) → Option (Int × Int × Int × Nat × Nat × (List (Int × ((List Int) × Unit))))
  | (x0, x1, x2, x3, x4, x5, x6) =>
  iteP (decide (x1 ≤ x2)) (
    Option.bind (F77a N (x3, x4, x0, IntKind.wrap IntKind.i64 (x0 + x5), x1, x6)) fun y0 =>
    Option.bind (f (x1, IntKind.wrap IntKind.i64 (x1 + IntKind.wrap IntKind.i64 ((2 : Int) * x5)), x2, x3, x4, x5, y0)) fun r => some r) (
    some ((x0, x5, x2, x3, x4, x6)))

noncomputable def F70a_3988 (N : Nat) : Nat → (Int × Int × Int × Nat × Nat × Int × (List (Int × ((List Int) × Unit)))) → Option (Int × Int × Int × Nat × Nat × (List (Int × ((List Int) × Unit))))
  | 0, _ => none
  | k + 1, x => B70a_3988 N (F70a_3988 N k) x

noncomputable def C70a_3988 (N : Nat) (k : Nat) : Cut := ⟨[7, 8, 1, 0, 2, 6], X70a_3988, tellX I70a_3988 (F70a_3988 N k) O70a_3988⟩

theorem B70a_3988_eq (N : Nat) (f : (Int × Int × Int × Nat × Nat × Int × (List (Int × ((List Int) × Unit)))) → Option (Int × Int × Int × Nat × Nat × (List (Int × ((List Int) × Unit))))) (x0 : Int) (x1 : Int) (x2 : Int) (x3 : Nat) (x4 : Nat) (x5 : Int) (x6 : (List (Int × ((List Int) × Unit)))) : (roundEv (mkE Try.prog ownT (tab70a N) [(28, (C70a_28 N N))]) Try.f70.ntmps A70a (loopAt (bod Try.f70) 3988) 3988 ⟨[7, 8, 1, 0, 2, 6], X70a_3988, tellX I70a_3988 f O70a_3988⟩ (J70a_3988 (x0, x1, x2, x3, x4, x5, x6))).run D70a_3988 = B70a_3988 N f (x0, x1, x2, x3, x4, x5, x6) := by kernel_rfl

theorem C70a_3988_ok (N : Nat) (k : Nat) : ∀ c', At (bod Try.f70) 3988 c' → CutOK Try.prog Try.f70.ntmps (idsL A70a) c' (C70a_3988 N k) :=
  loop_ok (E := (mkE Try.prog ownT (tab70a N) [(28, (C70a_28 N N))])) (mkE_ok mix (tab70a_ok N)) (cutsIn_ok ⟨fun c' h => (C70a_28_ok N N c' h), trivial⟩) (fuel := 200) (by decide +kernel) (by kernel_rfl) I70a_3988_ok D70a_3988_ok (B70a_3988 N) (F70a_3988 N) (fun _ => rfl) (fun _ _ => rfl) (fun f x => match x with | (x0, x1, x2, x3, x4, x5, x6) => B70a_3988_eq N f x0 x1 x2 x3 x4 x5 x6) k

noncomputable def O70a_62 (r : (List (Int × ((List Int) × Unit)))) : Tr (Ex × Pk) := .ret (.exit 2, ⟨[], [some (.row (Ty.cons (Ty.int IntKind.i64) (Ty.cons (Ty.sl (Ty.int IntKind.i64)) Ty.unit)) 81 (r))]⟩)

noncomputable def D70a_62 : Ex × Pk → Option ((List (Int × ((List Int) × Unit))))
  | (.exit 2, ⟨[], [some (.row (Ty.cons (Ty.int IntKind.i64) (Ty.cons (Ty.sl (Ty.int IntKind.i64)) Ty.unit)) 81 x0)]⟩) => some (x0)
  | _ => none

theorem D70a_62_ok : ∀ y r, D70a_62 y = some r → ∀ z, (O70a_62 r).to z → y = z := by
  intro y r h
  unfold D70a_62 at h
  split at h <;> first | (cases h; intro z hz; exact Option.some.inj hz) | cases h

noncomputable def B70a_62 (N : Nat) (f : (Int × Nat × Nat × Int × (List (Int × ((List Int) × Unit)))) → Option ((List (Int × ((List Int) × Unit))))) : (Int × Nat × Nat × Int × (List (Int × ((List Int) × Unit)))) → Option ((List (Int × ((List Int) × Unit))))
  | (x0, x1, x2, x3, x4) =>
  iteP (decide (x3 < x0)) (
    Option.bind (F70a_3988 N N ((0 : Int), IntKind.wrap IntKind.i64 ((2 : Int) * x3), x0, x1, x2, x3, x4)) fun y0 =>
    iteP (decide (IntKind.wrap IntKind.i64 (Prod.fst y0 + Prod.fst (Prod.snd y0)) < Prod.fst (Prod.snd (Prod.snd y0)))) (
      Option.bind (F77a N (Prod.fst (Prod.snd (Prod.snd (Prod.snd y0))), Prod.fst (Prod.snd (Prod.snd (Prod.snd (Prod.snd y0)))), Prod.fst y0, IntKind.wrap IntKind.i64 (Prod.fst y0 + Prod.fst (Prod.snd y0)), Prod.fst (Prod.snd (Prod.snd y0)), Prod.snd (Prod.snd (Prod.snd (Prod.snd (Prod.snd y0)))))) fun y1 =>
      Option.bind (f (Prod.fst (Prod.snd (Prod.snd y0)), Prod.fst (Prod.snd (Prod.snd (Prod.snd y0))), Prod.fst (Prod.snd (Prod.snd (Prod.snd (Prod.snd y0)))), IntKind.wrap IntKind.i64 (Prod.fst (Prod.snd y0) * (2 : Int)), y1)) fun r => some r) (
      Option.bind (f (Prod.fst (Prod.snd (Prod.snd y0)), Prod.fst (Prod.snd (Prod.snd (Prod.snd y0))), Prod.fst (Prod.snd (Prod.snd (Prod.snd (Prod.snd y0)))), IntKind.wrap IntKind.i64 (Prod.fst (Prod.snd y0) * (2 : Int)), Prod.snd (Prod.snd (Prod.snd (Prod.snd (Prod.snd y0)))))) fun r => some r)) (
    some (x4))

noncomputable def F70a_62 (N : Nat) : Nat → (Int × Nat × Nat × Int × (List (Int × ((List Int) × Unit)))) → Option ((List (Int × ((List Int) × Unit))))
  | 0, _ => none
  | k + 1, x => B70a_62 N (F70a_62 N k) x

noncomputable def C70a_62 (N : Nat) (k : Nat) : Cut := ⟨[1, 0, 2, 6], X70a_62, tellX I70a_62 (F70a_62 N k) O70a_62⟩

theorem B70a_62_eq (N : Nat) (f : (Int × Nat × Nat × Int × (List (Int × ((List Int) × Unit)))) → Option ((List (Int × ((List Int) × Unit))))) (x0 : Int) (x1 : Nat) (x2 : Nat) (x3 : Int) (x4 : (List (Int × ((List Int) × Unit)))) : (roundEv (mkE Try.prog ownT (tab70a N) [(28, (C70a_28 N N)), (3988, (C70a_3988 N N))]) Try.f70.ntmps A70a (loopAt (bod Try.f70) 62) 62 ⟨[1, 0, 2, 6], X70a_62, tellX I70a_62 f O70a_62⟩ (J70a_62 (x0, x1, x2, x3, x4))).run D70a_62 = B70a_62 N f (x0, x1, x2, x3, x4) := by kernel_rfl

theorem C70a_62_ok (N : Nat) (k : Nat) : ∀ c', At (bod Try.f70) 62 c' → CutOK Try.prog Try.f70.ntmps (idsL A70a) c' (C70a_62 N k) :=
  loop_ok (E := (mkE Try.prog ownT (tab70a N) [(28, (C70a_28 N N)), (3988, (C70a_3988 N N))])) (mkE_ok mix (tab70a_ok N)) (cutsIn_ok ⟨fun c' h => (C70a_28_ok N N c' h), ⟨fun c' h => (C70a_3988_ok N N c' h), trivial⟩⟩) (fuel := 200) (by decide +kernel) (by kernel_rfl) I70a_62_ok D70a_62_ok (B70a_62 N) (F70a_62 N) (fun _ => rfl) (fun _ _ => rfl) (fun f x => match x with | (x0, x1, x2, x3, x4) => B70a_62_eq N f x0 x1 x2 x3 x4) k

noncomputable def O70a (r : (List (Int × ((List Int) × Unit)))) : Tr (Pk) := .ret ⟨[.tup []], [some (.row (Ty.cons (Ty.int IntKind.i64) (Ty.cons (Ty.sl (Ty.int IntKind.i64)) Ty.unit)) 81 (r))]⟩

noncomputable def D70a : Pk → Option ((List (Int × ((List Int) × Unit))))
  | ⟨[.tup []], [some (.row (Ty.cons (Ty.int IntKind.i64) (Ty.cons (Ty.sl (Ty.int IntKind.i64)) Ty.unit)) 81 x0)]⟩ => some (x0)
  | _ => none

theorem D70a_ok : ∀ y r, D70a y = some r → ∀ z, (O70a r).to z → y = z := by
  intro y r h
  unfold D70a at h
  split at h <;> first | (cases h; intro z hz; exact Option.some.inj hz) | cases h

noncomputable def F70a (N : Nat) : (Nat × Nat × Int × (List (Int × ((List Int) × Unit)))) → Option ((List (Int × ((List Int) × Unit))))
  | (x0, x1, x2, x3) =>
  Option.bind (F70a_28 N N ((0 : Int), (20 : Int), x2, x0, x1, (20 : Int), x3)) fun y0 =>
  Option.bind (F76a N (Prod.fst (Prod.snd (Prod.snd y0)), Prod.fst (Prod.snd (Prod.snd (Prod.snd y0))), Prod.fst y0, Prod.fst (Prod.snd y0), Prod.snd (Prod.snd (Prod.snd (Prod.snd (Prod.snd y0)))))) fun y1 =>
  Option.bind (F70a_62 N N (Prod.fst (Prod.snd y0), Prod.fst (Prod.snd (Prod.snd y0)), Prod.fst (Prod.snd (Prod.snd (Prod.snd y0))), Prod.fst (Prod.snd (Prod.snd (Prod.snd (Prod.snd y0)))), y1)) fun y2 =>
  some (y2)

theorem F70a_eq (N : Nat) (x0 : Nat) (x1 : Nat) (x2 : Int) (x3 : (List (Int × ((List Int) × Unit)))) : (fnEv (mkE Try.prog ownT (tab70a N) [(28, (C70a_28 N N)), (3988, (C70a_3988 N N)), (62, (C70a_62 N N))]) Try.f70 (J70a (x0, x1, x2, x3))).run D70a = F70a N (x0, x1, x2, x3) := by kernel_rfl

noncomputable def V70a (N : Nat) : Pk → Tr Pk := tell I70a (F70a N) O70a

theorem V70a_ok (N : Nat) : FOK Try.prog 70 (V70a N) :=
  (tell_ok (E := (mkE Try.prog ownT (tab70a N) [(28, (C70a_28 N N)), (3988, (C70a_3988 N N)), (62, (C70a_62 N N))])) (mkE_ok mix (tab70a_ok N)) Try.func70 (show Try.f70.body = some (bod Try.f70) by kernel_rfl) (by decide +kernel) (F := F70a N) I70a_ok D70a_ok (args := A70a) (fun _ => by kernel_rfl) (fun _ => by show 3 ≤ Try.f70.ntmps; exact of_decide_eq_true (by kernel_rfl)) (cutsIn_ok ⟨fun c' h => (C70a_28_ok N N c' h), ⟨fun c' h => (C70a_3988_ok N N c' h), ⟨fun c' h => (C70a_62_ok N N c' h), trivial⟩⟩⟩) (fun x => match x with | (x0, x1, x2, x3) => F70a_eq N x0 x1 x2 x3))

noncomputable def T70 (N : Nat) : Pk → Tr Pk := (V70a N)

theorem T70_ok (N : Nat) : FOK Try.prog 70 (T70 N) := (V70a_ok N)

/-! ## f55a: slices.SortStableFunc[[]mirador/huffman.bundle,mirador/huffman.bundle] -/

noncomputable def I55a : Pk → Option (Nat × Nat × (List (Int × ((List Int) × Unit))))
  | ⟨[.sl 0 (some (x0, x1)), .v (.func (.func 56) ⟨[]⟩ ⟨[]⟩)], [some (.row (.cons (.int .i64) (.cons (.sl (.int .i64)) .unit)) 81 x2)]⟩ => some (x0, x1, x2)
  | _ => none

noncomputable def J55a (x : Nat × Nat × (List (Int × ((List Int) × Unit)))) : Pk := ⟨[.sl 0 (some ((x.1), (x.2.1))), .v (.func (.func 56) ⟨[]⟩ ⟨[]⟩)], [some (.row (.cons (.int .i64) (.cons (.sl (.int .i64)) .unit)) 81 (x.2.2))]⟩

theorem I55a_ok : ∀ pk x, I55a pk = some x → pk = J55a x := by
  intro pk x h
  unfold I55a at h
  split at h <;> first | (cases h; rfl) | cases h

noncomputable def A55a : List TV := [.adr 0 []]

noncomputable def tab55a (N : Nat) : List (Nat × (Pk → Tr Pk)) := [(70, T70 N), (56, T56 N)]

theorem tab55a_ok (N : Nat) : TabOK Try.prog (tab55a N) := ⟨T70_ok N, ⟨T56_ok N, trivial⟩⟩

noncomputable def O55a (r : (List (Int × ((List Int) × Unit)))) : Tr (Pk) := .ret ⟨[.tup []], [some (.row (Ty.cons (Ty.int IntKind.i64) (Ty.cons (Ty.sl (Ty.int IntKind.i64)) Ty.unit)) 81 (r))]⟩

noncomputable def D55a : Pk → Option ((List (Int × ((List Int) × Unit))))
  | ⟨[.tup []], [some (.row (Ty.cons (Ty.int IntKind.i64) (Ty.cons (Ty.sl (Ty.int IntKind.i64)) Ty.unit)) 81 x0)]⟩ => some (x0)
  | _ => none

theorem D55a_ok : ∀ y r, D55a y = some r → ∀ z, (O55a r).to z → y = z := by
  intro y r h
  unfold D55a at h
  split at h <;> first | (cases h; intro z hz; exact Option.some.inj hz) | cases h

noncomputable def F55a (N : Nat) : (Nat × Nat × (List (Int × ((List Int) × Unit)))) → Option ((List (Int × ((List Int) × Unit))))
  | (x0, x1, x2) =>
  Option.bind (F70a N (x0, x1, (↑x1 : Int), x2)) fun y0 =>
  some (y0)

theorem F55a_eq (N : Nat) (x0 : Nat) (x1 : Nat) (x2 : (List (Int × ((List Int) × Unit)))) : (fnEv (mkE Try.prog ownT (tab55a N) []) Try.f55 (J55a (x0, x1, x2))).run D55a = F55a N (x0, x1, x2) := by kernel_rfl

noncomputable def V55a (N : Nat) : Pk → Tr Pk := tell I55a (F55a N) O55a

theorem V55a_ok (N : Nat) : FOK Try.prog 55 (V55a N) :=
  (tell_ok (E := (mkE Try.prog ownT (tab55a N) [])) (mkE_ok mix (tab55a_ok N)) Try.func55 (show Try.f55.body = some (bod Try.f55) by kernel_rfl) (by decide +kernel) (F := F55a N) I55a_ok D55a_ok (args := A55a) (fun _ => by kernel_rfl) (fun _ => by show 2 ≤ Try.f55.ntmps; exact of_decide_eq_true (by kernel_rfl)) (cutsIn_ok trivial) (fun x => match x with | (x0, x1, x2) => F55a_eq N x0 x1 x2))

noncomputable def T55 (N : Nat) : Pk → Tr Pk := (V55a N)

theorem T55_ok (N : Nat) : FOK Try.prog 55 (T55 N) := (V55a_ok N)

/-! ## f39: mirador/huffman.merged -/

noncomputable def I39 : Pk → Option ((List (Int × ((List Int) × Unit))) × (List (Int × ((List Int) × Unit))))
  | ⟨[.ro (.cons (.int .i64) (.cons (.sl (.int .i64)) .unit)) x0, .ro (.cons (.int .i64) (.cons (.sl (.int .i64)) .unit)) x1], []⟩ => some (x0, x1)
  | _ => none

noncomputable def J39 (x : (List (Int × ((List Int) × Unit))) × (List (Int × ((List Int) × Unit)))) : Pk := ⟨[.ro (.cons (.int .i64) (.cons (.sl (.int .i64)) .unit)) (x.1), .ro (.cons (.int .i64) (.cons (.sl (.int .i64)) .unit)) (x.2)], []⟩

theorem I39_ok : ∀ pk x, I39 pk = some x → pk = J39 x := by
  intro pk x h
  unfold I39 at h
  split at h <;> first | (cases h; rfl) | cases h

noncomputable def A39 : List TV := []

noncomputable def tab39 (N : Nat) : List (Nat × (Pk → Tr Pk)) := [(54, T54 N), (55, T55 N)]

theorem tab39_ok (N : Nat) : TabOK Try.prog (tab39 N) := ⟨T54_ok N, ⟨T55_ok N, trivial⟩⟩

noncomputable def O39 (r : (List (Int × ((List Int) × Unit)))) : Tr (Pk) := .ret ⟨[.sl 0 (none)], [some (.row (Ty.cons (Ty.int IntKind.i64) (Ty.cons (Ty.sl (Ty.int IntKind.i64)) Ty.unit)) 81 (r))]⟩

noncomputable def D39 : Pk → Option ((List (Int × ((List Int) × Unit))))
  | ⟨[.sl 0 (none)], [some (.row (Ty.cons (Ty.int IntKind.i64) (Ty.cons (Ty.sl (Ty.int IntKind.i64)) Ty.unit)) 81 x0)]⟩ => some (x0)
  | _ => none

theorem D39_ok : ∀ y r, D39 y = some r → ∀ z, (O39 r).to z → y = z := by
  intro y r h
  unfold D39 at h
  split at h <;> first | (cases h; intro z hz; exact Option.some.inj hz) | cases h

noncomputable def F39 (N : Nat) : ((List (Int × ((List Int) × Unit))) × (List (Int × ((List Int) × Unit)))) → Option ((List (Int × ((List Int) × Unit))))
  | (x0, x1) =>
  Option.bind (F54 N [x0, x1]) fun y0 =>
  Option.bind (F55a N ((0 : Nat), List.length y0, y0)) fun y1 =>
  some (y1)

theorem F39_eq (N : Nat) (x0 : (List (Int × ((List Int) × Unit)))) (x1 : (List (Int × ((List Int) × Unit)))) : (fnEv (mkE Try.prog ownT (tab39 N) []) Try.f39 (J39 (x0, x1))).run D39 = F39 N (x0, x1) := by kernel_rfl

noncomputable def T39 (N : Nat) : Pk → Tr Pk := postT frzP (tell I39 (F39 N) O39)

theorem T39_ok (N : Nat) : FOK Try.prog 39 (T39 N) :=
  postT_ok frzP_ok (tell_ok (E := (mkE Try.prog ownT (tab39 N) [])) (mkE_ok mix (tab39_ok N)) Try.func39 (show Try.f39.body = some (bod Try.f39) by kernel_rfl) (by decide +kernel) (F := F39 N) I39_ok D39_ok (args := A39) (fun _ => by kernel_rfl) (fun _ => by show 2 ≤ Try.f39.ntmps; exact of_decide_eq_true (by kernel_rfl)) (cutsIn_ok trivial) (fun x => match x with | (x0, x1) => F39_eq N x0 x1))

/-! ## f38: mirador/huffman.coins -/

noncomputable def I38 : Pk → Option ((List Int))
  | ⟨[.ro (.int .i64) x0], []⟩ => some x0
  | _ => none

noncomputable def J38 (x : (List Int)) : Pk := ⟨[.ro (.int .i64) (x)], []⟩

theorem I38_ok : ∀ pk x, I38 pk = some x → pk = J38 x := by
  intro pk x h
  unfold I38 at h
  split at h <;> first | (cases h; rfl) | cases h

noncomputable def A38 : List TV := []

noncomputable def tab38 (N : Nat) : List (Nat × (Pk → Tr Pk)) := [(39, T39 N)]

theorem tab38_ok (N : Nat) : TabOK Try.prog (tab38 N) := ⟨T39_ok N, trivial⟩

def X38_58 : Ex → List Nat
  | .ret => [2, 3]
  | .exit 0 => [4]
  | _ => []

noncomputable def I38_58 : Pk → Option (Int × (List Int) × Int × (List (Int × ((List Int) × Unit))))
  | ⟨[.v (.int .i64 x0), .ro (Ty.int IntKind.i64) x1, .v (.int .i64 x2), .sl 0 (none)], [some (.row (Ty.cons (Ty.int IntKind.i64) (Ty.cons (Ty.sl (Ty.int IntKind.i64)) Ty.unit)) 81 x3)]⟩ => some (x0, x1, x2, x3)
  | _ => none

noncomputable def J38_58 (x : Int × (List Int) × Int × (List (Int × ((List Int) × Unit)))) : Pk := ⟨[.v (.int .i64 (x.1)), .ro (Ty.int IntKind.i64) (x.2.1), .v (.int .i64 (x.2.2.1)), .sl 0 (none)], [some (.row (Ty.cons (Ty.int IntKind.i64) (Ty.cons (Ty.sl (Ty.int IntKind.i64)) Ty.unit)) 81 (x.2.2.2))]⟩

theorem I38_58_ok : ∀ pk x, I38_58 pk = some x → pk = J38_58 x := by
  intro pk x h
  unfold I38_58 at h
  split at h <;> first | (cases h; rfl) | cases h

noncomputable def O38_58 (r : ((Int × (List (Int × ((List Int) × Unit)))) ⊕ ((List (Int × ((List Int) × Unit)))))) : Tr (Ex × Pk) := .sum _ _ r (fun u => .ret (.ret, ⟨[.sl 0 (none), .v (.int .i64 (u.1))], [some (.row (Ty.cons (Ty.int IntKind.i64) (Ty.cons (Ty.sl (Ty.int IntKind.i64)) Ty.unit)) 81 (u.2))]⟩)) (fun v => .ret (.exit 0, ⟨[.sl 0 (none)], [some (.row (Ty.cons (Ty.int IntKind.i64) (Ty.cons (Ty.sl (Ty.int IntKind.i64)) Ty.unit)) 81 (v))]⟩))

noncomputable def D38_58 : Ex × Pk → Option (((Int × (List (Int × ((List Int) × Unit)))) ⊕ ((List (Int × ((List Int) × Unit))))))
  | (.ret, ⟨[.sl 0 (none), .v (.int .i64 x0)], [some (.row (Ty.cons (Ty.int IntKind.i64) (Ty.cons (Ty.sl (Ty.int IntKind.i64)) Ty.unit)) 81 x1)]⟩) => some (.inl ((x0, x1)))
  | (.exit 0, ⟨[.sl 0 (none)], [some (.row (Ty.cons (Ty.int IntKind.i64) (Ty.cons (Ty.sl (Ty.int IntKind.i64)) Ty.unit)) 81 x0)]⟩) => some (.inr (x0))
  | _ => none

theorem D38_58_ok : ∀ y r, D38_58 y = some r → ∀ z, (O38_58 r).to z → y = z := by
  intro y r h
  unfold D38_58 at h
  split at h <;> first | (cases h; intro z hz; exact Option.some.inj hz) | cases h

noncomputable def B38_58 (N : Nat) (f : (Int × (List Int) × Int × (List (Int × ((List Int) × Unit)))) → Option (((Int × (List (Int × ((List Int) × Unit)))) ⊕ ((List (Int × ((List Int) × Unit))))))) : (Int × (List Int) × Int × (List (Int × ((List Int) × Unit)))) → Option (((Int × (List (Int × ((List Int) × Unit)))) ⊕ ((List (Int × ((List Int) × Unit))))))
  | (x0, x1, x2, x3) =>
  iteP (decide (x2 < x0)) (
    iteP (within x2 (List.length x1)) (
      Option.bind (x1[Int.toNat x2]?) fun y0 =>
      iteP (decide (y0 < (0 : Int))) (
        some (.inl (((1 : Int), [])))) (
        iteP (decide (y0 > (1073741824 : Int))) (
          some (.inl (((1 : Int), [])))) (
          iteP (decide (y0 > (0 : Int))) (
            iteP (decide ((List.length x3 + List.length [(y0, [x2], ())]) * (32 : Nat) ≤ (140737488355328 : Nat) ∧ List.length x3 + List.length [(y0, [x2], ())] ≤ (140737488355328 : Nat))) (
              Option.bind (f (x0, x1, IntKind.wrap IntKind.i64 (x2 + (1 : Int)), x3 ++ [(y0, [x2], ())])) fun r => match r with | .inl (y) => some (.inl (y)) | .inr (y) => some (.inr (y))) (
              none)) (
            Option.bind (f (x0, x1, IntKind.wrap IntKind.i64 (x2 + (1 : Int)), x3)) fun r => match r with | .inl (y) => some (.inl (y)) | .inr (y) => some (.inr (y)))))) (
      none)) (
    some (.inr (x3)))

noncomputable def F38_58 (N : Nat) : Nat → (Int × (List Int) × Int × (List (Int × ((List Int) × Unit)))) → Option (((Int × (List (Int × ((List Int) × Unit)))) ⊕ ((List (Int × ((List Int) × Unit))))))
  | 0, _ => none
  | k + 1, x => B38_58 N (F38_58 N k) x

noncomputable def C38_58 (N : Nat) (k : Nat) : Cut := ⟨[8, 7, 9, 4], X38_58, tellX I38_58 (F38_58 N k) O38_58⟩

theorem B38_58_eq (N : Nat) (f : (Int × (List Int) × Int × (List (Int × ((List Int) × Unit)))) → Option (((Int × (List (Int × ((List Int) × Unit)))) ⊕ ((List (Int × ((List Int) × Unit))))))) (x0 : Int) (x1 : (List Int)) (x2 : Int) (x3 : (List (Int × ((List Int) × Unit)))) : (roundEv (mkE Try.prog ownT (tab38 N) []) Try.f38.ntmps A38 (loopAt (bod Try.f38) 58) 58 ⟨[8, 7, 9, 4], X38_58, tellX I38_58 f O38_58⟩ (J38_58 (x0, x1, x2, x3))).run D38_58 = B38_58 N f (x0, x1, x2, x3) := by kernel_rfl

theorem C38_58_ok (N : Nat) (k : Nat) : ∀ c', At (bod Try.f38) 58 c' → CutOK Try.prog Try.f38.ntmps (idsL A38) c' (C38_58 N k) :=
  loop_ok (E := (mkE Try.prog ownT (tab38 N) [])) (mkE_ok mix (tab38_ok N)) (cutsIn_ok trivial) (fuel := 200) (by decide +kernel) (by kernel_rfl) I38_58_ok D38_58_ok (B38_58 N) (F38_58 N) (fun _ => rfl) (fun _ _ => rfl) (fun f x => match x with | (x0, x1, x2, x3) => B38_58_eq N f x0 x1 x2 x3) k

noncomputable def O38 (r : ((Int × (List (Int × ((List Int) × Unit)))) ⊕ ((List (Int × ((List Int) × Unit))) × Int))) : Tr (Pk) := .sum _ _ r (fun u => .ret ⟨[.tup [.sl 0 (none), .v (.int .i64 (u.1))]], [some (.row (Ty.cons (Ty.int IntKind.i64) (Ty.cons (Ty.sl (Ty.int IntKind.i64)) Ty.unit)) 81 (u.2))]⟩) (fun v => .ret ⟨[.tup [.ro (Ty.cons (Ty.int IntKind.i64) (Ty.cons (Ty.sl (Ty.int IntKind.i64)) Ty.unit)) (v.1), .v (.int .i64 (v.2))]], []⟩)

noncomputable def D38 : Pk → Option (((Int × (List (Int × ((List Int) × Unit)))) ⊕ ((List (Int × ((List Int) × Unit))) × Int)))
  | ⟨[.tup [.sl 0 (none), .v (.int .i64 x0)]], [some (.row (Ty.cons (Ty.int IntKind.i64) (Ty.cons (Ty.sl (Ty.int IntKind.i64)) Ty.unit)) 81 x1)]⟩ => some (.inl ((x0, x1)))
  | ⟨[.tup [.ro (Ty.cons (Ty.int IntKind.i64) (Ty.cons (Ty.sl (Ty.int IntKind.i64)) Ty.unit)) x0, .v (.int .i64 x1)]], []⟩ => some (.inr ((x0, x1)))
  | _ => none

theorem D38_ok : ∀ y r, D38 y = some r → ∀ z, (O38 r).to z → y = z := by
  intro y r h
  unfold D38 at h
  split at h <;> first | (cases h; intro z hz; exact Option.some.inj hz) | cases h

noncomputable def F38 (N : Nat) : ((List Int)) → Option (((Int × (List (Int × ((List Int) × Unit)))) ⊕ ((List (Int × ((List Int) × Unit))) × Int)))
  | x0 =>
  Option.bind (F38_58 N N ((↑(List.length x0) : Int), x0, (0 : Int), [])) fun y0 =>
  match y0 with
  | .inl y1 =>
    some (.inl ((Prod.fst y1, Prod.snd y1)))
  | .inr y1 =>
    Option.bind (F39 N (y1, [])) fun y2 =>
    some (.inr ((y2, (0 : Int))))

theorem F38_eq (N : Nat) (x0 : (List Int)) : (fnEv (mkE Try.prog ownT (tab38 N) [(58, (C38_58 N N))]) Try.f38 (J38 x0)).run D38 = F38 N x0 := by kernel_rfl

noncomputable def T38 (N : Nat) : Pk → Tr Pk := postT frzP (tell I38 (F38 N) O38)

theorem T38_ok (N : Nat) : FOK Try.prog 38 (T38 N) :=
  postT_ok frzP_ok (tell_ok (E := (mkE Try.prog ownT (tab38 N) [(58, (C38_58 N N))])) (mkE_ok mix (tab38_ok N)) Try.func38 (show Try.f38.body = some (bod Try.f38) by kernel_rfl) (by decide +kernel) (F := F38 N) I38_ok D38_ok (args := A38) (fun _ => by kernel_rfl) (fun _ => by show 1 ≤ Try.f38.ntmps; exact of_decide_eq_true (by kernel_rfl)) (cutsIn_ok ⟨fun c' h => (C38_58_ok N N c' h), trivial⟩) (fun x => match x with | x0 => F38_eq N x0))

/-! ## f72: slices.Grow[[]int,int] -/

noncomputable def I72 : Pk → Option (Int)
  | ⟨[.v (.slice none 0 0), .v (.int .i64 x0)], []⟩ => some x0
  | _ => none

noncomputable def J72 (x : Int) : Pk := ⟨[.v (.slice none 0 0), .v (.int .i64 (x))], []⟩

theorem I72_ok : ∀ pk x, I72 pk = some x → pk = J72 x := by
  intro pk x h
  unfold I72 at h
  split at h <;> first | (cases h; rfl) | cases h

noncomputable def A72 : List TV := []

noncomputable def tab72 (N : Nat) : List (Nat × (Pk → Tr Pk)) := []

theorem tab72_ok (N : Nat) : TabOK Try.prog (tab72 N) := trivial

noncomputable def O72 (r : (((List Int)) ⊕ ((List Int)))) : Tr (Pk) := .sum _ _ r (fun u => .ret ⟨[.sl 0 (some ((0, 0)))], [some (.row (Ty.int IntKind.i64) 3 (u))]⟩) (fun v => .ret ⟨[.sl 0 (none)], [some (.row (Ty.int IntKind.i64) 3 (v))]⟩)

noncomputable def D72 : Pk → Option ((((List Int)) ⊕ ((List Int))))
  | ⟨[.sl 0 (some ((0, 0)))], [some (.row (Ty.int IntKind.i64) 3 x0)]⟩ => some (.inl (x0))
  | ⟨[.sl 0 (none)], [some (.row (Ty.int IntKind.i64) 3 x0)]⟩ => some (.inr (x0))
  | _ => none

theorem D72_ok : ∀ y r, D72 y = some r → ∀ z, (O72 r).to z → y = z := by
  intro y r h
  unfold D72 at h
  split at h <;> first | (cases h; intro z hz; exact Option.some.inj hz) | cases h

noncomputable def F72 (N : Nat) : (Int) → Option ((((List Int)) ⊕ ((List Int))))
  | x0 =>
  iteP (decide (x0 < (0 : Int))) (
    none) (
    iteP (decide (IntKind.wrap IntKind.i64 (x0 - (0 : Int)) > (0 : Int))) (
      iteP (decide ((0 : Int) < IntKind.wrap IntKind.i64 (x0 - (0 : Int)) ∧ IntKind.wrap IntKind.i64 (x0 - (0 : Int)) * (8 : Int) ≤ (140737488355328 : Int) ∧ IntKind.wrap IntKind.i64 (x0 - (0 : Int)) ≤ (140737488355328 : Int))) (
        iteP (decide ((0 : Int) ≤ (0 : Int) ∧ (0 : Int) ≤ (↑(List.length (List.replicate (Int.toNat (IntKind.wrap IntKind.i64 (x0 - (0 : Int)))) (0 : Int))) : Int))) (
          some (.inl (List.replicate (Int.toNat (IntKind.wrap IntKind.i64 (x0 - (0 : Int)))) (0 : Int)))) (
          none)) (
        none)) (
      some (.inr ([]))))

theorem F72_eq (N : Nat) (x0 : Int) : (fnEv (mkE Try.prog ownT (tab72 N) []) Try.f72 (J72 x0)).run D72 = F72 N x0 := by kernel_rfl

noncomputable def T72 (N : Nat) : Pk → Tr Pk := postT (trimP (Ty.int IntKind.i64) 3) (tell I72 (F72 N) O72)

theorem T72_ok (N : Nat) : FOK Try.prog 72 (T72 N) :=
  postT_ok (trimP_ok _ _) (tell_ok (E := (mkE Try.prog ownT (tab72 N) [])) (mkE_ok mix (tab72_ok N)) Try.func72 (show Try.f72.body = some (bod Try.f72) by kernel_rfl) (by decide +kernel) (F := F72 N) I72_ok D72_ok (args := A72) (fun _ => by kernel_rfl) (fun _ => by show 2 ≤ Try.f72.ntmps; exact of_decide_eq_true (by kernel_rfl)) (cutsIn_ok trivial) (fun x => match x with | x0 => F72_eq N x0))


end Go.Proofs.Ytpjkklailofkjaa.Am
