/- The seat's Go functions come to the Lean functions written here, wherever these give an answer (first part). -/
import Derived.Test.YtmcjfdognplgmaaAmC
import Derived.KernelRfl
import Derived.Test.YtmcjfdognplgmaaProg
set_option linter.unusedVariables false
set_option maxRecDepth 100000
namespace Go.Proofs.Ytmcjfdognplgmaa.Am
open Go.Am

theorem mix : Try.prog.follows .mixedOrders = true := by kernel_rfl

def ownT : FuncId → List Nat := ownL [(27, [2]), (28, [2]), (35, [2]), (41, [1, 0, 0]), (51, [1]), (66, [2]), (74, [2])]

/-! ## f58: mirador/symbols.extra -/

noncomputable def I58 : Pk → Option (Int × Int × Int)
  | ⟨[.v (.int .i64 x0), .v (.int .i64 x1), .v (.int .i64 x2)], []⟩ => some (x0, x1, x2)
  | _ => none

noncomputable def J58 (x : Int × Int × Int) : Pk := ⟨[.v (.int .i64 (x.1)), .v (.int .i64 (x.2.1)), .v (.int .i64 (x.2.2))], []⟩

theorem I58_ok : ∀ pk x, I58 pk = some x → pk = J58 x := by
  intro pk x h
  unfold I58 at h
  split at h <;> first | (cases h; rfl) | cases h

noncomputable def A58 : List TV := []

noncomputable def tab58 (N : Nat) : List (Nat × (Pk → Tr Pk)) := []

theorem tab58_ok (N : Nat) : TabOK Try.prog (tab58 N) := trivial

noncomputable def O58 (r : Int) : Tr (Pk) := .ret ⟨[.v (.int .i64 (r))], []⟩

noncomputable def D58 : Pk → Option (Int)
  | ⟨[.v (.int .i64 x0)], []⟩ => some (x0)
  | _ => none

theorem D58_ok : ∀ y r, D58 y = some r → ∀ z, (O58 r).to z → y = z := by
  intro y r h
  unfold D58 at h
  split at h <;> first | (cases h; intro z hz; exact Option.some.inj hz) | cases h

noncomputable def F58 (N : Nat) : (Int × Int × Int) → Option (Int)
  | (x0, x1, x2) =>
  if (decide (x2 = (0 : Int))) = true then
    none
  else
    if (decide (x1 = (0 : Int))) = true then
      none
    else
      some (IntKind.wrap IntKind.i64 ((if (0 : Int) > IntKind.wrap IntKind.i64 (IntKind.wrap IntKind.i64 (Int.tdiv (IntKind.wrap IntKind.i64 (x0 - x1)) x2) + (1 : Int)) then (0 : Int) else IntKind.wrap IntKind.i64 (IntKind.wrap IntKind.i64 (Int.tdiv (IntKind.wrap IntKind.i64 (x0 - x1)) x2) + (1 : Int))) * if (1 : Int) < IntKind.wrap IntKind.i64 (Int.tdiv x0 x1) then (1 : Int) else IntKind.wrap IntKind.i64 (Int.tdiv x0 x1)))

theorem F58_eq (N : Nat) (x0 : Int) (x1 : Int) (x2 : Int) : (fnEv (mkE Try.prog ownT (tab58 N) []) Try.f58 (J58 (x0, x1, x2))).run D58 = F58 N (x0, x1, x2) := by kernel_rfl

noncomputable def T58 (N : Nat) : Pk → Tr Pk := tell I58 (F58 N) O58

theorem T58_ok (N : Nat) : FOK Try.prog 58 (T58 N) :=
  tell_ok (E := (mkE Try.prog ownT (tab58 N) [])) (mkE_ok mix (tab58_ok N)) Try.func58 (show Try.f58.body = some (bod Try.f58) by kernel_rfl) (by decide +kernel) I58_ok D58_ok (args := A58) (fun _ => by kernel_rfl) (fun _ => by show 3 ≤ Try.f58.ntmps; exact of_decide_eq_true (by kernel_rfl)) (cutsIn_ok trivial) (fun x => match x with | (x0, x1, x2) => F58_eq N x0 x1 x2)

/-! ## f38: mirador/symbols.base -/

noncomputable def I38 : Pk → Option (Int × Int × Int × Int)
  | ⟨[.v (.int .i64 x0), .v (.int .i64 x1), .v (.int .i64 x2), .v (.int .i64 x3)], []⟩ => some (x0, x1, x2, x3)
  | _ => none

noncomputable def J38 (x : Int × Int × Int × Int) : Pk := ⟨[.v (.int .i64 (x.1)), .v (.int .i64 (x.2.1)), .v (.int .i64 (x.2.2.1)), .v (.int .i64 (x.2.2.2))], []⟩

theorem I38_ok : ∀ pk x, I38 pk = some x → pk = J38 x := by
  intro pk x h
  unfold I38 at h
  split at h <;> first | (cases h; rfl) | cases h

noncomputable def A38 : List TV := []

noncomputable def tab38 (N : Nat) : List (Nat × (Pk → Tr Pk)) := [(58, T58 N)]

theorem tab38_ok (N : Nat) : TabOK Try.prog (tab38 N) := ⟨T58_ok N, trivial⟩

def X38_58 : Ex → List Nat
  | .ret => [8, 9]
  | .exit 0 => [10, 0, 1, 2]
  | _ => []

noncomputable def I38_58 : Pk → Option (Int × Int × Int × Int × Int × Int)
  | ⟨[.v (.int .i64 x0), .v (.int .i64 x1), .v (.int .i64 x2), .v (.int .i64 x3), .v (.int .i64 x4), .v (.int .i64 x5)], []⟩ => some (x0, x1, x2, x3, x4, x5)
  | _ => none

noncomputable def J38_58 (x : Int × Int × Int × Int × Int × Int) : Pk := ⟨[.v (.int .i64 (x.1)), .v (.int .i64 (x.2.1)), .v (.int .i64 (x.2.2.1)), .v (.int .i64 (x.2.2.2.1)), .v (.int .i64 (x.2.2.2.2.1)), .v (.int .i64 (x.2.2.2.2.2))], []⟩

theorem I38_58_ok : ∀ pk x, I38_58 pk = some x → pk = J38_58 x := by
  intro pk x h
  unfold I38_58 at h
  split at h <;> first | (cases h; rfl) | cases h

noncomputable def O38_58 (r : Int × Int × Int × Int) : Tr (Ex × Pk) := .ret (.exit 0, ⟨[.v (.int .i64 (r.1)), .v (.int .i64 (r.2.1)), .v (.int .i64 (r.2.2.1)), .v (.int .i64 (r.2.2.2))], []⟩)

noncomputable def D38_58 : Ex × Pk → Option (Int × Int × Int × Int)
  | (.exit 0, ⟨[.v (.int .i64 x0), .v (.int .i64 x1), .v (.int .i64 x2), .v (.int .i64 x3)], []⟩) => some ((x0, x1, x2, x3))
  | _ => none

theorem D38_58_ok : ∀ y r, D38_58 y = some r → ∀ z, (O38_58 r).to z → y = z := by
  intro y r h
  unfold D38_58 at h
  split at h <;> first | (cases h; intro z hz; exact Option.some.inj hz) | cases h

noncomputable def B38_58 (N : Nat) (f : (Int × Int × Int × Int × Int × Int) → Option (Int × Int × Int × Int)) : (Int × Int × Int × Int × Int × Int) → Option (Int × Int × Int × Int)
  | (x0, x1, x2, x3, x4, x5) =>
  if (decide (x1 < x2)) = true then
    Option.bind (F58 N (x1, x4, x5)) fun y0 =>
    if (decide (y0 < (0 : Int))) = true then
      none
    else
      Option.bind (f (IntKind.wrap IntKind.i64 (x0 + IntKind.wrap IntKind.i64 ((1 : Int) * (2 : Int) ^ min (Int.toNat y0) (64 : Nat))), IntKind.wrap IntKind.i64 (x1 + (1 : Int)), x2, x3, x4, x5)) fun r => some r
  else
    some ((x0, x3, x4, x5))

noncomputable def F38_58 (N : Nat) : Nat → (Int × Int × Int × Int × Int × Int) → Option (Int × Int × Int × Int)
  | 0, _ => none
  | k + 1, x => B38_58 N (F38_58 N k) x

noncomputable def C38_58 (N k : Nat) : Cut := ⟨[10, 14, 13, 0, 1, 2], X38_58, tellX I38_58 (F38_58 N k) O38_58⟩

theorem B38_58_eq (N : Nat) (f : (Int × Int × Int × Int × Int × Int) → Option (Int × Int × Int × Int)) (x0 : Int) (x1 : Int) (x2 : Int) (x3 : Int) (x4 : Int) (x5 : Int) : (roundEv (mkE Try.prog ownT (tab38 N) []) Try.f38.ntmps A38 (loopAt (bod Try.f38) 58) 58 ⟨[10, 14, 13, 0, 1, 2], X38_58, tellX I38_58 f O38_58⟩ (J38_58 (x0, x1, x2, x3, x4, x5))).run D38_58 = B38_58 N f (x0, x1, x2, x3, x4, x5) := by kernel_rfl

theorem C38_58_ok (N k : Nat) : ∀ c', At (bod Try.f38) 58 c' → CutOK Try.prog Try.f38.ntmps (idsL A38) c' (C38_58 N k) :=
  loop_ok (E := (mkE Try.prog ownT (tab38 N) [])) (mkE_ok mix (tab38_ok N)) (cutsIn_ok trivial) (fuel := 200) (by decide +kernel) (by kernel_rfl) I38_58_ok D38_58_ok (B38_58 N) (F38_58 N) (fun _ => rfl) (fun _ _ => rfl) (fun f x => match x with | (x0, x1, x2, x3, x4, x5) => B38_58_eq N f x0 x1 x2 x3 x4 x5) k

noncomputable def O38 (r : Int × Int) : Tr (Pk) := .ret ⟨[.tup [.v (.int .i64 (r.1)), .v (.int .i64 (r.2))]], []⟩

noncomputable def D38 : Pk → Option (Int × Int)
  | ⟨[.tup [.v (.int .i64 x0), .v (.int .i64 x1)]], []⟩ => some ((x0, x1))
  | _ => none

theorem D38_ok : ∀ y r, D38 y = some r → ∀ z, (O38 r).to z → y = z := by
  intro y r h
  unfold D38 at h
  split at h <;> first | (cases h; intro z hz; exact Option.some.inj hz) | cases h

noncomputable def F38 (N : Nat) : (Int × Int × Int × Int) → Option (Int × Int)
  | (x0, x1, x2, x3) =>
  Option.bind (F38_58 N N (x3, (0 : Int), x0, x0, x1, x2)) fun y0 =>
  Option.bind (F58 N (Prod.fst (Prod.snd y0), Prod.fst (Prod.snd (Prod.snd y0)), Prod.snd (Prod.snd (Prod.snd y0)))) fun y1 =>
  some ((Prod.fst y0, y1))

theorem F38_eq (N : Nat) (x0 : Int) (x1 : Int) (x2 : Int) (x3 : Int) : (fnEv (mkE Try.prog ownT (tab38 N) [(58, (C38_58 N N))]) Try.f38 (J38 (x0, x1, x2, x3))).run D38 = F38 N (x0, x1, x2, x3) := by kernel_rfl

noncomputable def T38 (N : Nat) : Pk → Tr Pk := tell I38 (F38 N) O38

theorem T38_ok (N : Nat) : FOK Try.prog 38 (T38 N) :=
  tell_ok (E := (mkE Try.prog ownT (tab38 N) [(58, (C38_58 N N))])) (mkE_ok mix (tab38_ok N)) Try.func38 (show Try.f38.body = some (bod Try.f38) by kernel_rfl) (by decide +kernel) I38_ok D38_ok (args := A38) (fun _ => by kernel_rfl) (fun _ => by show 4 ≤ Try.f38.ntmps; exact of_decide_eq_true (by kernel_rfl)) (cutsIn_ok ⟨fun c' h => (C38_58_ok N N c' h), trivial⟩) (fun x => match x with | (x0, x1, x2, x3) => F38_eq N x0 x1 x2 x3)

/-! ## f15: mirador/symbols.LengthOf -/

noncomputable def I15 : Pk → Option (Int)
  | ⟨[.v (.int .i64 x0)], []⟩ => some x0
  | _ => none

noncomputable def J15 (x : Int) : Pk := ⟨[.v (.int .i64 (x))], []⟩

theorem I15_ok : ∀ pk x, I15 pk = some x → pk = J15 x := by
  intro pk x h
  unfold I15 at h
  split at h <;> first | (cases h; rfl) | cases h

noncomputable def A15 : List TV := []

noncomputable def tab15 (N : Nat) : List (Nat × (Pk → Tr Pk)) := [(38, T38 N)]

theorem tab15_ok (N : Nat) : TabOK Try.prog (tab15 N) := ⟨T38_ok N, trivial⟩

noncomputable def O15 (r : Int × Int) : Tr (Pk) := .ret ⟨[.tup [.v (.int .i64 (r.1)), .v (.int .i64 (r.2))]], []⟩

noncomputable def D15 : Pk → Option (Int × Int)
  | ⟨[.tup [.v (.int .i64 x0), .v (.int .i64 x1)]], []⟩ => some ((x0, x1))
  | _ => none

theorem D15_ok : ∀ y r, D15 y = some r → ∀ z, (O15 r).to z → y = z := by
  intro y r h
  unfold D15 at h
  split at h <;> first | (cases h; intro z hz; exact Option.some.inj hz) | cases h

noncomputable def F15 (N : Nat) : (Int) → Option (Int × Int)
  | x0 =>
  if (x0 == (285 : Int)) = true then
    some (((258 : Int), (0 : Int)))
  else
    if (decide (x0 < (257 : Int))) = true then
      some (((0 : Int), (0 : Int)))
    else
      if (decide (x0 > (285 : Int))) = true then
        some (((0 : Int), (0 : Int)))
      else
        Option.bind (F38 N (IntKind.wrap IntKind.i64 (x0 - (257 : Int)), (8 : Int), (4 : Int), (3 : Int))) fun y0 =>
        some ((Prod.fst y0, Prod.snd y0))

theorem F15_eq (N : Nat) (x0 : Int) : (fnEv (mkE Try.prog ownT (tab15 N) []) Try.f15 (J15 x0)).run D15 = F15 N x0 := by kernel_rfl

noncomputable def T15 (N : Nat) : Pk → Tr Pk := tell I15 (F15 N) O15

theorem T15_ok (N : Nat) : FOK Try.prog 15 (T15 N) :=
  tell_ok (E := (mkE Try.prog ownT (tab15 N) [])) (mkE_ok mix (tab15_ok N)) Try.func15 (show Try.f15.body = some (bod Try.f15) by kernel_rfl) (by decide +kernel) I15_ok D15_ok (args := A15) (fun _ => by kernel_rfl) (fun _ => by show 1 ≤ Try.f15.ntmps; exact of_decide_eq_true (by kernel_rfl)) (cutsIn_ok trivial) (fun x => match x with | x0 => F15_eq N x0)

/-! ## f17: mirador/symbols.DistanceOf -/

noncomputable def I17 : Pk → Option (Int)
  | ⟨[.v (.int .i64 x0)], []⟩ => some x0
  | _ => none

noncomputable def J17 (x : Int) : Pk := ⟨[.v (.int .i64 (x))], []⟩

theorem I17_ok : ∀ pk x, I17 pk = some x → pk = J17 x := by
  intro pk x h
  unfold I17 at h
  split at h <;> first | (cases h; rfl) | cases h

noncomputable def A17 : List TV := []

noncomputable def tab17 (N : Nat) : List (Nat × (Pk → Tr Pk)) := [(38, T38 N)]

theorem tab17_ok (N : Nat) : TabOK Try.prog (tab17 N) := ⟨T38_ok N, trivial⟩

noncomputable def O17 (r : Int × Int) : Tr (Pk) := .ret ⟨[.tup [.v (.int .i64 (r.1)), .v (.int .i64 (r.2))]], []⟩

noncomputable def D17 : Pk → Option (Int × Int)
  | ⟨[.tup [.v (.int .i64 x0), .v (.int .i64 x1)]], []⟩ => some ((x0, x1))
  | _ => none

theorem D17_ok : ∀ y r, D17 y = some r → ∀ z, (O17 r).to z → y = z := by
  intro y r h
  unfold D17 at h
  split at h <;> first | (cases h; intro z hz; exact Option.some.inj hz) | cases h

noncomputable def F17 (N : Nat) : (Int) → Option (Int × Int)
  | x0 =>
  if (decide (x0 < (0 : Int))) = true then
    some (((0 : Int), (0 : Int)))
  else
    if (decide (x0 ≥ (30 : Int))) = true then
      some (((0 : Int), (0 : Int)))
    else
      Option.bind (F38 N (x0, (4 : Int), (2 : Int), (1 : Int))) fun y0 =>
      some ((Prod.fst y0, Prod.snd y0))

theorem F17_eq (N : Nat) (x0 : Int) : (fnEv (mkE Try.prog ownT (tab17 N) []) Try.f17 (J17 x0)).run D17 = F17 N x0 := by kernel_rfl

noncomputable def T17 (N : Nat) : Pk → Tr Pk := tell I17 (F17 N) O17

theorem T17_ok (N : Nat) : FOK Try.prog 17 (T17 N) :=
  tell_ok (E := (mkE Try.prog ownT (tab17 N) [])) (mkE_ok mix (tab17_ok N)) Try.func17 (show Try.f17.body = some (bod Try.f17) by kernel_rfl) (by decide +kernel) I17_ok D17_ok (args := A17) (fun _ => by kernel_rfl) (fun _ => by show 1 ≤ Try.f17.ntmps; exact of_decide_eq_true (by kernel_rfl)) (cutsIn_ok trivial) (fun x => match x with | x0 => F17_eq N x0)

/-! ## f36a: mirador/symbols.find -/

noncomputable def I36a : Pk → Option (Int × Int × Int)
  | ⟨[.v (.int .i64 x0), .v (.int .i64 x1), .v (.int .i64 x2), .v (.func (.func 15) ⟨[]⟩ ⟨[]⟩)], []⟩ => some (x0, x1, x2)
  | _ => none

noncomputable def J36a (x : Int × Int × Int) : Pk := ⟨[.v (.int .i64 (x.1)), .v (.int .i64 (x.2.1)), .v (.int .i64 (x.2.2)), .v (.func (.func 15) ⟨[]⟩ ⟨[]⟩)], []⟩

theorem I36a_ok : ∀ pk x, I36a pk = some x → pk = J36a x := by
  intro pk x h
  unfold I36a at h
  split at h <;> first | (cases h; rfl) | cases h

noncomputable def A36a : List TV := []

noncomputable def tab36a (N : Nat) : List (Nat × (Pk → Tr Pk)) := [(15, T15 N)]

theorem tab36a_ok (N : Nat) : TabOK Try.prog (tab36a N) := ⟨T15_ok N, trivial⟩

def X36a_26 : Ex → List Nat
  | .ret => [8, 9, 10]
  | .exit 0 => []
  | _ => []

noncomputable def I36a_26 : Pk → Option (Int × Int × Int)
  | ⟨[.v (.int .i64 x0), .v ((Value.func (Fn.func (15 : FuncId)) (Array.mk []) (Array.mk []))), .v (.int .i64 x1), .v (.int .i64 x2)], []⟩ => some (x0, x1, x2)
  | _ => none

noncomputable def J36a_26 (x : Int × Int × Int) : Pk := ⟨[.v (.int .i64 (x.1)), .v ((Value.func (Fn.func (15 : FuncId)) (Array.mk []) (Array.mk []))), .v (.int .i64 (x.2.1)), .v (.int .i64 (x.2.2))], []⟩

theorem I36a_26_ok : ∀ pk x, I36a_26 pk = some x → pk = J36a_26 x := by
  intro pk x h
  unfold I36a_26 at h
  split at h <;> first | (cases h; rfl) | cases h

noncomputable def O36a_26 (r : ((Int × Int × Int) ⊕ (Unit))) : Tr (Ex × Pk) := .sum _ _ r (fun u => .ret (.ret, ⟨[.v (.int .i64 (u.1)), .v (.int .i64 (u.2.1)), .v (.int .i64 (u.2.2))], []⟩)) (fun v => .ret (.exit 0, ⟨[], []⟩))

noncomputable def D36a_26 : Ex × Pk → Option (((Int × Int × Int) ⊕ (Unit)))
  | (.ret, ⟨[.v (.int .i64 x0), .v (.int .i64 x1), .v (.int .i64 x2)], []⟩) => some (.inl ((x0, x1, x2)))
  | (.exit 0, ⟨[], []⟩) => some (.inr (()))
  | _ => none

theorem D36a_26_ok : ∀ y r, D36a_26 y = some r → ∀ z, (O36a_26 r).to z → y = z := by
  intro y r h
  unfold D36a_26 at h
  split at h <;> first | (cases h; intro z hz; exact Option.some.inj hz) | cases h

noncomputable def B36a_26 (N : Nat) (f : (Int × Int × Int) → Option (((Int × Int × Int) ⊕ (Unit)))) : (Int × Int × Int) → Option (((Int × Int × Int) ⊕ (Unit)))
  | (x0, x1, x2) =>
  if (decide (x1 ≥ x0)) = true then
    Option.bind (F15 N x1) fun y0 =>
    if (decide (Prod.fst y0 ≤ x2)) = true then
      some (.inl ((x1, IntKind.wrap IntKind.i64 (x2 - Prod.fst y0), Prod.snd y0)))
    else
      Option.bind (f (x0, IntKind.wrap IntKind.i64 (x1 - (1 : Int)), x2)) fun r => match r with | .inl (y) => some (.inl (y)) | .inr (y) => some (.inr (y))
  else
    some (.inr (()))

noncomputable def F36a_26 (N : Nat) : Nat → (Int × Int × Int) → Option (((Int × Int × Int) ⊕ (Unit)))
  | 0, _ => none
  | k + 1, x => B36a_26 N (F36a_26 N k) x

noncomputable def C36a_26 (N k : Nat) : Cut := ⟨[1, 3, 11, 0], X36a_26, tellX I36a_26 (F36a_26 N k) O36a_26⟩

theorem B36a_26_eq (N : Nat) (f : (Int × Int × Int) → Option (((Int × Int × Int) ⊕ (Unit)))) (x0 : Int) (x1 : Int) (x2 : Int) : (roundEv (mkE Try.prog ownT (tab36a N) []) Try.f36.ntmps A36a (loopAt (bod Try.f36) 26) 26 ⟨[1, 3, 11, 0], X36a_26, tellX I36a_26 f O36a_26⟩ (J36a_26 (x0, x1, x2))).run D36a_26 = B36a_26 N f (x0, x1, x2) := by kernel_rfl

theorem C36a_26_ok (N k : Nat) : ∀ c', At (bod Try.f36) 26 c' → CutOK Try.prog Try.f36.ntmps (idsL A36a) c' (C36a_26 N k) :=
  loop_ok (E := (mkE Try.prog ownT (tab36a N) [])) (mkE_ok mix (tab36a_ok N)) (cutsIn_ok trivial) (fuel := 200) (by decide +kernel) (by kernel_rfl) I36a_26_ok D36a_26_ok (B36a_26 N) (F36a_26 N) (fun _ => rfl) (fun _ _ => rfl) (fun f x => match x with | (x0, x1, x2) => B36a_26_eq N f x0 x1 x2) k

noncomputable def O36a (r : Int × Int × Int) : Tr (Pk) := .ret ⟨[.tup [.v (.int .i64 (r.1)), .v (.int .i64 (r.2.1)), .v (.int .i64 (r.2.2))]], []⟩

noncomputable def D36a : Pk → Option (Int × Int × Int)
  | ⟨[.tup [.v (.int .i64 x0), .v (.int .i64 x1), .v (.int .i64 x2)]], []⟩ => some ((x0, x1, x2))
  | _ => none

theorem D36a_ok : ∀ y r, D36a y = some r → ∀ z, (O36a r).to z → y = z := by
  intro y r h
  unfold D36a at h
  split at h <;> first | (cases h; intro z hz; exact Option.some.inj hz) | cases h

noncomputable def F36a (N : Nat) : (Int × Int × Int) → Option (Int × Int × Int)
  | (x0, x1, x2) =>
  Option.bind (F36a_26 N N (x1, x2, x0)) fun y0 =>
  match y0 with
  | .inl y1 =>
    some ((Prod.fst y1, Prod.fst (Prod.snd y1), Prod.snd (Prod.snd y1)))
  | .inr y1 =>
    some (((0 : Int), (0 : Int), (0 : Int)))

theorem F36a_eq (N : Nat) (x0 : Int) (x1 : Int) (x2 : Int) : (fnEv (mkE Try.prog ownT (tab36a N) [(26, (C36a_26 N N))]) Try.f36 (J36a (x0, x1, x2))).run D36a = F36a N (x0, x1, x2) := by kernel_rfl

noncomputable def V36a (N : Nat) : Pk → Tr Pk := tell I36a (F36a N) O36a

theorem V36a_ok (N : Nat) : FOK Try.prog 36 (V36a N) :=
  tell_ok (E := (mkE Try.prog ownT (tab36a N) [(26, (C36a_26 N N))])) (mkE_ok mix (tab36a_ok N)) Try.func36 (show Try.f36.body = some (bod Try.f36) by kernel_rfl) (by decide +kernel) I36a_ok D36a_ok (args := A36a) (fun _ => by kernel_rfl) (fun _ => by show 4 ≤ Try.f36.ntmps; exact of_decide_eq_true (by kernel_rfl)) (cutsIn_ok ⟨fun c' h => (C36a_26_ok N N c' h), trivial⟩) (fun x => match x with | (x0, x1, x2) => F36a_eq N x0 x1 x2)

/-! ## f36b: mirador/symbols.find -/

noncomputable def I36b : Pk → Option (Int × Int × Int)
  | ⟨[.v (.int .i64 x0), .v (.int .i64 x1), .v (.int .i64 x2), .v (.func (.func 17) ⟨[]⟩ ⟨[]⟩)], []⟩ => some (x0, x1, x2)
  | _ => none

noncomputable def J36b (x : Int × Int × Int) : Pk := ⟨[.v (.int .i64 (x.1)), .v (.int .i64 (x.2.1)), .v (.int .i64 (x.2.2)), .v (.func (.func 17) ⟨[]⟩ ⟨[]⟩)], []⟩

theorem I36b_ok : ∀ pk x, I36b pk = some x → pk = J36b x := by
  intro pk x h
  unfold I36b at h
  split at h <;> first | (cases h; rfl) | cases h

noncomputable def A36b : List TV := []

noncomputable def tab36b (N : Nat) : List (Nat × (Pk → Tr Pk)) := [(17, T17 N)]

theorem tab36b_ok (N : Nat) : TabOK Try.prog (tab36b N) := ⟨T17_ok N, trivial⟩

def X36b_26 : Ex → List Nat
  | .ret => [8, 9, 10]
  | .exit 0 => []
  | _ => []

noncomputable def I36b_26 : Pk → Option (Int × Int × Int)
  | ⟨[.v (.int .i64 x0), .v ((Value.func (Fn.func (17 : FuncId)) (Array.mk []) (Array.mk []))), .v (.int .i64 x1), .v (.int .i64 x2)], []⟩ => some (x0, x1, x2)
  | _ => none

noncomputable def J36b_26 (x : Int × Int × Int) : Pk := ⟨[.v (.int .i64 (x.1)), .v ((Value.func (Fn.func (17 : FuncId)) (Array.mk []) (Array.mk []))), .v (.int .i64 (x.2.1)), .v (.int .i64 (x.2.2))], []⟩

theorem I36b_26_ok : ∀ pk x, I36b_26 pk = some x → pk = J36b_26 x := by
  intro pk x h
  unfold I36b_26 at h
  split at h <;> first | (cases h; rfl) | cases h

noncomputable def O36b_26 (r : ((Int × Int × Int) ⊕ (Unit))) : Tr (Ex × Pk) := .sum _ _ r (fun u => .ret (.ret, ⟨[.v (.int .i64 (u.1)), .v (.int .i64 (u.2.1)), .v (.int .i64 (u.2.2))], []⟩)) (fun v => .ret (.exit 0, ⟨[], []⟩))

noncomputable def D36b_26 : Ex × Pk → Option (((Int × Int × Int) ⊕ (Unit)))
  | (.ret, ⟨[.v (.int .i64 x0), .v (.int .i64 x1), .v (.int .i64 x2)], []⟩) => some (.inl ((x0, x1, x2)))
  | (.exit 0, ⟨[], []⟩) => some (.inr (()))
  | _ => none

theorem D36b_26_ok : ∀ y r, D36b_26 y = some r → ∀ z, (O36b_26 r).to z → y = z := by
  intro y r h
  unfold D36b_26 at h
  split at h <;> first | (cases h; intro z hz; exact Option.some.inj hz) | cases h

noncomputable def B36b_26 (N : Nat) (f : (Int × Int × Int) → Option (((Int × Int × Int) ⊕ (Unit)))) : (Int × Int × Int) → Option (((Int × Int × Int) ⊕ (Unit)))
  | (x0, x1, x2) =>
  if (decide (x1 ≥ x0)) = true then
    Option.bind (F17 N x1) fun y0 =>
    if (decide (Prod.fst y0 ≤ x2)) = true then
      some (.inl ((x1, IntKind.wrap IntKind.i64 (x2 - Prod.fst y0), Prod.snd y0)))
    else
      Option.bind (f (x0, IntKind.wrap IntKind.i64 (x1 - (1 : Int)), x2)) fun r => match r with | .inl (y) => some (.inl (y)) | .inr (y) => some (.inr (y))
  else
    some (.inr (()))

noncomputable def F36b_26 (N : Nat) : Nat → (Int × Int × Int) → Option (((Int × Int × Int) ⊕ (Unit)))
  | 0, _ => none
  | k + 1, x => B36b_26 N (F36b_26 N k) x

noncomputable def C36b_26 (N k : Nat) : Cut := ⟨[1, 3, 11, 0], X36b_26, tellX I36b_26 (F36b_26 N k) O36b_26⟩

theorem B36b_26_eq (N : Nat) (f : (Int × Int × Int) → Option (((Int × Int × Int) ⊕ (Unit)))) (x0 : Int) (x1 : Int) (x2 : Int) : (roundEv (mkE Try.prog ownT (tab36b N) []) Try.f36.ntmps A36b (loopAt (bod Try.f36) 26) 26 ⟨[1, 3, 11, 0], X36b_26, tellX I36b_26 f O36b_26⟩ (J36b_26 (x0, x1, x2))).run D36b_26 = B36b_26 N f (x0, x1, x2) := by kernel_rfl

theorem C36b_26_ok (N k : Nat) : ∀ c', At (bod Try.f36) 26 c' → CutOK Try.prog Try.f36.ntmps (idsL A36b) c' (C36b_26 N k) :=
  loop_ok (E := (mkE Try.prog ownT (tab36b N) [])) (mkE_ok mix (tab36b_ok N)) (cutsIn_ok trivial) (fuel := 200) (by decide +kernel) (by kernel_rfl) I36b_26_ok D36b_26_ok (B36b_26 N) (F36b_26 N) (fun _ => rfl) (fun _ _ => rfl) (fun f x => match x with | (x0, x1, x2) => B36b_26_eq N f x0 x1 x2) k

noncomputable def O36b (r : Int × Int × Int) : Tr (Pk) := .ret ⟨[.tup [.v (.int .i64 (r.1)), .v (.int .i64 (r.2.1)), .v (.int .i64 (r.2.2))]], []⟩

noncomputable def D36b : Pk → Option (Int × Int × Int)
  | ⟨[.tup [.v (.int .i64 x0), .v (.int .i64 x1), .v (.int .i64 x2)]], []⟩ => some ((x0, x1, x2))
  | _ => none

theorem D36b_ok : ∀ y r, D36b y = some r → ∀ z, (O36b r).to z → y = z := by
  intro y r h
  unfold D36b at h
  split at h <;> first | (cases h; intro z hz; exact Option.some.inj hz) | cases h

noncomputable def F36b (N : Nat) : (Int × Int × Int) → Option (Int × Int × Int)
  | (x0, x1, x2) =>
  Option.bind (F36b_26 N N (x1, x2, x0)) fun y0 =>
  match y0 with
  | .inl y1 =>
    some ((Prod.fst y1, Prod.fst (Prod.snd y1), Prod.snd (Prod.snd y1)))
  | .inr y1 =>
    some (((0 : Int), (0 : Int), (0 : Int)))

theorem F36b_eq (N : Nat) (x0 : Int) (x1 : Int) (x2 : Int) : (fnEv (mkE Try.prog ownT (tab36b N) [(26, (C36b_26 N N))]) Try.f36 (J36b (x0, x1, x2))).run D36b = F36b N (x0, x1, x2) := by kernel_rfl

noncomputable def V36b (N : Nat) : Pk → Tr Pk := tell I36b (F36b N) O36b

theorem V36b_ok (N : Nat) : FOK Try.prog 36 (V36b N) :=
  tell_ok (E := (mkE Try.prog ownT (tab36b N) [(26, (C36b_26 N N))])) (mkE_ok mix (tab36b_ok N)) Try.func36 (show Try.f36.body = some (bod Try.f36) by kernel_rfl) (by decide +kernel) I36b_ok D36b_ok (args := A36b) (fun _ => by kernel_rfl) (fun _ => by show 4 ≤ Try.f36.ntmps; exact of_decide_eq_true (by kernel_rfl)) (cutsIn_ok ⟨fun c' h => (C36b_26_ok N N c' h), trivial⟩) (fun x => match x with | (x0, x1, x2) => F36b_eq N x0 x1 x2)

noncomputable def T36 (N : Nat) : Pk → Tr Pk := (orT I36a (V36a N) (V36b N))

theorem T36_ok (N : Nat) : FOK Try.prog 36 (T36 N) := (orT_ok (V36a_ok N) (V36b_ok N))

/-! ## f9: mirador/symbols.Length -/

noncomputable def I9 : Pk → Option (Int)
  | ⟨[.v (.int .i64 x0)], []⟩ => some x0
  | _ => none

noncomputable def J9 (x : Int) : Pk := ⟨[.v (.int .i64 (x))], []⟩

theorem I9_ok : ∀ pk x, I9 pk = some x → pk = J9 x := by
  intro pk x h
  unfold I9 at h
  split at h <;> first | (cases h; rfl) | cases h

noncomputable def A9 : List TV := []

noncomputable def tab9 (N : Nat) : List (Nat × (Pk → Tr Pk)) := [(36, T36 N)]

theorem tab9_ok (N : Nat) : TabOK Try.prog (tab9 N) := ⟨T36_ok N, trivial⟩

noncomputable def O9 (r : Int × Int × Int) : Tr (Pk) := .ret ⟨[.tup [.v (.int .i64 (r.1)), .v (.int .i64 (r.2.1)), .v (.int .i64 (r.2.2))]], []⟩

noncomputable def D9 : Pk → Option (Int × Int × Int)
  | ⟨[.tup [.v (.int .i64 x0), .v (.int .i64 x1), .v (.int .i64 x2)]], []⟩ => some ((x0, x1, x2))
  | _ => none

theorem D9_ok : ∀ y r, D9 y = some r → ∀ z, (O9 r).to z → y = z := by
  intro y r h
  unfold D9 at h
  split at h <;> first | (cases h; intro z hz; exact Option.some.inj hz) | cases h

noncomputable def F9 (N : Nat) : (Int) → Option (Int × Int × Int)
  | x0 =>
  if (decide (x0 > (258 : Int))) = true then
    some (((0 : Int), (0 : Int), (0 : Int)))
  else
    Option.bind (F36a N (x0, (257 : Int), (285 : Int))) fun y0 =>
    some ((Prod.fst y0, Prod.fst (Prod.snd y0), Prod.snd (Prod.snd y0)))

theorem F9_eq (N : Nat) (x0 : Int) : (fnEv (mkE Try.prog ownT (tab9 N) []) Try.f9 (J9 x0)).run D9 = F9 N x0 := by kernel_rfl

noncomputable def T9 (N : Nat) : Pk → Tr Pk := tell I9 (F9 N) O9

theorem T9_ok (N : Nat) : FOK Try.prog 9 (T9 N) :=
  tell_ok (E := (mkE Try.prog ownT (tab9 N) [])) (mkE_ok mix (tab9_ok N)) Try.func9 (show Try.f9.body = some (bod Try.f9) by kernel_rfl) (by decide +kernel) I9_ok D9_ok (args := A9) (fun _ => by kernel_rfl) (fun _ => by show 1 ≤ Try.f9.ntmps; exact of_decide_eq_true (by kernel_rfl)) (cutsIn_ok trivial) (fun x => match x with | x0 => F9_eq N x0)

/-! ## f11: mirador/symbols.Distance -/

noncomputable def I11 : Pk → Option (Int)
  | ⟨[.v (.int .i64 x0)], []⟩ => some x0
  | _ => none

noncomputable def J11 (x : Int) : Pk := ⟨[.v (.int .i64 (x))], []⟩

theorem I11_ok : ∀ pk x, I11 pk = some x → pk = J11 x := by
  intro pk x h
  unfold I11 at h
  split at h <;> first | (cases h; rfl) | cases h

noncomputable def A11 : List TV := []

noncomputable def tab11 (N : Nat) : List (Nat × (Pk → Tr Pk)) := [(36, T36 N)]

theorem tab11_ok (N : Nat) : TabOK Try.prog (tab11 N) := ⟨T36_ok N, trivial⟩

noncomputable def O11 (r : Int × Int × Int) : Tr (Pk) := .ret ⟨[.tup [.v (.int .i64 (r.1)), .v (.int .i64 (r.2.1)), .v (.int .i64 (r.2.2))]], []⟩

noncomputable def D11 : Pk → Option (Int × Int × Int)
  | ⟨[.tup [.v (.int .i64 x0), .v (.int .i64 x1), .v (.int .i64 x2)]], []⟩ => some ((x0, x1, x2))
  | _ => none

theorem D11_ok : ∀ y r, D11 y = some r → ∀ z, (O11 r).to z → y = z := by
  intro y r h
  unfold D11 at h
  split at h <;> first | (cases h; intro z hz; exact Option.some.inj hz) | cases h

noncomputable def F11 (N : Nat) : (Int) → Option (Int × Int × Int)
  | x0 =>
  if (decide (x0 > (32768 : Int))) = true then
    some (((0 : Int), (0 : Int), (0 : Int)))
  else
    Option.bind (F36b N (x0, (0 : Int), (29 : Int))) fun y0 =>
    some ((Prod.fst y0, Prod.fst (Prod.snd y0), Prod.snd (Prod.snd y0)))

theorem F11_eq (N : Nat) (x0 : Int) : (fnEv (mkE Try.prog ownT (tab11 N) []) Try.f11 (J11 x0)).run D11 = F11 N x0 := by kernel_rfl

noncomputable def T11 (N : Nat) : Pk → Tr Pk := tell I11 (F11 N) O11

theorem T11_ok (N : Nat) : FOK Try.prog 11 (T11 N) :=
  tell_ok (E := (mkE Try.prog ownT (tab11 N) [])) (mkE_ok mix (tab11_ok N)) Try.func11 (show Try.f11.body = some (bod Try.f11) by kernel_rfl) (by decide +kernel) I11_ok D11_ok (args := A11) (fun _ => by kernel_rfl) (fun _ => by show 1 ≤ Try.f11.ntmps; exact of_decide_eq_true (by kernel_rfl)) (cutsIn_ok trivial) (fun x => match x with | x0 => F11_eq N x0)

/-! ## f41: mirador/symbols.row -/

noncomputable def I41 : Pk → Option (Int × Int × (List Int))
  | ⟨[.sl 0 none, .v (.int .i64 x0), .v (.int .i64 x1)], [some (.row (.int .i64) 3 x2)]⟩ => some (x0, x1, x2)
  | _ => none

noncomputable def J41 (x : Int × Int × (List Int)) : Pk := ⟨[.sl 0 none, .v (.int .i64 (x.1)), .v (.int .i64 (x.2.1))], [some (.row (.int .i64) 3 (x.2.2))]⟩

theorem I41_ok : ∀ pk x, I41 pk = some x → pk = J41 x := by
  intro pk x h
  unfold I41 at h
  split at h <;> first | (cases h; rfl) | cases h

noncomputable def A41 : List TV := []

noncomputable def tab41 (N : Nat) : List (Nat × (Pk → Tr Pk)) := []

theorem tab41_ok (N : Nat) : TabOK Try.prog (tab41 N) := trivial

def X41_12 : Ex → List Nat
  | .ret => [6]
  | .exit 0 => [0]
  | _ => []

noncomputable def I41_12 : Pk → Option (Int × Int × (List Int))
  | ⟨[.sl 0 (none), .v (.int .i64 x0), .v (.int .i64 x1)], [some (.row (Ty.int IntKind.i64) 3 x2)]⟩ => some (x0, x1, x2)
  | _ => none

noncomputable def J41_12 (x : Int × Int × (List Int)) : Pk := ⟨[.sl 0 (none), .v (.int .i64 (x.1)), .v (.int .i64 (x.2.1))], [some (.row (Ty.int IntKind.i64) 3 (x.2.2))]⟩

theorem I41_12_ok : ∀ pk x, I41_12 pk = some x → pk = J41_12 x := by
  intro pk x h
  unfold I41_12 at h
  split at h <;> first | (cases h; rfl) | cases h

noncomputable def O41_12 (r : (List Int)) : Tr (Ex × Pk) := .ret (.exit 0, ⟨[.sl 0 (none)], [some (.row (Ty.int IntKind.i64) 3 (r))]⟩)

noncomputable def D41_12 : Ex × Pk → Option ((List Int))
  | (.exit 0, ⟨[.sl 0 (none)], [some (.row (Ty.int IntKind.i64) 3 x0)]⟩) => some (x0)
  | _ => none

theorem D41_12_ok : ∀ y r, D41_12 y = some r → ∀ z, (O41_12 r).to z → y = z := by
  intro y r h
  unfold D41_12 at h
  split at h <;> first | (cases h; intro z hz; exact Option.some.inj hz) | cases h

noncomputable def B41_12 (N : Nat) (f : (Int × Int × (List Int)) → Option ((List Int))) : (Int × Int × (List Int)) → Option ((List Int))
  | (x0, x1, x2) =>
  if (decide ((↑(List.length x2) : Int) < x0)) = true then
    if (decide ((List.length x2 + List.length [x1]) * (8 : Nat) ≤ (140737488355328 : Nat) ∧ List.length x2 + List.length [x1] ≤ (140737488355328 : Nat))) = true then
      Option.bind (f (x0, x1, x2 ++ [x1])) fun r => some r
    else
      none
  else
    some (x2)

noncomputable def F41_12 (N : Nat) : Nat → (Int × Int × (List Int)) → Option ((List Int))
  | 0, _ => none
  | k + 1, x => B41_12 N (F41_12 N k) x

noncomputable def C41_12 (N k : Nat) : Cut := ⟨[0, 1, 2], X41_12, tellX I41_12 (F41_12 N k) O41_12⟩

theorem B41_12_eq (N : Nat) (f : (Int × Int × (List Int)) → Option ((List Int))) (x0 : Int) (x1 : Int) (x2 : (List Int)) : (roundEv (mkE Try.prog ownT (tab41 N) []) Try.f41.ntmps A41 (loopAt (bod Try.f41) 12) 12 ⟨[0, 1, 2], X41_12, tellX I41_12 f O41_12⟩ (J41_12 (x0, x1, x2))).run D41_12 = B41_12 N f (x0, x1, x2) := by kernel_rfl

theorem C41_12_ok (N k : Nat) : ∀ c', At (bod Try.f41) 12 c' → CutOK Try.prog Try.f41.ntmps (idsL A41) c' (C41_12 N k) :=
  loop_ok (E := (mkE Try.prog ownT (tab41 N) [])) (mkE_ok mix (tab41_ok N)) (cutsIn_ok trivial) (fuel := 200) (by decide +kernel) (by kernel_rfl) I41_12_ok D41_12_ok (B41_12 N) (F41_12 N) (fun _ => rfl) (fun _ _ => rfl) (fun f x => match x with | (x0, x1, x2) => B41_12_eq N f x0 x1 x2) k

noncomputable def O41 (r : (List Int)) : Tr (Pk) := .ret ⟨[.sl 0 (none)], [some (.row (Ty.int IntKind.i64) 3 (r))]⟩

noncomputable def D41 : Pk → Option ((List Int))
  | ⟨[.sl 0 (none)], [some (.row (Ty.int IntKind.i64) 3 x0)]⟩ => some (x0)
  | _ => none

theorem D41_ok : ∀ y r, D41 y = some r → ∀ z, (O41 r).to z → y = z := by
  intro y r h
  unfold D41 at h
  split at h <;> first | (cases h; intro z hz; exact Option.some.inj hz) | cases h

noncomputable def F41 (N : Nat) : (Int × Int × (List Int)) → Option ((List Int))
  | (x0, x1, x2) =>
  Option.bind (F41_12 N N (x0, x1, x2)) fun y0 =>
  some (y0)

theorem F41_eq (N : Nat) (x0 : Int) (x1 : Int) (x2 : (List Int)) : (fnEv (mkE Try.prog ownT (tab41 N) [(12, (C41_12 N N))]) Try.f41 (J41 (x0, x1, x2))).run D41 = F41 N (x0, x1, x2) := by kernel_rfl

noncomputable def T41 (N : Nat) : Pk → Tr Pk := tell I41 (F41 N) O41

theorem T41_ok (N : Nat) : FOK Try.prog 41 (T41 N) :=
  tell_ok (E := (mkE Try.prog ownT (tab41 N) [(12, (C41_12 N N))])) (mkE_ok mix (tab41_ok N)) Try.func41 (show Try.f41.body = some (bod Try.f41) by kernel_rfl) (by decide +kernel) I41_ok D41_ok (args := A41) (fun _ => by kernel_rfl) (fun _ => by show 3 ≤ Try.f41.ntmps; exact of_decide_eq_true (by kernel_rfl)) (cutsIn_ok ⟨fun c' h => (C41_12_ok N N c' h), trivial⟩) (fun x => match x with | (x0, x1, x2) => F41_eq N x0 x1 x2)

/-! ## f20: mirador/symbols.Fixed -/

noncomputable def I20 : Pk → Option (Unit)
  | ⟨[], []⟩ => some ()
  | _ => none

noncomputable def J20 (x : Unit) : Pk := ⟨[], []⟩

theorem I20_ok : ∀ pk x, I20 pk = some x → pk = J20 x := by
  intro pk x h
  unfold I20 at h
  split at h <;> first | (cases h; rfl) | cases h

noncomputable def A20 : List TV := []

noncomputable def tab20 (N : Nat) : List (Nat × (Pk → Tr Pk)) := [(41, T41 N)]

theorem tab20_ok (N : Nat) : TabOK Try.prog (tab20 N) := ⟨T41_ok N, trivial⟩

noncomputable def O20 (r : (List Int) × (List Int)) : Tr (Pk) := .ret ⟨[.tup [.sl 0 (none), .sl 1 (none)]], [some (.row (Ty.int IntKind.i64) 3 (r.1)), some (.row (Ty.int IntKind.i64) 3 (r.2))]⟩

noncomputable def D20 : Pk → Option ((List Int) × (List Int))
  | ⟨[.tup [.sl 0 (none), .sl 1 (none)]], [some (.row (Ty.int IntKind.i64) 3 x0), some (.row (Ty.int IntKind.i64) 3 x1)]⟩ => some ((x0, x1))
  | _ => none

theorem D20_ok : ∀ y r, D20 y = some r → ∀ z, (O20 r).to z → y = z := by
  intro y r h
  unfold D20 at h
  split at h <;> first | (cases h; intro z hz; exact Option.some.inj hz) | cases h

noncomputable def F20 (N : Nat) : (Unit) → Option ((List Int) × (List Int))
  | () =>
  Option.bind (F41 N ((144 : Int), (8 : Int), [])) fun y0 =>
  Option.bind (F41 N ((256 : Int), (9 : Int), y0)) fun y1 =>
  Option.bind (F41 N ((280 : Int), (7 : Int), y1)) fun y2 =>
  Option.bind (F41 N ((288 : Int), (8 : Int), y2)) fun y3 =>
  Option.bind (F41 N ((30 : Int), (5 : Int), [])) fun y4 =>
  some ((y3, y4))

theorem F20_eq (N : Nat)  : (fnEv (mkE Try.prog ownT (tab20 N) []) Try.f20 (J20 ())).run D20 = F20 N () := by kernel_rfl

noncomputable def T20 (N : Nat) : Pk → Tr Pk := tell I20 (F20 N) O20

theorem T20_ok (N : Nat) : FOK Try.prog 20 (T20 N) :=
  tell_ok (E := (mkE Try.prog ownT (tab20 N) [])) (mkE_ok mix (tab20_ok N)) Try.func20 (show Try.f20.body = some (bod Try.f20) by kernel_rfl) (by decide +kernel) I20_ok D20_ok (args := A20) (fun _ => by kernel_rfl) (fun _ => by show 0 ≤ Try.f20.ntmps; exact of_decide_eq_true (by kernel_rfl)) (cutsIn_ok trivial) (fun x => match x with | () => F20_eq N )

/-! ## f59: mirador/lz.within -/

noncomputable def I59 : Pk → Option (Int × Int × Int)
  | ⟨[.v (.int .i64 x0), .v (.int .i64 x1), .v (.int .i64 x2)], []⟩ => some (x0, x1, x2)
  | _ => none

noncomputable def J59 (x : Int × Int × Int) : Pk := ⟨[.v (.int .i64 (x.1)), .v (.int .i64 (x.2.1)), .v (.int .i64 (x.2.2))], []⟩

theorem I59_ok : ∀ pk x, I59 pk = some x → pk = J59 x := by
  intro pk x h
  unfold I59 at h
  split at h <;> first | (cases h; rfl) | cases h

noncomputable def A59 : List TV := []

noncomputable def tab59 (N : Nat) : List (Nat × (Pk → Tr Pk)) := []

theorem tab59_ok (N : Nat) : TabOK Try.prog (tab59 N) := trivial

noncomputable def O59 (r : Bool) : Tr (Pk) := .ret ⟨[.v (.bool (r))], []⟩

noncomputable def D59 : Pk → Option (Bool)
  | ⟨[.v (.bool x0)], []⟩ => some (x0)
  | _ => none

theorem D59_ok : ∀ y r, D59 y = some r → ∀ z, (O59 r).to z → y = z := by
  intro y r h
  unfold D59 at h
  split at h <;> first | (cases h; intro z hz; exact Option.some.inj hz) | cases h

noncomputable def F59 (N : Nat) : (Int × Int × Int) → Option (Bool)
  | (x0, x1, x2) =>
  if (decide (x1 ≤ x0)) = true then
    some (decide (x0 ≤ x2))
  else
    some (false)

theorem F59_eq (N : Nat) (x0 : Int) (x1 : Int) (x2 : Int) : (fnEv (mkE Try.prog ownT (tab59 N) []) Try.f59 (J59 (x0, x1, x2))).run D59 = F59 N (x0, x1, x2) := by kernel_rfl

noncomputable def T59 (N : Nat) : Pk → Tr Pk := tell I59 (F59 N) O59

theorem T59_ok (N : Nat) : FOK Try.prog 59 (T59 N) :=
  tell_ok (E := (mkE Try.prog ownT (tab59 N) [])) (mkE_ok mix (tab59_ok N)) Try.func59 (show Try.f59.body = some (bod Try.f59) by kernel_rfl) (by decide +kernel) I59_ok D59_ok (args := A59) (fun _ => by kernel_rfl) (fun _ => by show 3 ≤ Try.f59.ntmps; exact of_decide_eq_true (by kernel_rfl)) (cutsIn_ok trivial) (fun x => match x with | (x0, x1, x2) => F59_eq N x0 x1 x2)

/-! ## f39: mirador/lz.Valid -/

noncomputable def I39 : Pk → Option (Int × Int × Int)
  | ⟨[.agg [.v (.int .i64 x0), .v (.int .i64 x1), .v (.int .i64 x2)]], []⟩ => some (x0, x1, x2)
  | _ => none

noncomputable def J39 (x : Int × Int × Int) : Pk := ⟨[.agg [.v (.int .i64 (x.1)), .v (.int .i64 (x.2.1)), .v (.int .i64 (x.2.2))]], []⟩

theorem I39_ok : ∀ pk x, I39 pk = some x → pk = J39 x := by
  intro pk x h
  unfold I39 at h
  split at h <;> first | (cases h; rfl) | cases h

noncomputable def A39 : List TV := []

noncomputable def tab39 (N : Nat) : List (Nat × (Pk → Tr Pk)) := [(59, T59 N)]

theorem tab39_ok (N : Nat) : TabOK Try.prog (tab39 N) := ⟨T59_ok N, trivial⟩

noncomputable def O39 (r : Bool) : Tr (Pk) := .ret ⟨[.v (.bool (r))], []⟩

noncomputable def D39 : Pk → Option (Bool)
  | ⟨[.v (.bool x0)], []⟩ => some (x0)
  | _ => none

theorem D39_ok : ∀ y r, D39 y = some r → ∀ z, (O39 r).to z → y = z := by
  intro y r h
  unfold D39 at h
  split at h <;> first | (cases h; intro z hz; exact Option.some.inj hz) | cases h

noncomputable def F39 (N : Nat) : (Int × Int × Int) → Option (Bool)
  | (x0, x1, x2) =>
  if (x1 == (0 : Int)) = true then
    if (x2 == (0 : Int)) = true then
      Option.bind (F59 N (x0, (0 : Int), (255 : Int))) fun y0 =>
      some (y0)
    else
      some (false)
  else
    if (x0 == (0 : Int)) = true then
      Option.bind (F59 N (x1, (3 : Int), (258 : Int))) fun y1 =>
      if (y1) = true then
        Option.bind (F59 N (x2, (1 : Int), (32768 : Int))) fun y2 =>
        some (y2)
      else
        some (false)
    else
      some (false)

theorem F39_eq (N : Nat) (x0 : Int) (x1 : Int) (x2 : Int) : (fnEv (mkE Try.prog ownT (tab39 N) []) Try.f39 (J39 (x0, x1, x2))).run D39 = F39 N (x0, x1, x2) := by kernel_rfl

noncomputable def T39 (N : Nat) : Pk → Tr Pk := tell I39 (F39 N) O39

theorem T39_ok (N : Nat) : FOK Try.prog 39 (T39 N) :=
  tell_ok (E := (mkE Try.prog ownT (tab39 N) [])) (mkE_ok mix (tab39_ok N)) Try.func39 (show Try.f39.body = some (bod Try.f39) by kernel_rfl) (by decide +kernel) I39_ok D39_ok (args := A39) (fun _ => by kernel_rfl) (fun _ => by show 1 ≤ Try.f39.ntmps; exact of_decide_eq_true (by kernel_rfl)) (cutsIn_ok trivial) (fun x => match x with | (x0, x1, x2) => F39_eq N x0 x1 x2)


end Go.Proofs.Ytmcjfdognplgmaa.Am

set_option linter.unusedVariables false
set_option maxRecDepth 100000
namespace Go.Proofs.Ytmcjfdognplgmaa.Am
open Go.Am

/-! ## f61: mirador/huffman.counts -/

noncomputable def I61 : Pk → Option ((List Int))
  | ⟨[.ro (.int .i64) x0], []⟩ => some x0
  | _ => none

noncomputable def J61 (x : (List Int)) : Pk := ⟨[.ro (.int .i64) (x)], []⟩

theorem I61_ok : ∀ pk x, I61 pk = some x → pk = J61 x := by
  intro pk x h
  unfold I61 at h
  split at h <;> first | (cases h; rfl) | cases h

noncomputable def A61 : List TV := []

noncomputable def tab61 (N : Nat) : List (Nat × (Pk → Tr Pk)) := []

theorem tab61_ok (N : Nat) : TabOK Try.prog (tab61 N) := trivial

def X61_122 : Ex → List Nat
  | .ret => [2, 3]
  | .exit 0 => [4, 2]
  | _ => []

noncomputable def I61_122 : Pk → Option (Int × (List Int) × Int × (List Int) × (List Int))
  | ⟨[.v (.int .i64 x0), .ro (Ty.int IntKind.i64) x1, .v (.int .i64 x2), .adr 0 [], .adr 1 []], [some (.var (.arr (Ty.int IntKind.i64) 16 x3)), some (.var (.arr (Ty.int IntKind.i64) 16 x4))]⟩ => some (x0, x1, x2, x3, x4)
  | _ => none

noncomputable def J61_122 (x : Int × (List Int) × Int × (List Int) × (List Int)) : Pk := ⟨[.v (.int .i64 (x.1)), .ro (Ty.int IntKind.i64) (x.2.1), .v (.int .i64 (x.2.2.1)), .adr 0 [], .adr 1 []], [some (.var (.arr (Ty.int IntKind.i64) 16 (x.2.2.2.1))), some (.var (.arr (Ty.int IntKind.i64) 16 (x.2.2.2.2)))]⟩

theorem I61_122_ok : ∀ pk x, I61_122 pk = some x → pk = J61_122 x := by
  intro pk x h
  unfold I61_122 at h
  split at h <;> first | (cases h; rfl) | cases h

noncomputable def O61_122 (r : ((Int × (List Int)) ⊕ ((List Int) × (List Int)))) : Tr (Ex × Pk) := .sum _ _ r (fun u => .ret (.ret, ⟨[.adr 0 [], .v (.int .i64 (u.1))], [some (.var (.arr (Ty.int IntKind.i64) 16 (u.2)))]⟩)) (fun v => .ret (.exit 0, ⟨[.adr 0 [], .adr 1 []], [some (.var (.arr (Ty.int IntKind.i64) 16 (v.1))), some (.var (.arr (Ty.int IntKind.i64) 16 (v.2)))]⟩))

noncomputable def D61_122 : Ex × Pk → Option (((Int × (List Int)) ⊕ ((List Int) × (List Int))))
  | (.ret, ⟨[.adr 0 [], .v (.int .i64 x0)], [some (.var (.arr (Ty.int IntKind.i64) 16 x1))]⟩) => some (.inl ((x0, x1)))
  | (.exit 0, ⟨[.adr 0 [], .adr 1 []], [some (.var (.arr (Ty.int IntKind.i64) 16 x0)), some (.var (.arr (Ty.int IntKind.i64) 16 x1))]⟩) => some (.inr ((x0, x1)))
  | _ => none

theorem D61_122_ok : ∀ y r, D61_122 y = some r → ∀ z, (O61_122 r).to z → y = z := by
  intro y r h
  unfold D61_122 at h
  split at h <;> first | (cases h; intro z hz; exact Option.some.inj hz) | cases h

noncomputable def B61_122 (N : Nat) (f : (Int × (List Int) × Int × (List Int) × (List Int)) → Option (((Int × (List Int)) ⊕ ((List Int) × (List Int))))) : (Int × (List Int) × Int × (List Int) × (List Int)) → Option (((Int × (List Int)) ⊕ ((List Int) × (List Int))))
  | (x0, x1, x2, x3, x4) =>
  if (decide (x2 < x0)) = true then
    if (within x2 (List.length x1)) = true then
      Option.bind (x1[Int.toNat x2]?) fun y0 =>
      if (decide (y0 < (0 : Int))) = true then
        some (.inl (((50 : Int), x3)))
      else
        if (decide (y0 > (15 : Int))) = true then
          some (.inl (((50 : Int), x3)))
        else
          if (within y0 (16 : Nat)) = true then
            Option.bind (x3[Int.toNat y0]?) fun y1 =>
            if (within y0 (16 : Nat)) = true then
              Option.bind (x3[Int.toNat y0]?) fun y2 =>
              Option.bind (f (x0, x1, IntKind.wrap IntKind.i64 (x2 + (1 : Int)), List.set x3 (Int.toNat y0) (IntKind.wrap IntKind.i64 (y1 + (1 : Int))), x4)) fun r => match r with | .inl (y) => some (.inl (y)) | .inr (y) => some (.inr (y))
            else
              none
          else
            none
    else
      none
  else
    some (.inr ((x3, x4)))

noncomputable def F61_122 (N : Nat) : Nat → (Int × (List Int) × Int × (List Int) × (List Int)) → Option (((Int × (List Int)) ⊕ ((List Int) × (List Int))))
  | 0, _ => none
  | k + 1, x => B61_122 N (F61_122 N k) x

noncomputable def C61_122 (N k : Nat) : Cut := ⟨[12, 11, 13, 4, 2], X61_122, tellX I61_122 (F61_122 N k) O61_122⟩

theorem B61_122_eq (N : Nat) (f : (Int × (List Int) × Int × (List Int) × (List Int)) → Option (((Int × (List Int)) ⊕ ((List Int) × (List Int))))) (x0 : Int) (x1 : (List Int)) (x2 : Int) (x3 : (List Int)) (x4 : (List Int)) : (roundEv (mkE Try.prog ownT (tab61 N) []) Try.f61.ntmps A61 (loopAt (bod Try.f61) 122) 122 ⟨[12, 11, 13, 4, 2], X61_122, tellX I61_122 f O61_122⟩ (J61_122 (x0, x1, x2, x3, x4))).run D61_122 = B61_122 N f (x0, x1, x2, x3, x4) := by kernel_rfl

theorem C61_122_ok (N k : Nat) : ∀ c', At (bod Try.f61) 122 c' → CutOK Try.prog Try.f61.ntmps (idsL A61) c' (C61_122 N k) :=
  loop_ok (E := (mkE Try.prog ownT (tab61 N) [])) (mkE_ok mix (tab61_ok N)) (cutsIn_ok trivial) (fuel := 200) (by decide +kernel) (by kernel_rfl) I61_122_ok D61_122_ok (B61_122 N) (F61_122 N) (fun _ => rfl) (fun _ _ => rfl) (fun f x => match x with | (x0, x1, x2, x3, x4) => B61_122_eq N f x0 x1 x2 x3 x4) k

noncomputable def O61 (r : (List Int) × Int) : Tr (Pk) := .ret ⟨[.tup [.arr (Ty.int IntKind.i64) 16 (r.1), .v (.int .i64 (r.2))]], []⟩

noncomputable def D61 : Pk → Option ((List Int) × Int)
  | ⟨[.tup [.arr (Ty.int IntKind.i64) 16 x0, .v (.int .i64 x1)]], []⟩ => some ((x0, x1))
  | _ => none

theorem D61_ok : ∀ y r, D61 y = some r → ∀ z, (O61 r).to z → y = z := by
  intro y r h
  unfold D61 at h
  split at h <;> first | (cases h; intro z hz; exact Option.some.inj hz) | cases h

noncomputable def F61 (N : Nat) : ((List Int)) → Option ((List Int) × Int)
  | x0 =>
  if (decide ((↑(List.length x0) : Int) > (320 : Int))) = true then
    some (([(0 : Int), (0 : Int), (0 : Int), (0 : Int), (0 : Int), (0 : Int), (0 : Int), (0 : Int), (0 : Int), (0 : Int), (0 : Int), (0 : Int), (0 : Int), (0 : Int), (0 : Int), (0 : Int)], (50 : Int)))
  else
    Option.bind (F61_122 N N ((↑(List.length x0) : Int), x0, (0 : Int), [(0 : Int), (0 : Int), (0 : Int), (0 : Int), (0 : Int), (0 : Int), (0 : Int), (0 : Int), (0 : Int), (0 : Int), (0 : Int), (0 : Int), (0 : Int), (0 : Int), (0 : Int), (0 : Int)], [(0 : Int), (0 : Int), (0 : Int), (0 : Int), (0 : Int), (0 : Int), (0 : Int), (0 : Int), (0 : Int), (0 : Int), (0 : Int), (0 : Int), (0 : Int), (0 : Int), (0 : Int), (0 : Int)])) fun y0 =>
    match y0 with
    | .inl y1 =>
      some ((Prod.snd y1, Prod.fst y1))
    | .inr y1 =>
      some ((Prod.fst y1, (0 : Int)))

theorem F61_eq (N : Nat) (x0 : (List Int)) : (fnEv (mkE Try.prog ownT (tab61 N) [(122, (C61_122 N N))]) Try.f61 (J61 x0)).run D61 = F61 N x0 := by kernel_rfl

noncomputable def T61 (N : Nat) : Pk → Tr Pk := tell I61 (F61 N) O61

theorem T61_ok (N : Nat) : FOK Try.prog 61 (T61 N) :=
  tell_ok (E := (mkE Try.prog ownT (tab61 N) [(122, (C61_122 N N))])) (mkE_ok mix (tab61_ok N)) Try.func61 (show Try.f61.body = some (bod Try.f61) by kernel_rfl) (by decide +kernel) I61_ok D61_ok (args := A61) (fun _ => by kernel_rfl) (fun _ => by show 1 ≤ Try.f61.ntmps; exact of_decide_eq_true (by kernel_rfl)) (cutsIn_ok ⟨fun c' h => (C61_122_ok N N c' h), trivial⟩) (fun x => match x with | x0 => F61_eq N x0)

/-! ## f60: mirador/huffman.Check -/

noncomputable def I60 : Pk → Option ((List Int))
  | ⟨[.ro (.int .i64) x0], []⟩ => some x0
  | _ => none

noncomputable def J60 (x : (List Int)) : Pk := ⟨[.ro (.int .i64) (x)], []⟩

theorem I60_ok : ∀ pk x, I60 pk = some x → pk = J60 x := by
  intro pk x h
  unfold I60 at h
  split at h <;> first | (cases h; rfl) | cases h

noncomputable def A60 : List TV := []

noncomputable def tab60 (N : Nat) : List (Nat × (Pk → Tr Pk)) := [(61, T61 N)]

theorem tab60_ok (N : Nat) : TabOK Try.prog (tab60 N) := ⟨T61_ok N, trivial⟩

def X60_122 : Ex → List Nat
  | .ret => [2, 3]
  | .exit 0 => [6, 5]
  | _ => []

noncomputable def I60_122 : Pk → Option (Int × Int × Int × (List Int))
  | ⟨[.v (.int .i64 x0), .v (.int .i64 x1), .v (.int .i64 x2), .adr 0 []], [some (.var (.arr (Ty.int IntKind.i64) 16 x3))]⟩ => some (x0, x1, x2, x3)
  | _ => none

noncomputable def J60_122 (x : Int × Int × Int × (List Int)) : Pk := ⟨[.v (.int .i64 (x.1)), .v (.int .i64 (x.2.1)), .v (.int .i64 (x.2.2.1)), .adr 0 []], [some (.var (.arr (Ty.int IntKind.i64) 16 (x.2.2.2)))]⟩

theorem I60_122_ok : ∀ pk x, I60_122 pk = some x → pk = J60_122 x := by
  intro pk x h
  unfold I60_122 at h
  split at h <;> first | (cases h; rfl) | cases h

noncomputable def O60_122 (r : Int × Int) : Tr (Ex × Pk) := .ret (.exit 0, ⟨[.v (.int .i64 (r.1)), .v (.int .i64 (r.2))], []⟩)

noncomputable def D60_122 : Ex × Pk → Option (Int × Int)
  | (.exit 0, ⟨[.v (.int .i64 x0), .v (.int .i64 x1)], []⟩) => some ((x0, x1))
  | _ => none

theorem D60_122_ok : ∀ y r, D60_122 y = some r → ∀ z, (O60_122 r).to z → y = z := by
  intro y r h
  unfold D60_122 at h
  split at h <;> first | (cases h; intro z hz; exact Option.some.inj hz) | cases h

noncomputable def B60_122 (N : Nat) (f : (Int × Int × Int × (List Int)) → Option (Int × Int)) : (Int × Int × Int × (List Int)) → Option (Int × Int)
  | (x0, x1, x2, x3) =>
  if (decide (x2 ≤ (15 : Int))) = true then
    if (x1 == (0 : Int)) = true then
      if (within x2 (16 : Nat)) = true then
        Option.bind (x3[Int.toNat x2]?) fun y0 =>
        if (decide (IntKind.wrap IntKind.i64 (IntKind.wrap IntKind.i64 (x0 * (2 : Int)) - y0) < (0 : Int))) = true then
          Option.bind (f (IntKind.wrap IntKind.i64 (IntKind.wrap IntKind.i64 (x0 * (2 : Int)) - y0), (50 : Int), IntKind.wrap IntKind.i64 (x2 + (1 : Int)), x3)) fun r => some r
        else
          Option.bind (f (IntKind.wrap IntKind.i64 (IntKind.wrap IntKind.i64 (x0 * (2 : Int)) - y0), x1, IntKind.wrap IntKind.i64 (x2 + (1 : Int)), x3)) fun r => some r
      else
        none
    else
      some ((x0, x1))
  else
    some ((x0, x1))

noncomputable def F60_122 (N : Nat) : Nat → (Int × Int × Int × (List Int)) → Option (Int × Int)
  | 0, _ => none
  | k + 1, x => B60_122 N (F60_122 N k) x

noncomputable def C60_122 (N k : Nat) : Cut := ⟨[6, 5, 7, 4], X60_122, tellX I60_122 (F60_122 N k) O60_122⟩

theorem B60_122_eq (N : Nat) (f : (Int × Int × Int × (List Int)) → Option (Int × Int)) (x0 : Int) (x1 : Int) (x2 : Int) (x3 : (List Int)) : (roundEv (mkE Try.prog ownT (tab60 N) []) Try.f60.ntmps A60 (loopAt (bod Try.f60) 122) 122 ⟨[6, 5, 7, 4], X60_122, tellX I60_122 f O60_122⟩ (J60_122 (x0, x1, x2, x3))).run D60_122 = B60_122 N f (x0, x1, x2, x3) := by kernel_rfl

theorem C60_122_ok (N k : Nat) : ∀ c', At (bod Try.f60) 122 c' → CutOK Try.prog Try.f60.ntmps (idsL A60) c' (C60_122 N k) :=
  loop_ok (E := (mkE Try.prog ownT (tab60 N) [])) (mkE_ok mix (tab60_ok N)) (cutsIn_ok trivial) (fuel := 200) (by decide +kernel) (by kernel_rfl) I60_122_ok D60_122_ok (B60_122 N) (F60_122 N) (fun _ => rfl) (fun _ _ => rfl) (fun f x => match x with | (x0, x1, x2, x3) => B60_122_eq N f x0 x1 x2 x3) k

noncomputable def O60 (r : Int × Int) : Tr (Pk) := .ret ⟨[.tup [.v (.int .i64 (r.1)), .v (.int .i64 (r.2))]], []⟩

noncomputable def D60 : Pk → Option (Int × Int)
  | ⟨[.tup [.v (.int .i64 x0), .v (.int .i64 x1)]], []⟩ => some ((x0, x1))
  | _ => none

theorem D60_ok : ∀ y r, D60 y = some r → ∀ z, (O60 r).to z → y = z := by
  intro y r h
  unfold D60 at h
  split at h <;> first | (cases h; intro z hz; exact Option.some.inj hz) | cases h

noncomputable def F60 (N : Nat) : ((List Int)) → Option (Int × Int)
  | x0 =>
  Option.bind (F61 N x0) fun y0 =>
  Option.bind (F60_122 N N ((1 : Int), Prod.snd y0, (1 : Int), Prod.fst y0)) fun y1 =>
  if (Prod.snd y1 != (0 : Int)) = true then
    some (((0 : Int), Prod.snd y1))
  else
    some ((Prod.fst y1, (0 : Int)))

theorem F60_eq (N : Nat) (x0 : (List Int)) : (fnEv (mkE Try.prog ownT (tab60 N) [(122, (C60_122 N N))]) Try.f60 (J60 x0)).run D60 = F60 N x0 := by kernel_rfl

noncomputable def T60 (N : Nat) : Pk → Tr Pk := tell I60 (F60 N) O60

theorem T60_ok (N : Nat) : FOK Try.prog 60 (T60 N) :=
  tell_ok (E := (mkE Try.prog ownT (tab60 N) [(122, (C60_122 N N))])) (mkE_ok mix (tab60_ok N)) Try.func60 (show Try.f60.body = some (bod Try.f60) by kernel_rfl) (by decide +kernel) I60_ok D60_ok (args := A60) (fun _ => by kernel_rfl) (fun _ => by show 1 ≤ Try.f60.ntmps; exact of_decide_eq_true (by kernel_rfl)) (cutsIn_ok ⟨fun c' h => (C60_122_ok N N c' h), trivial⟩) (fun x => match x with | x0 => F60_eq N x0)

/-! ## f45: mirador/huffman.Codes -/

noncomputable def I45 : Pk → Option ((List Int))
  | ⟨[.ro (.int .i64) x0], []⟩ => some x0
  | _ => none

noncomputable def J45 (x : (List Int)) : Pk := ⟨[.ro (.int .i64) (x)], []⟩

theorem I45_ok : ∀ pk x, I45 pk = some x → pk = J45 x := by
  intro pk x h
  unfold I45 at h
  split at h <;> first | (cases h; rfl) | cases h

noncomputable def A45 : List TV := []

noncomputable def tab45 (N : Nat) : List (Nat × (Pk → Tr Pk)) := [(60, T60 N), (61, T61 N)]

theorem tab45_ok (N : Nat) : TabOK Try.prog (tab45 N) := ⟨T60_ok N, ⟨T61_ok N, trivial⟩⟩

def X45_250 : Ex → List Nat
  | .ret => [2, 3]
  | .exit 0 => [0, 8]
  | _ => []

def X45_1018 : Ex → List Nat
  | .ret => [2, 3]
  | .exit 2 => [10]
  | _ => []

noncomputable def I45_250 : Pk → Option (Int × (List Int) × (List Int) × (List Int))
  | ⟨[.v (.int .i64 x0), .ro (Ty.int IntKind.i64) x1, .adr 0 [], .adr 1 []], [some (.var (.arr (Ty.int IntKind.i64) 16 x2)), some (.var (.arr (Ty.int IntKind.i64) 16 x3))]⟩ => some (x0, x1, x2, x3)
  | _ => none

noncomputable def J45_250 (x : Int × (List Int) × (List Int) × (List Int)) : Pk := ⟨[.v (.int .i64 (x.1)), .ro (Ty.int IntKind.i64) (x.2.1), .adr 0 [], .adr 1 []], [some (.var (.arr (Ty.int IntKind.i64) 16 (x.2.2.1))), some (.var (.arr (Ty.int IntKind.i64) 16 (x.2.2.2)))]⟩

theorem I45_250_ok : ∀ pk x, I45_250 pk = some x → pk = J45_250 x := by
  intro pk x h
  unfold I45_250 at h
  split at h <;> first | (cases h; rfl) | cases h

noncomputable def O45_250 (r : (List Int) × (List Int)) : Tr (Ex × Pk) := .ret (.exit 0, ⟨[.ro (Ty.int IntKind.i64) (r.1), .adr 0 []], [some (.var (.arr (Ty.int IntKind.i64) 16 (r.2)))]⟩)

noncomputable def D45_250 : Ex × Pk → Option ((List Int) × (List Int))
  | (.exit 0, ⟨[.ro (Ty.int IntKind.i64) x0, .adr 0 []], [some (.var (.arr (Ty.int IntKind.i64) 16 x1))]⟩) => some ((x0, x1))
  | _ => none

theorem D45_250_ok : ∀ y r, D45_250 y = some r → ∀ z, (O45_250 r).to z → y = z := by
  intro y r h
  unfold D45_250 at h
  split at h <;> first | (cases h; intro z hz; exact Option.some.inj hz) | cases h

noncomputable def B45_250 (N : Nat) (f : (Int × (List Int) × (List Int) × (List Int)) → Option ((List Int) × (List Int))) : (Int × (List Int) × (List Int) × (List Int)) → Option ((List Int) × (List Int))
  | (x0, x1, x2, x3) =>
  if (decide (x0 < (15 : Int))) = true then
    if (within x0 (16 : Nat)) = true then
      Option.bind (x3[Int.toNat x0]?) fun y0 =>
      if (within x0 (16 : Nat)) = true then
        Option.bind (x2[Int.toNat x0]?) fun y1 =>
        if (within (IntKind.wrap IntKind.i64 (x0 + (1 : Int))) (16 : Nat)) = true then
          Option.bind (x3[Int.toNat (IntKind.wrap IntKind.i64 (x0 + (1 : Int)))]?) fun y2 =>
          Option.bind (f (IntKind.wrap IntKind.i64 (x0 + (1 : Int)), x1, x2, List.set x3 (Int.toNat (IntKind.wrap IntKind.i64 (x0 + (1 : Int)))) (IntKind.wrap IntKind.i64 (IntKind.wrap IntKind.i64 (y0 + y1) * (2 : Int))))) fun r => some r
        else
          none
      else
        none
    else
      none
  else
    some ((x1, x3))

noncomputable def F45_250 (N : Nat) : Nat → (Int × (List Int) × (List Int) × (List Int)) → Option ((List Int) × (List Int))
  | 0, _ => none
  | k + 1, x => B45_250 N (F45_250 N k) x

noncomputable def C45_250 (N k : Nat) : Cut := ⟨[9, 0, 6, 8], X45_250, tellX I45_250 (F45_250 N k) O45_250⟩

theorem B45_250_eq (N : Nat) (f : (Int × (List Int) × (List Int) × (List Int)) → Option ((List Int) × (List Int))) (x0 : Int) (x1 : (List Int)) (x2 : (List Int)) (x3 : (List Int)) : (roundEv (mkE Try.prog ownT (tab45 N) []) Try.f45.ntmps A45 (loopAt (bod Try.f45) 250) 250 ⟨[9, 0, 6, 8], X45_250, tellX I45_250 f O45_250⟩ (J45_250 (x0, x1, x2, x3))).run D45_250 = B45_250 N f (x0, x1, x2, x3) := by kernel_rfl

theorem C45_250_ok (N k : Nat) : ∀ c', At (bod Try.f45) 250 c' → CutOK Try.prog Try.f45.ntmps (idsL A45) c' (C45_250 N k) :=
  loop_ok (E := (mkE Try.prog ownT (tab45 N) [])) (mkE_ok mix (tab45_ok N)) (cutsIn_ok trivial) (fuel := 200) (by decide +kernel) (by kernel_rfl) I45_250_ok D45_250_ok (B45_250 N) (F45_250 N) (fun _ => rfl) (fun _ _ => rfl) (fun f x => match x with | (x0, x1, x2, x3) => B45_250_eq N f x0 x1 x2 x3) k

noncomputable def I45_1018 : Pk → Option (Int × Int × (List Int) × (List (Int × (Int × Unit))) × (List Int))
  | ⟨[.v (.int .i64 x0), .v (.int .i64 x1), .ro (Ty.int IntKind.i64) x2, .sl 0 (none), .adr 1 []], [some (.row (Ty.cons (Ty.int IntKind.i64) (Ty.cons (Ty.int IntKind.i64) Ty.unit)) 78 x3), some (.var (.arr (Ty.int IntKind.i64) 16 x4))]⟩ => some (x0, x1, x2, x3, x4)
  | _ => none

noncomputable def J45_1018 (x : Int × Int × (List Int) × (List (Int × (Int × Unit))) × (List Int)) : Pk := ⟨[.v (.int .i64 (x.1)), .v (.int .i64 (x.2.1)), .ro (Ty.int IntKind.i64) (x.2.2.1), .sl 0 (none), .adr 1 []], [some (.row (Ty.cons (Ty.int IntKind.i64) (Ty.cons (Ty.int IntKind.i64) Ty.unit)) 78 (x.2.2.2.1)), some (.var (.arr (Ty.int IntKind.i64) 16 (x.2.2.2.2)))]⟩

theorem I45_1018_ok : ∀ pk x, I45_1018 pk = some x → pk = J45_1018 x := by
  intro pk x h
  unfold I45_1018 at h
  split at h <;> first | (cases h; rfl) | cases h

noncomputable def O45_1018 (r : (List (Int × (Int × Unit)))) : Tr (Ex × Pk) := .ret (.exit 2, ⟨[.sl 0 (none)], [some (.row (Ty.cons (Ty.int IntKind.i64) (Ty.cons (Ty.int IntKind.i64) Ty.unit)) 78 (r))]⟩)

noncomputable def D45_1018 : Ex × Pk → Option ((List (Int × (Int × Unit))))
  | (.exit 2, ⟨[.sl 0 (none)], [some (.row (Ty.cons (Ty.int IntKind.i64) (Ty.cons (Ty.int IntKind.i64) Ty.unit)) 78 x0)]⟩) => some (x0)
  | _ => none

theorem D45_1018_ok : ∀ y r, D45_1018 y = some r → ∀ z, (O45_1018 r).to z → y = z := by
  intro y r h
  unfold D45_1018 at h
  split at h <;> first | (cases h; intro z hz; exact Option.some.inj hz) | cases h

noncomputable def B45_1018 (N : Nat) (f : (Int × Int × (List Int) × (List (Int × (Int × Unit))) × (List Int)) → Option ((List (Int × (Int × Unit))))) : (Int × Int × (List Int) × (List (Int × (Int × Unit))) × (List Int)) → Option ((List (Int × (Int × Unit))))
  | (x0, x1, x2, x3, x4) =>
  if (decide (x0 < x1)) = true then
    if (within x0 (List.length x2)) = true then
      Option.bind (x2[Int.toNat x0]?) fun y0 =>
      if (decide (y0 > (0 : Int))) = true then
        if (within y0 (16 : Nat)) = true then
          Option.bind (x4[Int.toNat y0]?) fun y1 =>
          if (within x0 (List.length x3)) = true then
            Option.bind (x3[Int.toNat x0]?) fun y2 =>
            if (within y0 (16 : Nat)) = true then
              Option.bind (x4[Int.toNat y0]?) fun y3 =>
              if (within y0 (16 : Nat)) = true then
                Option.bind (x4[Int.toNat y0]?) fun y4 =>
                Option.bind (f (IntKind.wrap IntKind.i64 (x0 + (1 : Int)), x1, x2, List.set x3 (Int.toNat x0) (y1, y0, ()), List.set x4 (Int.toNat y0) (IntKind.wrap IntKind.i64 (y3 + (1 : Int))))) fun r => some r
              else
                none
            else
              none
          else
            none
        else
          none
      else
        Option.bind (f (IntKind.wrap IntKind.i64 (x0 + (1 : Int)), x1, x2, x3, x4)) fun r => some r
    else
      none
  else
    some (x3)

noncomputable def F45_1018 (N : Nat) : Nat → (Int × Int × (List Int) × (List (Int × (Int × Unit))) × (List Int)) → Option ((List (Int × (Int × Unit))))
  | 0, _ => none
  | k + 1, x => B45_1018 N (F45_1018 N k) x

noncomputable def C45_1018 (N k : Nat) : Cut := ⟨[46, 45, 44, 10, 8], X45_1018, tellX I45_1018 (F45_1018 N k) O45_1018⟩

theorem B45_1018_eq (N : Nat) (f : (Int × Int × (List Int) × (List (Int × (Int × Unit))) × (List Int)) → Option ((List (Int × (Int × Unit))))) (x0 : Int) (x1 : Int) (x2 : (List Int)) (x3 : (List (Int × (Int × Unit)))) (x4 : (List Int)) : (roundEv (mkE Try.prog ownT (tab45 N) [(250, (C45_250 N N))]) Try.f45.ntmps A45 (loopAt (bod Try.f45) 1018) 1018 ⟨[46, 45, 44, 10, 8], X45_1018, tellX I45_1018 f O45_1018⟩ (J45_1018 (x0, x1, x2, x3, x4))).run D45_1018 = B45_1018 N f (x0, x1, x2, x3, x4) := by kernel_rfl

theorem C45_1018_ok (N k : Nat) : ∀ c', At (bod Try.f45) 1018 c' → CutOK Try.prog Try.f45.ntmps (idsL A45) c' (C45_1018 N k) :=
  loop_ok (E := (mkE Try.prog ownT (tab45 N) [(250, (C45_250 N N))])) (mkE_ok mix (tab45_ok N)) (cutsIn_ok ⟨fun c' h => (C45_250_ok N N c' h), trivial⟩) (fuel := 200) (by decide +kernel) (by kernel_rfl) I45_1018_ok D45_1018_ok (B45_1018 N) (F45_1018 N) (fun _ => rfl) (fun _ _ => rfl) (fun f x => match x with | (x0, x1, x2, x3, x4) => B45_1018_eq N f x0 x1 x2 x3 x4) k

noncomputable def O45 (r : Int × (List (Int × (Int × Unit)))) : Tr (Pk) := .ret ⟨[.tup [.sl 0 (none), .v (.int .i64 (r.1))]], [some (.row (Ty.cons (Ty.int IntKind.i64) (Ty.cons (Ty.int IntKind.i64) Ty.unit)) 78 (r.2))]⟩

noncomputable def D45 : Pk → Option (Int × (List (Int × (Int × Unit))))
  | ⟨[.tup [.sl 0 (none), .v (.int .i64 x0)]], [some (.row (Ty.cons (Ty.int IntKind.i64) (Ty.cons (Ty.int IntKind.i64) Ty.unit)) 78 x1)]⟩ => some ((x0, x1))
  | _ => none

theorem D45_ok : ∀ y r, D45 y = some r → ∀ z, (O45 r).to z → y = z := by
  intro y r h
  unfold D45 at h
  split at h <;> first | (cases h; intro z hz; exact Option.some.inj hz) | cases h

noncomputable def F45 (N : Nat) : ((List Int)) → Option (Int × (List (Int × (Int × Unit))))
  | x0 =>
  Option.bind (F60 N x0) fun y0 =>
  if (Prod.snd y0 != (0 : Int)) = true then
    some ((Prod.snd y0, []))
  else
    Option.bind (F61 N x0) fun y1 =>
    Option.bind (F45_250 N N ((1 : Int), x0, Prod.fst y1, [(0 : Int), (0 : Int), (0 : Int), (0 : Int), (0 : Int), (0 : Int), (0 : Int), (0 : Int), (0 : Int), (0 : Int), (0 : Int), (0 : Int), (0 : Int), (0 : Int), (0 : Int), (0 : Int)])) fun y2 =>
    if (decide ((0 : Int) ≤ (↑(List.length (Prod.fst y2)) : Int) ∧ (↑(List.length (Prod.fst y2)) : Int) ≤ (↑(List.length (Prod.fst y2)) : Int) ∧ (↑(List.length (Prod.fst y2)) : Int) * (16 : Int) ≤ (140737488355328 : Int) ∧ (↑(List.length (Prod.fst y2)) : Int) ≤ (140737488355328 : Int))) = true then
      Option.bind (F45_1018 N N ((0 : Int), (↑(List.length (Prod.fst y2)) : Int), Prod.fst y2, List.replicate (Int.toNat (↑(List.length (Prod.fst y2)) : Int)) ((0 : Int), (0 : Int), ()), Prod.snd y2)) fun y3 =>
      some (((0 : Int), y3))
    else
      none

theorem F45_eq (N : Nat) (x0 : (List Int)) : (fnEv (mkE Try.prog ownT (tab45 N) [(250, (C45_250 N N)), (1018, (C45_1018 N N))]) Try.f45 (J45 x0)).run D45 = F45 N x0 := by kernel_rfl

noncomputable def T45 (N : Nat) : Pk → Tr Pk := tell I45 (F45 N) O45

theorem T45_ok (N : Nat) : FOK Try.prog 45 (T45 N) :=
  tell_ok (E := (mkE Try.prog ownT (tab45 N) [(250, (C45_250 N N)), (1018, (C45_1018 N N))])) (mkE_ok mix (tab45_ok N)) Try.func45 (show Try.f45.body = some (bod Try.f45) by kernel_rfl) (by decide +kernel) I45_ok D45_ok (args := A45) (fun _ => by kernel_rfl) (fun _ => by show 1 ≤ Try.f45.ntmps; exact of_decide_eq_true (by kernel_rfl)) (cutsIn_ok ⟨fun c' h => (C45_250_ok N N c' h), ⟨fun c' h => (C45_1018_ok N N c' h), trivial⟩⟩) (fun x => match x with | x0 => F45_eq N x0)

/-! ## f18: mirador/symbols.Count -/

noncomputable def I18 : Pk → Option ((List (Int × (Int × (Int × Unit)))))
  | ⟨[.ro (.cons (.int .i64) (.cons (.int .i64) (.cons (.int .i64) .unit))) x0], []⟩ => some x0
  | _ => none

noncomputable def J18 (x : (List (Int × (Int × (Int × Unit))))) : Pk := ⟨[.ro (.cons (.int .i64) (.cons (.int .i64) (.cons (.int .i64) .unit))) (x)], []⟩

theorem I18_ok : ∀ pk x, I18 pk = some x → pk = J18 x := by
  intro pk x h
  unfold I18 at h
  split at h <;> first | (cases h; rfl) | cases h

noncomputable def A18 : List TV := []

noncomputable def tab18 (N : Nat) : List (Nat × (Pk → Tr Pk)) := [(39, T39 N), (9, T9 N), (11, T11 N)]

theorem tab18_ok (N : Nat) : TabOK Try.prog (tab18 N) := ⟨T39_ok N, ⟨T9_ok N, ⟨T11_ok N, trivial⟩⟩⟩

def X18_122 : Ex → List Nat
  | .ret => [2, 3]
  | .exit 0 => [2, 3]
  | _ => []

noncomputable def I18_122 : Pk → Option (Int × Int × (List (Int × (Int × (Int × Unit)))) × (List Int) × (List Int))
  | ⟨[.v (.int .i64 x0), .v (.int .i64 x1), .ro (Ty.cons (Ty.int IntKind.i64) (Ty.cons (Ty.int IntKind.i64) (Ty.cons (Ty.int IntKind.i64) Ty.unit))) x2, .sl 0 (none), .sl 1 (none)], [some (.row (Ty.int IntKind.i64) 3 x3), some (.row (Ty.int IntKind.i64) 3 x4)]⟩ => some (x0, x1, x2, x3, x4)
  | _ => none

noncomputable def J18_122 (x : Int × Int × (List (Int × (Int × (Int × Unit)))) × (List Int) × (List Int)) : Pk := ⟨[.v (.int .i64 (x.1)), .v (.int .i64 (x.2.1)), .ro (Ty.cons (Ty.int IntKind.i64) (Ty.cons (Ty.int IntKind.i64) (Ty.cons (Ty.int IntKind.i64) Ty.unit))) (x.2.2.1), .sl 0 (none), .sl 1 (none)], [some (.row (Ty.int IntKind.i64) 3 (x.2.2.2.1)), some (.row (Ty.int IntKind.i64) 3 (x.2.2.2.2))]⟩

theorem I18_122_ok : ∀ pk x, I18_122 pk = some x → pk = J18_122 x := by
  intro pk x h
  unfold I18_122 at h
  split at h <;> first | (cases h; rfl) | cases h

noncomputable def O18_122 (r : (List Int) × (List Int)) : Tr (Ex × Pk) := .ret (.exit 0, ⟨[.sl 0 (none), .sl 1 (none)], [some (.row (Ty.int IntKind.i64) 3 (r.1)), some (.row (Ty.int IntKind.i64) 3 (r.2))]⟩)

noncomputable def D18_122 : Ex × Pk → Option ((List Int) × (List Int))
  | (.exit 0, ⟨[.sl 0 (none), .sl 1 (none)], [some (.row (Ty.int IntKind.i64) 3 x0), some (.row (Ty.int IntKind.i64) 3 x1)]⟩) => some ((x0, x1))
  | _ => none

theorem D18_122_ok : ∀ y r, D18_122 y = some r → ∀ z, (O18_122 r).to z → y = z := by
  intro y r h
  unfold D18_122 at h
  split at h <;> first | (cases h; intro z hz; exact Option.some.inj hz) | cases h

noncomputable def B18_122 (N : Nat) (f : (Int × Int × (List (Int × (Int × (Int × Unit)))) × (List Int) × (List Int)) → Option ((List Int) × (List Int))) : (Int × Int × (List (Int × (Int × (Int × Unit)))) × (List Int) × (List Int)) → Option ((List Int) × (List Int))
  | (x0, x1, x2, x3, x4) =>
  if (decide (x0 < x1)) = true then
    if (within x0 (List.length x2)) = true then
      Option.bind (x2[Int.toNat x0]?) fun y0 =>
      Option.bind (F39 N (Prod.fst y0, Prod.fst (Prod.snd y0), Prod.fst (Prod.snd (Prod.snd y0)))) fun y1 =>
      if (!y1) = true then
        Option.bind (f (IntKind.wrap IntKind.i64 (x0 + (1 : Int)), x1, x2, x3, x4)) fun r => some r
      else
        if (Prod.fst (Prod.snd y0) == (0 : Int)) = true then
          if (within (Prod.fst y0) (List.length x3)) = true then
            Option.bind (x3[Int.toNat (Prod.fst y0)]?) fun y2 =>
            if (within (Prod.fst y0) (List.length x3)) = true then
              Option.bind (x3[Int.toNat (Prod.fst y0)]?) fun y3 =>
              Option.bind (f (IntKind.wrap IntKind.i64 (x0 + (1 : Int)), x1, x2, List.set x3 (Int.toNat (Prod.fst y0)) (IntKind.wrap IntKind.i64 (y2 + (1 : Int))), x4)) fun r => some r
            else
              none
          else
            none
        else
          Option.bind (F9 N (Prod.fst (Prod.snd y0))) fun y4 =>
          Option.bind (F11 N (Prod.fst (Prod.snd (Prod.snd y0)))) fun y5 =>
          if (within (Prod.fst y4) (List.length x3)) = true then
            Option.bind (x3[Int.toNat (Prod.fst y4)]?) fun y6 =>
            if (within (Prod.fst y4) (List.length x3)) = true then
              Option.bind (x3[Int.toNat (Prod.fst y4)]?) fun y7 =>
              if (within (Prod.fst y5) (List.length x4)) = true then
                Option.bind (x4[Int.toNat (Prod.fst y5)]?) fun y8 =>
                if (within (Prod.fst y5) (List.length x4)) = true then
                  Option.bind (x4[Int.toNat (Prod.fst y5)]?) fun y9 =>
                  Option.bind (f (IntKind.wrap IntKind.i64 (x0 + (1 : Int)), x1, x2, List.set x3 (Int.toNat (Prod.fst y4)) (IntKind.wrap IntKind.i64 (y6 + (1 : Int))), List.set x4 (Int.toNat (Prod.fst y5)) (IntKind.wrap IntKind.i64 (y8 + (1 : Int))))) fun r => some r
                else
                  none
              else
                none
            else
              none
          else
            none
    else
      none
  else
    some ((x3, x4))

noncomputable def F18_122 (N : Nat) : Nat → (Int × Int × (List (Int × (Int × (Int × Unit)))) × (List Int) × (List Int)) → Option ((List Int) × (List Int))
  | 0, _ => none
  | k + 1, x => B18_122 N (F18_122 N k) x

noncomputable def C18_122 (N k : Nat) : Cut := ⟨[18, 17, 16, 2, 3], X18_122, tellX I18_122 (F18_122 N k) O18_122⟩

theorem B18_122_eq (N : Nat) (f : (Int × Int × (List (Int × (Int × (Int × Unit)))) × (List Int) × (List Int)) → Option ((List Int) × (List Int))) (x0 : Int) (x1 : Int) (x2 : (List (Int × (Int × (Int × Unit))))) (x3 : (List Int)) (x4 : (List Int)) : (roundEv (mkE Try.prog ownT (tab18 N) []) Try.f18.ntmps A18 (loopAt (bod Try.f18) 122) 122 ⟨[18, 17, 16, 2, 3], X18_122, tellX I18_122 f O18_122⟩ (J18_122 (x0, x1, x2, x3, x4))).run D18_122 = B18_122 N f (x0, x1, x2, x3, x4) := by kernel_rfl

theorem C18_122_ok (N k : Nat) : ∀ c', At (bod Try.f18) 122 c' → CutOK Try.prog Try.f18.ntmps (idsL A18) c' (C18_122 N k) :=
  loop_ok (E := (mkE Try.prog ownT (tab18 N) [])) (mkE_ok mix (tab18_ok N)) (cutsIn_ok trivial) (fuel := 200) (by decide +kernel) (by kernel_rfl) I18_122_ok D18_122_ok (B18_122 N) (F18_122 N) (fun _ => rfl) (fun _ _ => rfl) (fun f x => match x with | (x0, x1, x2, x3, x4) => B18_122_eq N f x0 x1 x2 x3 x4) k

noncomputable def O18 (r : (List Int) × (List Int)) : Tr (Pk) := .ret ⟨[.tup [.sl 0 (none), .sl 1 (none)]], [some (.row (Ty.int IntKind.i64) 3 (r.1)), some (.row (Ty.int IntKind.i64) 3 (r.2))]⟩

noncomputable def D18 : Pk → Option ((List Int) × (List Int))
  | ⟨[.tup [.sl 0 (none), .sl 1 (none)]], [some (.row (Ty.int IntKind.i64) 3 x0), some (.row (Ty.int IntKind.i64) 3 x1)]⟩ => some ((x0, x1))
  | _ => none

theorem D18_ok : ∀ y r, D18 y = some r → ∀ z, (O18 r).to z → y = z := by
  intro y r h
  unfold D18 at h
  split at h <;> first | (cases h; intro z hz; exact Option.some.inj hz) | cases h

noncomputable def F18 (N : Nat) : ((List (Int × (Int × (Int × Unit))))) → Option ((List Int) × (List Int))
  | x0 =>
  Option.bind (F18_122 N N ((0 : Int), (↑(List.length x0) : Int), x0, [(0 : Int), (0 : Int), (0 : Int), (0 : Int), (0 : Int), (0 : Int), (0 : Int), (0 : Int), (0 : Int), (0 : Int), (0 : Int), (0 : Int), (0 : Int), (0 : Int), (0 : Int), (0 : Int), (0 : Int), (0 : Int), (0 : Int), (0 : Int), (0 : Int), (0 : Int), (0 : Int), (0 : Int), (0 : Int), (0 : Int), (0 : Int), (0 : Int), (0 : Int), (0 : Int), (0 : Int), (0 : Int), (0 : Int), (0 : Int), (0 : Int), (0 : Int), (0 : Int), (0 : Int), (0 : Int), (0 : Int), (0 : Int), (0 : Int), (0 : Int), (0 : Int), (0 : Int), (0 : Int), (0 : Int), (0 : Int), (0 : Int), (0 : Int), (0 : Int), (0 : Int), (0 : Int), (0 : Int), (0 : Int), (0 : Int), (0 : Int), (0 : Int), (0 : Int), (0 : Int), (0 : Int), (0 : Int), (0 : Int), (0 : Int), (0 : Int), (0 : Int), (0 : Int), (0 : Int), (0 : Int), (0 : Int), (0 : Int), (0 : Int), (0 : Int), (0 : Int), (0 : Int), (0 : Int), (0 : Int), (0 : Int), (0 : Int), (0 : Int), (0 : Int), (0 : Int), (0 : Int), (0 : Int), (0 : Int), (0 : Int), (0 : Int), (0 : Int), (0 : Int), (0 : Int), (0 : Int), (0 : Int), (0 : Int), (0 : Int), (0 : Int), (0 : Int), (0 : Int), (0 : Int), (0 : Int), (0 : Int), (0 : Int), (0 : Int), (0 : Int), (0 : Int), (0 : Int), (0 : Int), (0 : Int), (0 : Int), (0 : Int), (0 : Int), (0 : Int), (0 : Int), (0 : Int), (0 : Int), (0 : Int), (0 : Int), (0 : Int), (0 : Int), (0 : Int), (0 : Int), (0 : Int), (0 : Int), (0 : Int), (0 : Int), (0 : Int), (0 : Int), (0 : Int), (0 : Int), (0 : Int), (0 : Int), (0 : Int), (0 : Int), (0 : Int), (0 : Int), (0 : Int), (0 : Int), (0 : Int), (0 : Int), (0 : Int), (0 : Int), (0 : Int), (0 : Int), (0 : Int), (0 : Int), (0 : Int), (0 : Int), (0 : Int), (0 : Int), (0 : Int), (0 : Int), (0 : Int), (0 : Int), (0 : Int), (0 : Int), (0 : Int), (0 : Int), (0 : Int), (0 : Int), (0 : Int), (0 : Int), (0 : Int), (0 : Int), (0 : Int), (0 : Int), (0 : Int), (0 : Int), (0 : Int), (0 : Int), (0 : Int), (0 : Int), (0 : Int), (0 : Int), (0 : Int), (0 : Int), (0 : Int), (0 : Int), (0 : Int), (0 : Int), (0 : Int), (0 : Int), (0 : Int), (0 : Int), (0 : Int), (0 : Int), (0 : Int), (0 : Int), (0 : Int), (0 : Int), (0 : Int), (0 : Int), (0 : Int), (0 : Int), (0 : Int), (0 : Int), (0 : Int), (0 : Int), (0 : Int), (0 : Int), (0 : Int), (0 : Int), (0 : Int), (0 : Int), (0 : Int), (0 : Int), (0 : Int), (0 : Int), (0 : Int), (0 : Int), (0 : Int), (0 : Int), (0 : Int), (0 : Int), (0 : Int), (0 : Int), (0 : Int), (0 : Int), (0 : Int), (0 : Int), (0 : Int), (0 : Int), (0 : Int), (0 : Int), (0 : Int), (0 : Int), (0 : Int), (0 : Int), (0 : Int), (0 : Int), (0 : Int), (0 : Int), (0 : Int), (0 : Int), (0 : Int), (0 : Int), (0 : Int), (0 : Int), (0 : Int), (0 : Int), (0 : Int), (0 : Int), (0 : Int), (0 : Int), (0 : Int), (0 : Int), (0 : Int), (0 : Int), (0 : Int), (0 : Int), (0 : Int), (0 : Int), (0 : Int), (0 : Int), (0 : Int), (0 : Int), (0 : Int), (0 : Int), (1 : Int), (0 : Int), (0 : Int), (0 : Int), (0 : Int), (0 : Int), (0 : Int), (0 : Int), (0 : Int), (0 : Int), (0 : Int), (0 : Int), (0 : Int), (0 : Int), (0 : Int), (0 : Int), (0 : Int), (0 : Int), (0 : Int), (0 : Int), (0 : Int), (0 : Int), (0 : Int), (0 : Int), (0 : Int), (0 : Int), (0 : Int), (0 : Int), (0 : Int), (0 : Int)], [(0 : Int), (0 : Int), (0 : Int), (0 : Int), (0 : Int), (0 : Int), (0 : Int), (0 : Int), (0 : Int), (0 : Int), (0 : Int), (0 : Int), (0 : Int), (0 : Int), (0 : Int), (0 : Int), (0 : Int), (0 : Int), (0 : Int), (0 : Int), (0 : Int), (0 : Int), (0 : Int), (0 : Int), (0 : Int), (0 : Int), (0 : Int), (0 : Int), (0 : Int), (0 : Int)])) fun y0 =>
  some ((Prod.fst y0, Prod.snd y0))

theorem F18_eq (N : Nat) (x0 : (List (Int × (Int × (Int × Unit))))) : (fnEv (mkE Try.prog ownT (tab18 N) [(122, (C18_122 N N))]) Try.f18 (J18 x0)).run D18 = F18 N x0 := by kernel_rfl

noncomputable def T18 (N : Nat) : Pk → Tr Pk := tell I18 (F18 N) O18

theorem T18_ok (N : Nat) : FOK Try.prog 18 (T18 N) :=
  tell_ok (E := (mkE Try.prog ownT (tab18 N) [(122, (C18_122 N N))])) (mkE_ok mix (tab18_ok N)) Try.func18 (show Try.f18.body = some (bod Try.f18) by kernel_rfl) (by decide +kernel) I18_ok D18_ok (args := A18) (fun _ => by kernel_rfl) (fun _ => by show 1 ≤ Try.f18.ntmps; exact of_decide_eq_true (by kernel_rfl)) (cutsIn_ok ⟨fun c' h => (C18_122_ok N N c' h), trivial⟩) (fun x => match x with | x0 => F18_eq N x0)


end Go.Proofs.Ytmcjfdognplgmaa.Am

set_option linter.unusedVariables false
set_option maxRecDepth 100000
namespace Go.Proofs.Ytmcjfdognplgmaa.Am
open Go.Am

/-! ## f46: mirador/symbols.has -/

noncomputable def I46 : Pk → Option ((List (Int × (Int × Unit))) × (List Int))
  | ⟨[.ro (.cons (.int .i64) (.cons (.int .i64) .unit)) x0, .ro (.int .i64) x1], []⟩ => some (x0, x1)
  | _ => none

noncomputable def J46 (x : (List (Int × (Int × Unit))) × (List Int)) : Pk := ⟨[.ro (.cons (.int .i64) (.cons (.int .i64) .unit)) (x.1), .ro (.int .i64) (x.2)], []⟩

theorem I46_ok : ∀ pk x, I46 pk = some x → pk = J46 x := by
  intro pk x h
  unfold I46 at h
  split at h <;> first | (cases h; rfl) | cases h

noncomputable def A46 : List TV := []

noncomputable def tab46 (N : Nat) : List (Nat × (Pk → Tr Pk)) := []

theorem tab46_ok (N : Nat) : TabOK Try.prog (tab46 N) := trivial

def X46_26 : Ex → List Nat
  | .ret => [4]
  | .exit 0 => []
  | _ => []

noncomputable def I46_26 : Pk → Option (Int × (List Int) × (List (Int × (Int × Unit))) × Int)
  | ⟨[.v (.int .i64 x0), .ro (Ty.int IntKind.i64) x1, .ro (Ty.cons (Ty.int IntKind.i64) (Ty.cons (Ty.int IntKind.i64) Ty.unit)) x2, .v (.int .i64 x3)], []⟩ => some (x0, x1, x2, x3)
  | _ => none

noncomputable def J46_26 (x : Int × (List Int) × (List (Int × (Int × Unit))) × Int) : Pk := ⟨[.v (.int .i64 (x.1)), .ro (Ty.int IntKind.i64) (x.2.1), .ro (Ty.cons (Ty.int IntKind.i64) (Ty.cons (Ty.int IntKind.i64) Ty.unit)) (x.2.2.1), .v (.int .i64 (x.2.2.2))], []⟩

theorem I46_26_ok : ∀ pk x, I46_26 pk = some x → pk = J46_26 x := by
  intro pk x h
  unfold I46_26 at h
  split at h <;> first | (cases h; rfl) | cases h

noncomputable def O46_26 (r : ((Bool) ⊕ (Unit))) : Tr (Ex × Pk) := .sum _ _ r (fun u => .ret (.ret, ⟨[.v (.bool (u))], []⟩)) (fun v => .ret (.exit 0, ⟨[], []⟩))

noncomputable def D46_26 : Ex × Pk → Option (((Bool) ⊕ (Unit)))
  | (.ret, ⟨[.v (.bool x0)], []⟩) => some (.inl (x0))
  | (.exit 0, ⟨[], []⟩) => some (.inr (()))
  | _ => none

theorem D46_26_ok : ∀ y r, D46_26 y = some r → ∀ z, (O46_26 r).to z → y = z := by
  intro y r h
  unfold D46_26 at h
  split at h <;> first | (cases h; intro z hz; exact Option.some.inj hz) | cases h

noncomputable def B46_26 (N : Nat) (f : (Int × (List Int) × (List (Int × (Int × Unit))) × Int) → Option (((Bool) ⊕ (Unit)))) : (Int × (List Int) × (List (Int × (Int × Unit))) × Int) → Option (((Bool) ⊕ (Unit)))
  | (x0, x1, x2, x3) =>
  if (decide (x3 < x0)) = true then
    if (within x3 (List.length x1)) = true then
      Option.bind (x1[Int.toNat x3]?) fun y0 =>
      if (decide (y0 > (0 : Int))) = true then
        if (decide (x3 ≥ (↑(List.length x2) : Int))) = true then
          some (.inl (false))
        else
          if (within x3 (List.length x2)) = true then
            Option.bind (x2[Int.toNat x3]?) fun y1 =>
            if (Prod.fst (Prod.snd y1) == (0 : Int)) = true then
              some (.inl (false))
            else
              Option.bind (f (x0, x1, x2, IntKind.wrap IntKind.i64 (x3 + (1 : Int)))) fun r => match r with | .inl (y) => some (.inl (y)) | .inr (y) => some (.inr (y))
          else
            none
      else
        Option.bind (f (x0, x1, x2, IntKind.wrap IntKind.i64 (x3 + (1 : Int)))) fun r => match r with | .inl (y) => some (.inl (y)) | .inr (y) => some (.inr (y))
    else
      none
  else
    some (.inr (()))

noncomputable def F46_26 (N : Nat) : Nat → (Int × (List Int) × (List (Int × (Int × Unit))) × Int) → Option (((Bool) ⊕ (Unit)))
  | 0, _ => none
  | k + 1, x => B46_26 N (F46_26 N k) x

noncomputable def C46_26 (N k : Nat) : Cut := ⟨[8, 7, 0, 9], X46_26, tellX I46_26 (F46_26 N k) O46_26⟩

theorem B46_26_eq (N : Nat) (f : (Int × (List Int) × (List (Int × (Int × Unit))) × Int) → Option (((Bool) ⊕ (Unit)))) (x0 : Int) (x1 : (List Int)) (x2 : (List (Int × (Int × Unit)))) (x3 : Int) : (roundEv (mkE Try.prog ownT (tab46 N) []) Try.f46.ntmps A46 (loopAt (bod Try.f46) 26) 26 ⟨[8, 7, 0, 9], X46_26, tellX I46_26 f O46_26⟩ (J46_26 (x0, x1, x2, x3))).run D46_26 = B46_26 N f (x0, x1, x2, x3) := by kernel_rfl

theorem C46_26_ok (N k : Nat) : ∀ c', At (bod Try.f46) 26 c' → CutOK Try.prog Try.f46.ntmps (idsL A46) c' (C46_26 N k) :=
  loop_ok (E := (mkE Try.prog ownT (tab46 N) [])) (mkE_ok mix (tab46_ok N)) (cutsIn_ok trivial) (fuel := 200) (by decide +kernel) (by kernel_rfl) I46_26_ok D46_26_ok (B46_26 N) (F46_26 N) (fun _ => rfl) (fun _ _ => rfl) (fun f x => match x with | (x0, x1, x2, x3) => B46_26_eq N f x0 x1 x2 x3) k

noncomputable def O46 (r : Bool) : Tr (Pk) := .ret ⟨[.v (.bool (r))], []⟩

noncomputable def D46 : Pk → Option (Bool)
  | ⟨[.v (.bool x0)], []⟩ => some (x0)
  | _ => none

theorem D46_ok : ∀ y r, D46 y = some r → ∀ z, (O46 r).to z → y = z := by
  intro y r h
  unfold D46 at h
  split at h <;> first | (cases h; intro z hz; exact Option.some.inj hz) | cases h

noncomputable def F46 (N : Nat) : ((List (Int × (Int × Unit))) × (List Int)) → Option (Bool)
  | (x0, x1) =>
  Option.bind (F46_26 N N ((↑(List.length x1) : Int), x1, x0, (0 : Int))) fun y0 =>
  match y0 with
  | .inl y1 =>
    some (y1)
  | .inr y1 =>
    some (true)

theorem F46_eq (N : Nat) (x0 : (List (Int × (Int × Unit)))) (x1 : (List Int)) : (fnEv (mkE Try.prog ownT (tab46 N) [(26, (C46_26 N N))]) Try.f46 (J46 (x0, x1))).run D46 = F46 N (x0, x1) := by kernel_rfl

noncomputable def T46 (N : Nat) : Pk → Tr Pk := tell I46 (F46 N) O46

theorem T46_ok (N : Nat) : FOK Try.prog 46 (T46 N) :=
  tell_ok (E := (mkE Try.prog ownT (tab46 N) [(26, (C46_26 N N))])) (mkE_ok mix (tab46_ok N)) Try.func46 (show Try.f46.body = some (bod Try.f46) by kernel_rfl) (by decide +kernel) I46_ok D46_ok (args := A46) (fun _ => by kernel_rfl) (fun _ => by show 2 ≤ Try.f46.ntmps; exact of_decide_eq_true (by kernel_rfl)) (cutsIn_ok ⟨fun c' h => (C46_26_ok N N c' h), trivial⟩) (fun x => match x with | (x0, x1) => F46_eq N x0 x1)

/-! ## f42: mirador/bitio.count -/

noncomputable def I42 : Pk → Option (Int)
  | ⟨[.v (.int .i64 x0)], []⟩ => some x0
  | _ => none

noncomputable def J42 (x : Int) : Pk := ⟨[.v (.int .i64 (x))], []⟩

theorem I42_ok : ∀ pk x, I42 pk = some x → pk = J42 x := by
  intro pk x h
  unfold I42 at h
  split at h <;> first | (cases h; rfl) | cases h

noncomputable def A42 : List TV := []

noncomputable def tab42 (N : Nat) : List (Nat × (Pk → Tr Pk)) := []

theorem tab42_ok (N : Nat) : TabOK Try.prog (tab42 N) := trivial

noncomputable def O42 (r : Int) : Tr (Pk) := .ret ⟨[.v (.int .i64 (r))], []⟩

noncomputable def D42 : Pk → Option (Int)
  | ⟨[.v (.int .i64 x0)], []⟩ => some (x0)
  | _ => none

theorem D42_ok : ∀ y r, D42 y = some r → ∀ z, (O42 r).to z → y = z := by
  intro y r h
  unfold D42 at h
  split at h <;> first | (cases h; intro z hz; exact Option.some.inj hz) | cases h

noncomputable def F42 (N : Nat) : (Int) → Option (Int)
  | x0 =>
  some (if (32 : Int) < if (0 : Int) > x0 then (0 : Int) else x0 then (32 : Int) else if (0 : Int) > x0 then (0 : Int) else x0)

theorem F42_eq (N : Nat) (x0 : Int) : (fnEv (mkE Try.prog ownT (tab42 N) []) Try.f42 (J42 x0)).run D42 = F42 N x0 := by kernel_rfl

noncomputable def T42 (N : Nat) : Pk → Tr Pk := tell I42 (F42 N) O42

theorem T42_ok (N : Nat) : FOK Try.prog 42 (T42 N) :=
  tell_ok (E := (mkE Try.prog ownT (tab42 N) [])) (mkE_ok mix (tab42_ok N)) Try.func42 (show Try.f42.body = some (bod Try.f42) by kernel_rfl) (by decide +kernel) I42_ok D42_ok (args := A42) (fun _ => by kernel_rfl) (fun _ => by show 1 ≤ Try.f42.ntmps; exact of_decide_eq_true (by kernel_rfl)) (cutsIn_ok trivial) (fun x => match x with | x0 => F42_eq N x0)

/-! ## f43: mirador/bitio.low -/

noncomputable def I43 : Pk → Option (Int × Int)
  | ⟨[.v (.int .i64 x0), .v (.int .i64 x1)], []⟩ => some (x0, x1)
  | _ => none

noncomputable def J43 (x : Int × Int) : Pk := ⟨[.v (.int .i64 (x.1)), .v (.int .i64 (x.2))], []⟩

theorem I43_ok : ∀ pk x, I43 pk = some x → pk = J43 x := by
  intro pk x h
  unfold I43 at h
  split at h <;> first | (cases h; rfl) | cases h

noncomputable def A43 : List TV := []

noncomputable def tab43 (N : Nat) : List (Nat × (Pk → Tr Pk)) := []

theorem tab43_ok (N : Nat) : TabOK Try.prog (tab43 N) := trivial

noncomputable def O43 (r : Int) : Tr (Pk) := .ret ⟨[.v (.int .i64 (r))], []⟩

noncomputable def D43 : Pk → Option (Int)
  | ⟨[.v (.int .i64 x0)], []⟩ => some (x0)
  | _ => none

theorem D43_ok : ∀ y r, D43 y = some r → ∀ z, (O43 r).to z → y = z := by
  intro y r h
  unfold D43 at h
  split at h <;> first | (cases h; intro z hz; exact Option.some.inj hz) | cases h

noncomputable def F43 (N : Nat) : (Int × Int) → Option (Int)
  | (x0, x1) =>
  if (decide (x0 < (0 : Int))) = true then
    none
  else
    some (IntKind.wrap IntKind.i64 (↑(BitVec.toNat (BitVec.ofInt (64 : Nat) x1 &&& BitVec.ofInt (64 : Nat) (IntKind.wrap IntKind.i64 (IntKind.wrap IntKind.i64 ((1 : Int) * (2 : Int) ^ min (Int.toNat x0) (64 : Nat)) - (1 : Int))))) : Int))

theorem F43_eq (N : Nat) (x0 : Int) (x1 : Int) : (fnEv (mkE Try.prog ownT (tab43 N) []) Try.f43 (J43 (x0, x1))).run D43 = F43 N (x0, x1) := by kernel_rfl

noncomputable def T43 (N : Nat) : Pk → Tr Pk := tell I43 (F43 N) O43

theorem T43_ok (N : Nat) : FOK Try.prog 43 (T43 N) :=
  tell_ok (E := (mkE Try.prog ownT (tab43 N) [])) (mkE_ok mix (tab43_ok N)) Try.func43 (show Try.f43.body = some (bod Try.f43) by kernel_rfl) (by decide +kernel) I43_ok D43_ok (args := A43) (fun _ => by kernel_rfl) (fun _ => by show 2 ≤ Try.f43.ntmps; exact of_decide_eq_true (by kernel_rfl)) (cutsIn_ok trivial) (fun x => match x with | (x0, x1) => F43_eq N x0 x1)

/-! ## f73: math/bits.ReverseBytes64 -/

noncomputable def I73 : Pk → Option (Int)
  | ⟨[.v (.int .u64 x0)], []⟩ => some x0
  | _ => none

noncomputable def J73 (x : Int) : Pk := ⟨[.v (.int .u64 (x))], []⟩

theorem I73_ok : ∀ pk x, I73 pk = some x → pk = J73 x := by
  intro pk x h
  unfold I73 at h
  split at h <;> first | (cases h; rfl) | cases h

noncomputable def A73 : List TV := []

noncomputable def tab73 (N : Nat) : List (Nat × (Pk → Tr Pk)) := []

theorem tab73_ok (N : Nat) : TabOK Try.prog (tab73 N) := trivial

noncomputable def O73 (r : Int) : Tr (Pk) := .ret ⟨[.v (.int .u64 (r))], []⟩

noncomputable def D73 : Pk → Option (Int)
  | ⟨[.v (.int .u64 x0)], []⟩ => some (x0)
  | _ => none

theorem D73_ok : ∀ y r, D73 y = some r → ∀ z, (O73 r).to z → y = z := by
  intro y r h
  unfold D73 at h
  split at h <;> first | (cases h; intro z hz; exact Option.some.inj hz) | cases h

noncomputable def F73 (N : Nat) : (Int) → Option (Int)
  | x0 =>
  some (IntKind.wrap IntKind.u64 (↑(BitVec.toNat (BitVec.ofInt (64 : Nat) (Int.fdiv (IntKind.wrap IntKind.u64 (↑(BitVec.toNat (BitVec.ofInt (64 : Nat) (IntKind.wrap IntKind.u64 (↑(BitVec.toNat (BitVec.ofInt (64 : Nat) (Int.fdiv (IntKind.wrap IntKind.u64 (↑(BitVec.toNat (BitVec.ofInt (64 : Nat) (IntKind.wrap IntKind.u64 (↑(BitVec.toNat (BitVec.ofInt (64 : Nat) (Int.fdiv x0 (256 : Int)) &&& BitVec.ofInt (64 : Nat) (71777214294589695 : Int))) : Int)) ||| BitVec.ofInt (64 : Nat) (IntKind.wrap IntKind.u64 (IntKind.wrap IntKind.u64 (↑(BitVec.toNat (BitVec.ofInt (64 : Nat) x0 &&& BitVec.ofInt (64 : Nat) (71777214294589695 : Int))) : Int) * (256 : Int))))) : Int)) (65536 : Int)) &&& BitVec.ofInt (64 : Nat) (281470681808895 : Int))) : Int)) ||| BitVec.ofInt (64 : Nat) (IntKind.wrap IntKind.u64 (IntKind.wrap IntKind.u64 (↑(BitVec.toNat (BitVec.ofInt (64 : Nat) (IntKind.wrap IntKind.u64 (↑(BitVec.toNat (BitVec.ofInt (64 : Nat) (IntKind.wrap IntKind.u64 (↑(BitVec.toNat (BitVec.ofInt (64 : Nat) (Int.fdiv x0 (256 : Int)) &&& BitVec.ofInt (64 : Nat) (71777214294589695 : Int))) : Int)) ||| BitVec.ofInt (64 : Nat) (IntKind.wrap IntKind.u64 (IntKind.wrap IntKind.u64 (↑(BitVec.toNat (BitVec.ofInt (64 : Nat) x0 &&& BitVec.ofInt (64 : Nat) (71777214294589695 : Int))) : Int) * (256 : Int))))) : Int)) &&& BitVec.ofInt (64 : Nat) (281470681808895 : Int))) : Int) * (65536 : Int))))) : Int)) (4294967296 : Int)) ||| BitVec.ofInt (64 : Nat) (IntKind.wrap IntKind.u64 (IntKind.wrap IntKind.u64 (↑(BitVec.toNat (BitVec.ofInt (64 : Nat) (IntKind.wrap IntKind.u64 (↑(BitVec.toNat (BitVec.ofInt (64 : Nat) (Int.fdiv (IntKind.wrap IntKind.u64 (↑(BitVec.toNat (BitVec.ofInt (64 : Nat) (IntKind.wrap IntKind.u64 (↑(BitVec.toNat (BitVec.ofInt (64 : Nat) (Int.fdiv x0 (256 : Int)) &&& BitVec.ofInt (64 : Nat) (71777214294589695 : Int))) : Int)) ||| BitVec.ofInt (64 : Nat) (IntKind.wrap IntKind.u64 (IntKind.wrap IntKind.u64 (↑(BitVec.toNat (BitVec.ofInt (64 : Nat) x0 &&& BitVec.ofInt (64 : Nat) (71777214294589695 : Int))) : Int) * (256 : Int))))) : Int)) (65536 : Int)) &&& BitVec.ofInt (64 : Nat) (281470681808895 : Int))) : Int)) ||| BitVec.ofInt (64 : Nat) (IntKind.wrap IntKind.u64 (IntKind.wrap IntKind.u64 (↑(BitVec.toNat (BitVec.ofInt (64 : Nat) (IntKind.wrap IntKind.u64 (↑(BitVec.toNat (BitVec.ofInt (64 : Nat) (IntKind.wrap IntKind.u64 (↑(BitVec.toNat (BitVec.ofInt (64 : Nat) (Int.fdiv x0 (256 : Int)) &&& BitVec.ofInt (64 : Nat) (71777214294589695 : Int))) : Int)) ||| BitVec.ofInt (64 : Nat) (IntKind.wrap IntKind.u64 (IntKind.wrap IntKind.u64 (↑(BitVec.toNat (BitVec.ofInt (64 : Nat) x0 &&& BitVec.ofInt (64 : Nat) (71777214294589695 : Int))) : Int) * (256 : Int))))) : Int)) &&& BitVec.ofInt (64 : Nat) (281470681808895 : Int))) : Int) * (65536 : Int))))) : Int) * (4294967296 : Int))))) : Int))

theorem F73_eq (N : Nat) (x0 : Int) : (fnEv (mkE Try.prog ownT (tab73 N) []) Try.f73 (J73 x0)).run D73 = F73 N x0 := by kernel_rfl

noncomputable def T73 (N : Nat) : Pk → Tr Pk := tell I73 (F73 N) O73

theorem T73_ok (N : Nat) : FOK Try.prog 73 (T73 N) :=
  tell_ok (E := (mkE Try.prog ownT (tab73 N) [])) (mkE_ok mix (tab73_ok N)) Try.func73 (show Try.f73.body = some (bod Try.f73) by kernel_rfl) (by decide +kernel) I73_ok D73_ok (args := A73) (fun _ => by kernel_rfl) (fun _ => by show 1 ≤ Try.f73.ntmps; exact of_decide_eq_true (by kernel_rfl)) (cutsIn_ok trivial) (fun x => match x with | x0 => F73_eq N x0)

/-! ## f70: math/bits.Reverse64 -/

noncomputable def I70 : Pk → Option (Int)
  | ⟨[.v (.int .u64 x0)], []⟩ => some x0
  | _ => none

noncomputable def J70 (x : Int) : Pk := ⟨[.v (.int .u64 (x))], []⟩

theorem I70_ok : ∀ pk x, I70 pk = some x → pk = J70 x := by
  intro pk x h
  unfold I70 at h
  split at h <;> first | (cases h; rfl) | cases h

noncomputable def A70 : List TV := []

noncomputable def tab70 (N : Nat) : List (Nat × (Pk → Tr Pk)) := [(73, T73 N)]

theorem tab70_ok (N : Nat) : TabOK Try.prog (tab70 N) := ⟨T73_ok N, trivial⟩

noncomputable def O70 (r : Int) : Tr (Pk) := .ret ⟨[.v (.int .u64 (r))], []⟩

noncomputable def D70 : Pk → Option (Int)
  | ⟨[.v (.int .u64 x0)], []⟩ => some (x0)
  | _ => none

theorem D70_ok : ∀ y r, D70 y = some r → ∀ z, (O70 r).to z → y = z := by
  intro y r h
  unfold D70 at h
  split at h <;> first | (cases h; intro z hz; exact Option.some.inj hz) | cases h

noncomputable def F70 (N : Nat) : (Int) → Option (Int)
  | x0 =>
  Option.bind (F73 N (IntKind.wrap IntKind.u64 (↑(BitVec.toNat (BitVec.ofInt (64 : Nat) (IntKind.wrap IntKind.u64 (↑(BitVec.toNat (BitVec.ofInt (64 : Nat) (Int.fdiv (IntKind.wrap IntKind.u64 (↑(BitVec.toNat (BitVec.ofInt (64 : Nat) (IntKind.wrap IntKind.u64 (↑(BitVec.toNat (BitVec.ofInt (64 : Nat) (Int.fdiv (IntKind.wrap IntKind.u64 (↑(BitVec.toNat (BitVec.ofInt (64 : Nat) (IntKind.wrap IntKind.u64 (↑(BitVec.toNat (BitVec.ofInt (64 : Nat) (Int.fdiv x0 (2 : Int)) &&& BitVec.ofInt (64 : Nat) (6148914691236517205 : Int))) : Int)) ||| BitVec.ofInt (64 : Nat) (IntKind.wrap IntKind.u64 (IntKind.wrap IntKind.u64 (↑(BitVec.toNat (BitVec.ofInt (64 : Nat) x0 &&& BitVec.ofInt (64 : Nat) (6148914691236517205 : Int))) : Int) * (2 : Int))))) : Int)) (4 : Int)) &&& BitVec.ofInt (64 : Nat) (3689348814741910323 : Int))) : Int)) ||| BitVec.ofInt (64 : Nat) (IntKind.wrap IntKind.u64 (IntKind.wrap IntKind.u64 (↑(BitVec.toNat (BitVec.ofInt (64 : Nat) (IntKind.wrap IntKind.u64 (↑(BitVec.toNat (BitVec.ofInt (64 : Nat) (IntKind.wrap IntKind.u64 (↑(BitVec.toNat (BitVec.ofInt (64 : Nat) (Int.fdiv x0 (2 : Int)) &&& BitVec.ofInt (64 : Nat) (6148914691236517205 : Int))) : Int)) ||| BitVec.ofInt (64 : Nat) (IntKind.wrap IntKind.u64 (IntKind.wrap IntKind.u64 (↑(BitVec.toNat (BitVec.ofInt (64 : Nat) x0 &&& BitVec.ofInt (64 : Nat) (6148914691236517205 : Int))) : Int) * (2 : Int))))) : Int)) &&& BitVec.ofInt (64 : Nat) (3689348814741910323 : Int))) : Int) * (4 : Int))))) : Int)) (16 : Int)) &&& BitVec.ofInt (64 : Nat) (1085102592571150095 : Int))) : Int)) ||| BitVec.ofInt (64 : Nat) (IntKind.wrap IntKind.u64 (IntKind.wrap IntKind.u64 (↑(BitVec.toNat (BitVec.ofInt (64 : Nat) (IntKind.wrap IntKind.u64 (↑(BitVec.toNat (BitVec.ofInt (64 : Nat) (IntKind.wrap IntKind.u64 (↑(BitVec.toNat (BitVec.ofInt (64 : Nat) (Int.fdiv (IntKind.wrap IntKind.u64 (↑(BitVec.toNat (BitVec.ofInt (64 : Nat) (IntKind.wrap IntKind.u64 (↑(BitVec.toNat (BitVec.ofInt (64 : Nat) (Int.fdiv x0 (2 : Int)) &&& BitVec.ofInt (64 : Nat) (6148914691236517205 : Int))) : Int)) ||| BitVec.ofInt (64 : Nat) (IntKind.wrap IntKind.u64 (IntKind.wrap IntKind.u64 (↑(BitVec.toNat (BitVec.ofInt (64 : Nat) x0 &&& BitVec.ofInt (64 : Nat) (6148914691236517205 : Int))) : Int) * (2 : Int))))) : Int)) (4 : Int)) &&& BitVec.ofInt (64 : Nat) (3689348814741910323 : Int))) : Int)) ||| BitVec.ofInt (64 : Nat) (IntKind.wrap IntKind.u64 (IntKind.wrap IntKind.u64 (↑(BitVec.toNat (BitVec.ofInt (64 : Nat) (IntKind.wrap IntKind.u64 (↑(BitVec.toNat (BitVec.ofInt (64 : Nat) (IntKind.wrap IntKind.u64 (↑(BitVec.toNat (BitVec.ofInt (64 : Nat) (Int.fdiv x0 (2 : Int)) &&& BitVec.ofInt (64 : Nat) (6148914691236517205 : Int))) : Int)) ||| BitVec.ofInt (64 : Nat) (IntKind.wrap IntKind.u64 (IntKind.wrap IntKind.u64 (↑(BitVec.toNat (BitVec.ofInt (64 : Nat) x0 &&& BitVec.ofInt (64 : Nat) (6148914691236517205 : Int))) : Int) * (2 : Int))))) : Int)) &&& BitVec.ofInt (64 : Nat) (3689348814741910323 : Int))) : Int) * (4 : Int))))) : Int)) &&& BitVec.ofInt (64 : Nat) (1085102592571150095 : Int))) : Int) * (16 : Int))))) : Int))) fun y0 =>
  some (y0)

theorem F70_eq (N : Nat) (x0 : Int) : (fnEv (mkE Try.prog ownT (tab70 N) []) Try.f70 (J70 x0)).run D70 = F70 N x0 := by kernel_rfl

noncomputable def T70 (N : Nat) : Pk → Tr Pk := tell I70 (F70 N) O70

theorem T70_ok (N : Nat) : FOK Try.prog 70 (T70 N) :=
  tell_ok (E := (mkE Try.prog ownT (tab70 N) [])) (mkE_ok mix (tab70_ok N)) Try.func70 (show Try.f70.body = some (bod Try.f70) by kernel_rfl) (by decide +kernel) I70_ok D70_ok (args := A70) (fun _ => by kernel_rfl) (fun _ => by show 1 ≤ Try.f70.ntmps; exact of_decide_eq_true (by kernel_rfl)) (cutsIn_ok trivial) (fun x => match x with | x0 => F70_eq N x0)

/-! ## f62: mirador/bitio.Reverse -/

noncomputable def I62 : Pk → Option (Int × Int)
  | ⟨[.agg [.v (.int .i64 x0), .v (.int .i64 x1)]], []⟩ => some (x0, x1)
  | _ => none

noncomputable def J62 (x : Int × Int) : Pk := ⟨[.agg [.v (.int .i64 (x.1)), .v (.int .i64 (x.2))]], []⟩

theorem I62_ok : ∀ pk x, I62 pk = some x → pk = J62 x := by
  intro pk x h
  unfold I62 at h
  split at h <;> first | (cases h; rfl) | cases h

noncomputable def A62 : List TV := []

noncomputable def tab62 (N : Nat) : List (Nat × (Pk → Tr Pk)) := [(42, T42 N), (43, T43 N), (70, T70 N)]

theorem tab62_ok (N : Nat) : TabOK Try.prog (tab62 N) := ⟨T42_ok N, ⟨T43_ok N, ⟨T70_ok N, trivial⟩⟩⟩

noncomputable def O62 (r : Int) : Tr (Pk) := .ret ⟨[.v (.int .i64 (r))], []⟩

noncomputable def D62 : Pk → Option (Int)
  | ⟨[.v (.int .i64 x0)], []⟩ => some (x0)
  | _ => none

theorem D62_ok : ∀ y r, D62 y = some r → ∀ z, (O62 r).to z → y = z := by
  intro y r h
  unfold D62 at h
  split at h <;> first | (cases h; intro z hz; exact Option.some.inj hz) | cases h

noncomputable def F62 (N : Nat) : (Int × Int) → Option (Int)
  | (x0, x1) =>
  Option.bind (F42 N x1) fun y0 =>
  Option.bind (F43 N (y0, x0)) fun y1 =>
  Option.bind (F70 N (IntKind.wrap IntKind.u64 y1)) fun y2 =>
  if (decide (IntKind.wrap IntKind.i64 ((64 : Int) - y0) < (0 : Int))) = true then
    none
  else
    some (IntKind.wrap IntKind.i64 (Int.fdiv y2 ((2 : Int) ^ min (Int.toNat (IntKind.wrap IntKind.i64 ((64 : Int) - y0))) (64 : Nat))))

theorem F62_eq (N : Nat) (x0 : Int) (x1 : Int) : (fnEv (mkE Try.prog ownT (tab62 N) []) Try.f62 (J62 (x0, x1))).run D62 = F62 N (x0, x1) := by kernel_rfl

noncomputable def T62 (N : Nat) : Pk → Tr Pk := tell I62 (F62 N) O62

theorem T62_ok (N : Nat) : FOK Try.prog 62 (T62 N) :=
  tell_ok (E := (mkE Try.prog ownT (tab62 N) [])) (mkE_ok mix (tab62_ok N)) Try.func62 (show Try.f62.body = some (bod Try.f62) by kernel_rfl) (by decide +kernel) I62_ok D62_ok (args := A62) (fun _ => by kernel_rfl) (fun _ => by show 1 ≤ Try.f62.ntmps; exact of_decide_eq_true (by kernel_rfl)) (cutsIn_ok trivial) (fun x => match x with | (x0, x1) => F62_eq N x0 x1)

/-! ## f23: (*mirador/bitio.Writer).Bits -/

noncomputable def I23 : Pk → Option (Int × Int × Int × Int × (List Int))
  | ⟨[.adr 0 [], .v (.int .i64 x0), .v (.int .i64 x1)], [some (.var (.agg [.sl 1 none, .v (.int .i64 x2), .v (.int .i64 x3)])), some (.row (.int .u8) 5 x4)]⟩ => some (x0, x1, x2, x3, x4)
  | _ => none

noncomputable def J23 (x : Int × Int × Int × Int × (List Int)) : Pk := ⟨[.adr 0 [], .v (.int .i64 (x.1)), .v (.int .i64 (x.2.1))], [some (.var (.agg [.sl 1 none, .v (.int .i64 (x.2.2.1)), .v (.int .i64 (x.2.2.2.1))])), some (.row (.int .u8) 5 (x.2.2.2.2))]⟩

theorem I23_ok : ∀ pk x, I23 pk = some x → pk = J23 x := by
  intro pk x h
  unfold I23 at h
  split at h <;> first | (cases h; rfl) | cases h

noncomputable def A23 : List TV := [.adr 0 []]

noncomputable def tab23 (N : Nat) : List (Nat × (Pk → Tr Pk)) := [(42, T42 N), (43, T43 N)]

theorem tab23_ok (N : Nat) : TabOK Try.prog (tab23 N) := ⟨T42_ok N, ⟨T43_ok N, trivial⟩⟩

def X23_30 : Ex → List Nat
  | .ret => []
  | .exit 0 => []
  | _ => []

noncomputable def I23_30 : Pk → Option (Int × Int × (List Int))
  | ⟨[.adr 0 []], [some (.var (.agg [.sl 1 (none), .v (.int .i64 x0), .v (.int .i64 x1)])), some (.row (Ty.int IntKind.u8) 5 x2)]⟩ => some (x0, x1, x2)
  | _ => none

noncomputable def J23_30 (x : Int × Int × (List Int)) : Pk := ⟨[.adr 0 []], [some (.var (.agg [.sl 1 (none), .v (.int .i64 (x.1)), .v (.int .i64 (x.2.1))])), some (.row (Ty.int IntKind.u8) 5 (x.2.2))]⟩

theorem I23_30_ok : ∀ pk x, I23_30 pk = some x → pk = J23_30 x := by
  intro pk x h
  unfold I23_30 at h
  split at h <;> first | (cases h; rfl) | cases h

noncomputable def O23_30 (r : Int × Int × (List Int)) : Tr (Ex × Pk) := .ret (.exit 0, ⟨[], [some (.var (.agg [.sl 1 (none), .v (.int .i64 (r.1)), .v (.int .i64 (r.2.1))])), some (.row (Ty.int IntKind.u8) 5 (r.2.2))]⟩)

noncomputable def D23_30 : Ex × Pk → Option (Int × Int × (List Int))
  | (.exit 0, ⟨[], [some (.var (.agg [.sl 1 (none), .v (.int .i64 x0), .v (.int .i64 x1)])), some (.row (Ty.int IntKind.u8) 5 x2)]⟩) => some ((x0, x1, x2))
  | _ => none

theorem D23_30_ok : ∀ y r, D23_30 y = some r → ∀ z, (O23_30 r).to z → y = z := by
  intro y r h
  unfold D23_30 at h
  split at h <;> first | (cases h; intro z hz; exact Option.some.inj hz) | cases h

noncomputable def B23_30 (N : Nat) (f : (Int × Int × (List Int)) → Option (Int × Int × (List Int))) : (Int × Int × (List Int)) → Option (Int × Int × (List Int))
  | (x0, x1, x2) =>
  if (decide (x1 ≥ (8 : Int))) = true then
    if (decide ((List.length x2 + List.length [IntKind.wrap IntKind.u8 x0]) * (1 : Nat) ≤ (140737488355328 : Nat) ∧ List.length x2 + List.length [IntKind.wrap IntKind.u8 x0] ≤ (140737488355328 : Nat))) = true then
      Option.bind (f (Int.fdiv x0 (256 : Int), IntKind.wrap IntKind.i64 (x1 - (8 : Int)), x2 ++ [IntKind.wrap IntKind.u8 x0])) fun r => some r
    else
      none
  else
    some ((x0, x1, x2))

noncomputable def F23_30 (N : Nat) : Nat → (Int × Int × (List Int)) → Option (Int × Int × (List Int))
  | 0, _ => none
  | k + 1, x => B23_30 N (F23_30 N k) x

noncomputable def C23_30 (N k : Nat) : Cut := ⟨[0], X23_30, tellX I23_30 (F23_30 N k) O23_30⟩

theorem B23_30_eq (N : Nat) (f : (Int × Int × (List Int)) → Option (Int × Int × (List Int))) (x0 : Int) (x1 : Int) (x2 : (List Int)) : (roundEv (mkE Try.prog ownT (tab23 N) []) Try.f23.ntmps A23 (loopAt (bod Try.f23) 30) 30 ⟨[0], X23_30, tellX I23_30 f O23_30⟩ (J23_30 (x0, x1, x2))).run D23_30 = B23_30 N f (x0, x1, x2) := by kernel_rfl

theorem C23_30_ok (N k : Nat) : ∀ c', At (bod Try.f23) 30 c' → CutOK Try.prog Try.f23.ntmps (idsL A23) c' (C23_30 N k) :=
  loop_ok (E := (mkE Try.prog ownT (tab23 N) [])) (mkE_ok mix (tab23_ok N)) (cutsIn_ok trivial) (fuel := 200) (by decide +kernel) (by kernel_rfl) I23_30_ok D23_30_ok (B23_30 N) (F23_30 N) (fun _ => rfl) (fun _ _ => rfl) (fun f x => match x with | (x0, x1, x2) => B23_30_eq N f x0 x1 x2) k

noncomputable def O23 (r : Int × Int × (List Int)) : Tr (Pk) := .ret ⟨[.tup []], [some (.var (.agg [.sl 1 (none), .v (.int .i64 (r.1)), .v (.int .i64 (r.2.1))])), some (.row (Ty.int IntKind.u8) 5 (r.2.2))]⟩

noncomputable def D23 : Pk → Option (Int × Int × (List Int))
  | ⟨[.tup []], [some (.var (.agg [.sl 1 (none), .v (.int .i64 x0), .v (.int .i64 x1)])), some (.row (Ty.int IntKind.u8) 5 x2)]⟩ => some ((x0, x1, x2))
  | _ => none

theorem D23_ok : ∀ y r, D23 y = some r → ∀ z, (O23 r).to z → y = z := by
  intro y r h
  unfold D23 at h
  split at h <;> first | (cases h; intro z hz; exact Option.some.inj hz) | cases h

noncomputable def F23 (N : Nat) : (Int × Int × Int × Int × (List Int)) → Option (Int × Int × (List Int))
  | (x0, x1, x2, x3, x4) =>
  Option.bind (F42 N x0) fun y0 =>
  Option.bind (F43 N (y0, x1)) fun y1 =>
  if (decide (x3 < (0 : Int))) = true then
    none
  else
    Option.bind (F23_30 N N (IntKind.wrap IntKind.i64 (↑(BitVec.toNat (BitVec.ofInt (64 : Nat) x2 ||| BitVec.ofInt (64 : Nat) (IntKind.wrap IntKind.i64 (y1 * (2 : Int) ^ min (Int.toNat x3) (64 : Nat))))) : Int), IntKind.wrap IntKind.i64 (x3 + y0), x4)) fun y2 =>
    some ((Prod.fst y2, Prod.fst (Prod.snd y2), Prod.snd (Prod.snd y2)))

theorem F23_eq (N : Nat) (x0 : Int) (x1 : Int) (x2 : Int) (x3 : Int) (x4 : (List Int)) : (fnEv (mkE Try.prog ownT (tab23 N) [(30, (C23_30 N N))]) Try.f23 (J23 (x0, x1, x2, x3, x4))).run D23 = F23 N (x0, x1, x2, x3, x4) := by kernel_rfl

noncomputable def T23 (N : Nat) : Pk → Tr Pk := tell I23 (F23 N) O23

theorem T23_ok (N : Nat) : FOK Try.prog 23 (T23 N) :=
  tell_ok (E := (mkE Try.prog ownT (tab23 N) [(30, (C23_30 N N))])) (mkE_ok mix (tab23_ok N)) Try.func23 (show Try.f23.body = some (bod Try.f23) by kernel_rfl) (by decide +kernel) I23_ok D23_ok (args := A23) (fun _ => by kernel_rfl) (fun _ => by show 3 ≤ Try.f23.ntmps; exact of_decide_eq_true (by kernel_rfl)) (cutsIn_ok ⟨fun c' h => (C23_30_ok N N c' h), trivial⟩) (fun x => match x with | (x0, x1, x2, x3, x4) => F23_eq N x0 x1 x2 x3 x4)

/-! ## f47: (*mirador/bitio.Writer).Code -/

noncomputable def I47 : Pk → Option (Int × Int × Int × Int × (List Int))
  | ⟨[.adr 0 [], .agg [.v (.int .i64 x0), .v (.int .i64 x1)]], [some (.var (.agg [.sl 1 none, .v (.int .i64 x2), .v (.int .i64 x3)])), some (.row (.int .u8) 5 x4)]⟩ => some (x0, x1, x2, x3, x4)
  | _ => none

noncomputable def J47 (x : Int × Int × Int × Int × (List Int)) : Pk := ⟨[.adr 0 [], .agg [.v (.int .i64 (x.1)), .v (.int .i64 (x.2.1))]], [some (.var (.agg [.sl 1 none, .v (.int .i64 (x.2.2.1)), .v (.int .i64 (x.2.2.2.1))])), some (.row (.int .u8) 5 (x.2.2.2.2))]⟩

theorem I47_ok : ∀ pk x, I47 pk = some x → pk = J47 x := by
  intro pk x h
  unfold I47 at h
  split at h <;> first | (cases h; rfl) | cases h

noncomputable def A47 : List TV := [.adr 0 []]

noncomputable def tab47 (N : Nat) : List (Nat × (Pk → Tr Pk)) := [(62, T62 N), (23, T23 N)]

theorem tab47_ok (N : Nat) : TabOK Try.prog (tab47 N) := ⟨T62_ok N, ⟨T23_ok N, trivial⟩⟩

noncomputable def O47 (r : Int × Int × (List Int)) : Tr (Pk) := .ret ⟨[.tup []], [some (.var (.agg [.sl 1 (none), .v (.int .i64 (r.1)), .v (.int .i64 (r.2.1))])), some (.row (Ty.int IntKind.u8) 5 (r.2.2))]⟩

noncomputable def D47 : Pk → Option (Int × Int × (List Int))
  | ⟨[.tup []], [some (.var (.agg [.sl 1 (none), .v (.int .i64 x0), .v (.int .i64 x1)])), some (.row (Ty.int IntKind.u8) 5 x2)]⟩ => some ((x0, x1, x2))
  | _ => none

theorem D47_ok : ∀ y r, D47 y = some r → ∀ z, (O47 r).to z → y = z := by
  intro y r h
  unfold D47 at h
  split at h <;> first | (cases h; intro z hz; exact Option.some.inj hz) | cases h

noncomputable def F47 (N : Nat) : (Int × Int × Int × Int × (List Int)) → Option (Int × Int × (List Int))
  | (x0, x1, x2, x3, x4) =>
  Option.bind (F62 N (x0, x1)) fun y0 =>
  Option.bind (F23 N (x1, y0, x2, x3, x4)) fun y1 =>
  some ((Prod.fst y1, Prod.fst (Prod.snd y1), Prod.snd (Prod.snd y1)))

theorem F47_eq (N : Nat) (x0 : Int) (x1 : Int) (x2 : Int) (x3 : Int) (x4 : (List Int)) : (fnEv (mkE Try.prog ownT (tab47 N) []) Try.f47 (J47 (x0, x1, x2, x3, x4))).run D47 = F47 N (x0, x1, x2, x3, x4) := by kernel_rfl

noncomputable def T47 (N : Nat) : Pk → Tr Pk := tell I47 (F47 N) O47

theorem T47_ok (N : Nat) : FOK Try.prog 47 (T47 N) :=
  tell_ok (E := (mkE Try.prog ownT (tab47 N) [])) (mkE_ok mix (tab47_ok N)) Try.func47 (show Try.f47.body = some (bod Try.f47) by kernel_rfl) (by decide +kernel) I47_ok D47_ok (args := A47) (fun _ => by kernel_rfl) (fun _ => by show 2 ≤ Try.f47.ntmps; exact of_decide_eq_true (by kernel_rfl)) (cutsIn_ok trivial) (fun x => match x with | (x0, x1, x2, x3, x4) => F47_eq N x0 x1 x2 x3 x4)


end Go.Proofs.Ytmcjfdognplgmaa.Am

set_option linter.unusedVariables false
set_option maxRecDepth 100000
namespace Go.Proofs.Ytmcjfdognplgmaa.Am
open Go.Am

/-! ## f25: mirador/symbols.Write -/

noncomputable def I25 : Pk → Option ((List Int) × (List Int) × (List (Int × (Int × (Int × Unit)))) × Int × Int × (List Int))
  | ⟨[.adr 0 [], .ro (.int .i64) x0, .ro (.int .i64) x1, .ro (.cons (.int .i64) (.cons (.int .i64) (.cons (.int .i64) .unit))) x2], [some (.var (.agg [.sl 1 none, .v (.int .i64 x3), .v (.int .i64 x4)])), some (.row (.int .u8) 5 x5)]⟩ => some (x0, x1, x2, x3, x4, x5)
  | _ => none

noncomputable def J25 (x : (List Int) × (List Int) × (List (Int × (Int × (Int × Unit)))) × Int × Int × (List Int)) : Pk := ⟨[.adr 0 [], .ro (.int .i64) (x.1), .ro (.int .i64) (x.2.1), .ro (.cons (.int .i64) (.cons (.int .i64) (.cons (.int .i64) .unit))) (x.2.2.1)], [some (.var (.agg [.sl 1 none, .v (.int .i64 (x.2.2.2.1)), .v (.int .i64 (x.2.2.2.2.1))])), some (.row (.int .u8) 5 (x.2.2.2.2.2))]⟩

theorem I25_ok : ∀ pk x, I25 pk = some x → pk = J25 x := by
  intro pk x h
  unfold I25 at h
  split at h <;> first | (cases h; rfl) | cases h

noncomputable def A25 : List TV := [.adr 0 []]

noncomputable def tab25 (N : Nat) : List (Nat × (Pk → Tr Pk)) := [(39, T39 N), (45, T45 N), (18, T18 N), (46, T46 N), (47, T47 N), (9, T9 N), (23, T23 N), (11, T11 N)]

theorem tab25_ok (N : Nat) : TabOK Try.prog (tab25 N) := ⟨T39_ok N, ⟨T45_ok N, ⟨T18_ok N, ⟨T46_ok N, ⟨T47_ok N, ⟨T9_ok N, ⟨T23_ok N, ⟨T11_ok N, trivial⟩⟩⟩⟩⟩⟩⟩⟩

def X25_26 : Ex → List Nat
  | .ret => [8]
  | .exit 0 => [1, 2, 0, 3]
  | _ => []

def X25_1018 : Ex → List Nat
  | .ret => [8]
  | .exit 2 => [0, 11]
  | _ => []

noncomputable def I25_26 : Pk → Option (Int × (List (Int × (Int × (Int × Unit)))) × (List Int) × (List Int) × (List (Int × (Int × (Int × Unit)))) × Int × Int × Int × (List Int))
  | ⟨[.v (.int .i64 x0), .ro (Ty.cons (Ty.int IntKind.i64) (Ty.cons (Ty.int IntKind.i64) (Ty.cons (Ty.int IntKind.i64) Ty.unit))) x1, .adr 0 [], .ro (Ty.int IntKind.i64) x2, .ro (Ty.int IntKind.i64) x3, .ro (Ty.cons (Ty.int IntKind.i64) (Ty.cons (Ty.int IntKind.i64) (Ty.cons (Ty.int IntKind.i64) Ty.unit))) x4, .v (.int .i64 x5)], [some (.var (.agg [.sl 1 (none), .v (.int .i64 x6), .v (.int .i64 x7)])), some (.row (Ty.int IntKind.u8) 5 x8)]⟩ => some (x0, x1, x2, x3, x4, x5, x6, x7, x8)
  | _ => none

noncomputable def J25_26 (x : Int × (List (Int × (Int × (Int × Unit)))) × (List Int) × (List Int) × (List (Int × (Int × (Int × Unit)))) × Int × Int × Int × (List Int)) : Pk := ⟨[.v (.int .i64 (x.1)), .ro (Ty.cons (Ty.int IntKind.i64) (Ty.cons (Ty.int IntKind.i64) (Ty.cons (Ty.int IntKind.i64) Ty.unit))) (x.2.1), .adr 0 [], .ro (Ty.int IntKind.i64) (x.2.2.1), .ro (Ty.int IntKind.i64) (x.2.2.2.1), .ro (Ty.cons (Ty.int IntKind.i64) (Ty.cons (Ty.int IntKind.i64) (Ty.cons (Ty.int IntKind.i64) Ty.unit))) (x.2.2.2.2.1), .v (.int .i64 (x.2.2.2.2.2.1))], [some (.var (.agg [.sl 1 (none), .v (.int .i64 (x.2.2.2.2.2.2.1)), .v (.int .i64 (x.2.2.2.2.2.2.2.1))])), some (.row (Ty.int IntKind.u8) 5 (x.2.2.2.2.2.2.2.2))]⟩

theorem I25_26_ok : ∀ pk x, I25_26 pk = some x → pk = J25_26 x := by
  intro pk x h
  unfold I25_26 at h
  split at h <;> first | (cases h; rfl) | cases h

noncomputable def O25_26 (r : ((Int × Int × Int × (List Int)) ⊕ ((List Int) × (List Int) × (List (Int × (Int × (Int × Unit)))) × Int × Int × (List Int)))) : Tr (Ex × Pk) := .sum _ _ r (fun u => .ret (.ret, ⟨[.v (.int .i64 (u.1))], [some (.var (.agg [.sl 1 (none), .v (.int .i64 (u.2.1)), .v (.int .i64 (u.2.2.1))])), some (.row (Ty.int IntKind.u8) 5 (u.2.2.2))]⟩)) (fun v => .ret (.exit 0, ⟨[.ro (Ty.int IntKind.i64) (v.1), .ro (Ty.int IntKind.i64) (v.2.1), .adr 0 [], .ro (Ty.cons (Ty.int IntKind.i64) (Ty.cons (Ty.int IntKind.i64) (Ty.cons (Ty.int IntKind.i64) Ty.unit))) (v.2.2.1)], [some (.var (.agg [.sl 1 (none), .v (.int .i64 (v.2.2.2.1)), .v (.int .i64 (v.2.2.2.2.1))])), some (.row (Ty.int IntKind.u8) 5 (v.2.2.2.2.2))]⟩))

noncomputable def D25_26 : Ex × Pk → Option (((Int × Int × Int × (List Int)) ⊕ ((List Int) × (List Int) × (List (Int × (Int × (Int × Unit)))) × Int × Int × (List Int))))
  | (.ret, ⟨[.v (.int .i64 x0)], [some (.var (.agg [.sl 1 (none), .v (.int .i64 x1), .v (.int .i64 x2)])), some (.row (Ty.int IntKind.u8) 5 x3)]⟩) => some (.inl ((x0, x1, x2, x3)))
  | (.exit 0, ⟨[.ro (Ty.int IntKind.i64) x0, .ro (Ty.int IntKind.i64) x1, .adr 0 [], .ro (Ty.cons (Ty.int IntKind.i64) (Ty.cons (Ty.int IntKind.i64) (Ty.cons (Ty.int IntKind.i64) Ty.unit))) x2], [some (.var (.agg [.sl 1 (none), .v (.int .i64 x3), .v (.int .i64 x4)])), some (.row (Ty.int IntKind.u8) 5 x5)]⟩) => some (.inr ((x0, x1, x2, x3, x4, x5)))
  | _ => none

theorem D25_26_ok : ∀ y r, D25_26 y = some r → ∀ z, (O25_26 r).to z → y = z := by
  intro y r h
  unfold D25_26 at h
  split at h <;> first | (cases h; intro z hz; exact Option.some.inj hz) | cases h

noncomputable def B25_26 (N : Nat) (f : (Int × (List (Int × (Int × (Int × Unit)))) × (List Int) × (List Int) × (List (Int × (Int × (Int × Unit)))) × Int × Int × Int × (List Int)) → Option (((Int × Int × Int × (List Int)) ⊕ ((List Int) × (List Int) × (List (Int × (Int × (Int × Unit)))) × Int × Int × (List Int))))) : (Int × (List (Int × (Int × (Int × Unit)))) × (List Int) × (List Int) × (List (Int × (Int × (Int × Unit)))) × Int × Int × Int × (List Int)) → Option (((Int × Int × Int × (List Int)) ⊕ ((List Int) × (List Int) × (List (Int × (Int × (Int × Unit)))) × Int × Int × (List Int))))
  | (x0, x1, x2, x3, x4, x5, x6, x7, x8) =>
  if (decide (x5 < x0)) = true then
    if (within x5 (List.length x4)) = true then
      Option.bind (x4[Int.toNat x5]?) fun y0 =>
      Option.bind (F39 N (Prod.fst y0, Prod.fst (Prod.snd y0), Prod.fst (Prod.snd (Prod.snd y0)))) fun y1 =>
      if (!y1) = true then
        some (.inl (((1 : Int), x6, x7, x8)))
      else
        Option.bind (f (x0, x1, x2, x3, x4, IntKind.wrap IntKind.i64 (x5 + (1 : Int)), x6, x7, x8)) fun r => match r with | .inl (y) => some (.inl (y)) | .inr (y) => some (.inr (y))
    else
      none
  else
    some (.inr ((x3, x2, x1, x6, x7, x8)))

noncomputable def F25_26 (N : Nat) : Nat → (Int × (List (Int × (Int × (Int × Unit)))) × (List Int) × (List Int) × (List (Int × (Int × (Int × Unit)))) × Int × Int × Int × (List Int)) → Option (((Int × Int × Int × (List Int)) ⊕ ((List Int) × (List Int) × (List (Int × (Int × (Int × Unit)))) × Int × Int × (List Int))))
  | 0, _ => none
  | k + 1, x => B25_26 N (F25_26 N k) x

noncomputable def C25_26 (N k : Nat) : Cut := ⟨[23, 3, 0, 2, 1, 22, 24], X25_26, tellX I25_26 (F25_26 N k) O25_26⟩

theorem B25_26_eq (N : Nat) (f : (Int × (List (Int × (Int × (Int × Unit)))) × (List Int) × (List Int) × (List (Int × (Int × (Int × Unit)))) × Int × Int × Int × (List Int)) → Option (((Int × Int × Int × (List Int)) ⊕ ((List Int) × (List Int) × (List (Int × (Int × (Int × Unit)))) × Int × Int × (List Int))))) (x0 : Int) (x1 : (List (Int × (Int × (Int × Unit))))) (x2 : (List Int)) (x3 : (List Int)) (x4 : (List (Int × (Int × (Int × Unit))))) (x5 : Int) (x6 : Int) (x7 : Int) (x8 : (List Int)) : (roundEv (mkE Try.prog ownT (tab25 N) []) Try.f25.ntmps A25 (loopAt (bod Try.f25) 26) 26 ⟨[23, 3, 0, 2, 1, 22, 24], X25_26, tellX I25_26 f O25_26⟩ (J25_26 (x0, x1, x2, x3, x4, x5, x6, x7, x8))).run D25_26 = B25_26 N f (x0, x1, x2, x3, x4, x5, x6, x7, x8) := by kernel_rfl

theorem C25_26_ok (N k : Nat) : ∀ c', At (bod Try.f25) 26 c' → CutOK Try.prog Try.f25.ntmps (idsL A25) c' (C25_26 N k) :=
  loop_ok (E := (mkE Try.prog ownT (tab25 N) [])) (mkE_ok mix (tab25_ok N)) (cutsIn_ok trivial) (fuel := 200) (by decide +kernel) (by kernel_rfl) I25_26_ok D25_26_ok (B25_26 N) (F25_26 N) (fun _ => rfl) (fun _ _ => rfl) (fun f x => match x with | (x0, x1, x2, x3, x4, x5, x6, x7, x8) => B25_26_eq N f x0 x1 x2 x3 x4 x5 x6 x7 x8) k

noncomputable def I25_1018 : Pk → Option (Int × Int × (List (Int × (Int × (Int × Unit)))) × Int × Int × (List (Int × (Int × Unit))) × (List (Int × (Int × Unit))) × (List Int))
  | ⟨[.v (.int .i64 x0), .v (.int .i64 x1), .ro (Ty.cons (Ty.int IntKind.i64) (Ty.cons (Ty.int IntKind.i64) (Ty.cons (Ty.int IntKind.i64) Ty.unit))) x2, .sl 1 (none), .adr 0 [], .sl 2 (none)], [some (.var (.agg [.sl 3 (none), .v (.int .i64 x3), .v (.int .i64 x4)])), some (.row (Ty.cons (Ty.int IntKind.i64) (Ty.cons (Ty.int IntKind.i64) Ty.unit)) 78 x5), some (.row (Ty.cons (Ty.int IntKind.i64) (Ty.cons (Ty.int IntKind.i64) Ty.unit)) 78 x6), some (.row (Ty.int IntKind.u8) 5 x7)]⟩ => some (x0, x1, x2, x3, x4, x5, x6, x7)
  | _ => none

noncomputable def J25_1018 (x : Int × Int × (List (Int × (Int × (Int × Unit)))) × Int × Int × (List (Int × (Int × Unit))) × (List (Int × (Int × Unit))) × (List Int)) : Pk := ⟨[.v (.int .i64 (x.1)), .v (.int .i64 (x.2.1)), .ro (Ty.cons (Ty.int IntKind.i64) (Ty.cons (Ty.int IntKind.i64) (Ty.cons (Ty.int IntKind.i64) Ty.unit))) (x.2.2.1), .sl 1 (none), .adr 0 [], .sl 2 (none)], [some (.var (.agg [.sl 3 (none), .v (.int .i64 (x.2.2.2.1)), .v (.int .i64 (x.2.2.2.2.1))])), some (.row (Ty.cons (Ty.int IntKind.i64) (Ty.cons (Ty.int IntKind.i64) Ty.unit)) 78 (x.2.2.2.2.2.1)), some (.row (Ty.cons (Ty.int IntKind.i64) (Ty.cons (Ty.int IntKind.i64) Ty.unit)) 78 (x.2.2.2.2.2.2.1)), some (.row (Ty.int IntKind.u8) 5 (x.2.2.2.2.2.2.2))]⟩

theorem I25_1018_ok : ∀ pk x, I25_1018 pk = some x → pk = J25_1018 x := by
  intro pk x h
  unfold I25_1018 at h
  split at h <;> first | (cases h; rfl) | cases h

noncomputable def O25_1018 (r : Int × Int × (List (Int × (Int × Unit))) × (List Int)) : Tr (Ex × Pk) := .ret (.exit 2, ⟨[.adr 0 [], .sl 1 (none)], [some (.var (.agg [.sl 2 (none), .v (.int .i64 (r.1)), .v (.int .i64 (r.2.1))])), some (.row (Ty.cons (Ty.int IntKind.i64) (Ty.cons (Ty.int IntKind.i64) Ty.unit)) 78 (r.2.2.1)), some (.row (Ty.int IntKind.u8) 5 (r.2.2.2))]⟩)

noncomputable def D25_1018 : Ex × Pk → Option (Int × Int × (List (Int × (Int × Unit))) × (List Int))
  | (.exit 2, ⟨[.adr 0 [], .sl 1 (none)], [some (.var (.agg [.sl 2 (none), .v (.int .i64 x0), .v (.int .i64 x1)])), some (.row (Ty.cons (Ty.int IntKind.i64) (Ty.cons (Ty.int IntKind.i64) Ty.unit)) 78 x2), some (.row (Ty.int IntKind.u8) 5 x3)]⟩) => some ((x0, x1, x2, x3))
  | _ => none

theorem D25_1018_ok : ∀ y r, D25_1018 y = some r → ∀ z, (O25_1018 r).to z → y = z := by
  intro y r h
  unfold D25_1018 at h
  split at h <;> first | (cases h; intro z hz; exact Option.some.inj hz) | cases h

noncomputable def B25_1018 (N : Nat) (f : (Int × Int × (List (Int × (Int × (Int × Unit)))) × Int × Int × (List (Int × (Int × Unit))) × (List (Int × (Int × Unit))) × (List Int)) → Option (Int × Int × (List (Int × (Int × Unit))) × (List Int))) : (Int × Int × (List (Int × (Int × (Int × Unit)))) × Int × Int × (List (Int × (Int × Unit))) × (List (Int × (Int × Unit))) × (List Int)) → Option (Int × Int × (List (Int × (Int × Unit))) × (List Int))
  | (x0, x1, x2, x3, x4, x5, x6, x7) =>
  if (decide (x0 < x1)) = true then
    if (within x0 (List.length x2)) = true then
      Option.bind (x2[Int.toNat x0]?) fun y0 =>
      if (Prod.fst (Prod.snd y0) == (0 : Int)) = true then
        if (within (Prod.fst y0) (List.length x6)) = true then
          Option.bind (x6[Int.toNat (Prod.fst y0)]?) fun y1 =>
          Option.bind (F47 N (Prod.fst y1, Prod.fst (Prod.snd y1), x3, x4, x7)) fun y2 =>
          Option.bind (f (IntKind.wrap IntKind.i64 (x0 + (1 : Int)), x1, x2, Prod.fst y2, Prod.fst (Prod.snd y2), x5, x6, Prod.snd (Prod.snd y2))) fun r => some r
        else
          none
      else
        Option.bind (F9 N (Prod.fst (Prod.snd y0))) fun y3 =>
        if (within (Prod.fst y3) (List.length x6)) = true then
          Option.bind (x6[Int.toNat (Prod.fst y3)]?) fun y4 =>
          Option.bind (F47 N (Prod.fst y4, Prod.fst (Prod.snd y4), x3, x4, x7)) fun y5 =>
          Option.bind (F23 N (Prod.snd (Prod.snd y3), Prod.fst (Prod.snd y3), Prod.fst y5, Prod.fst (Prod.snd y5), Prod.snd (Prod.snd y5))) fun y6 =>
          Option.bind (F11 N (Prod.fst (Prod.snd (Prod.snd y0)))) fun y7 =>
          if (within (Prod.fst y7) (List.length x5)) = true then
            Option.bind (x5[Int.toNat (Prod.fst y7)]?) fun y8 =>
            Option.bind (F47 N (Prod.fst y8, Prod.fst (Prod.snd y8), Prod.fst y6, Prod.fst (Prod.snd y6), Prod.snd (Prod.snd y6))) fun y9 =>
            Option.bind (F23 N (Prod.snd (Prod.snd y7), Prod.fst (Prod.snd y7), Prod.fst y9, Prod.fst (Prod.snd y9), Prod.snd (Prod.snd y9))) fun y10 =>
            Option.bind (f (IntKind.wrap IntKind.i64 (x0 + (1 : Int)), x1, x2, Prod.fst y10, Prod.fst (Prod.snd y10), x5, x6, Prod.snd (Prod.snd y10))) fun r => some r
          else
            none
        else
          none
    else
      none
  else
    some ((x3, x4, x6, x7))

noncomputable def F25_1018 (N : Nat) : Nat → (Int × Int × (List (Int × (Int × (Int × Unit)))) × Int × Int × (List (Int × (Int × Unit))) × (List (Int × (Int × Unit))) × (List Int)) → Option (Int × Int × (List (Int × (Int × Unit))) × (List Int))
  | 0, _ => none
  | k + 1, x => B25_1018 N (F25_1018 N k) x

noncomputable def C25_1018 (N k : Nat) : Cut := ⟨[67, 66, 65, 13, 0, 11], X25_1018, tellX I25_1018 (F25_1018 N k) O25_1018⟩

theorem B25_1018_eq (N : Nat) (f : (Int × Int × (List (Int × (Int × (Int × Unit)))) × Int × Int × (List (Int × (Int × Unit))) × (List (Int × (Int × Unit))) × (List Int)) → Option (Int × Int × (List (Int × (Int × Unit))) × (List Int))) (x0 : Int) (x1 : Int) (x2 : (List (Int × (Int × (Int × Unit))))) (x3 : Int) (x4 : Int) (x5 : (List (Int × (Int × Unit)))) (x6 : (List (Int × (Int × Unit)))) (x7 : (List Int)) : (roundEv (mkE Try.prog ownT (tab25 N) [(26, (C25_26 N N))]) Try.f25.ntmps A25 (loopAt (bod Try.f25) 1018) 1018 ⟨[67, 66, 65, 13, 0, 11], X25_1018, tellX I25_1018 f O25_1018⟩ (J25_1018 (x0, x1, x2, x3, x4, x5, x6, x7))).run D25_1018 = B25_1018 N f (x0, x1, x2, x3, x4, x5, x6, x7) := by kernel_rfl

theorem C25_1018_ok (N k : Nat) : ∀ c', At (bod Try.f25) 1018 c' → CutOK Try.prog Try.f25.ntmps (idsL A25) c' (C25_1018 N k) :=
  loop_ok (E := (mkE Try.prog ownT (tab25 N) [(26, (C25_26 N N))])) (mkE_ok mix (tab25_ok N)) (cutsIn_ok ⟨fun c' h => (C25_26_ok N N c' h), trivial⟩) (fuel := 200) (by decide +kernel) (by kernel_rfl) I25_1018_ok D25_1018_ok (B25_1018 N) (F25_1018 N) (fun _ => rfl) (fun _ _ => rfl) (fun f x => match x with | (x0, x1, x2, x3, x4, x5, x6, x7) => B25_1018_eq N f x0 x1 x2 x3 x4 x5 x6 x7) k

noncomputable def O25 (r : Int × Int × Int × (List Int)) : Tr (Pk) := .ret ⟨[.v (.int .i64 (r.1))], [some (.var (.agg [.sl 1 (none), .v (.int .i64 (r.2.1)), .v (.int .i64 (r.2.2.1))])), some (.row (Ty.int IntKind.u8) 5 (r.2.2.2))]⟩

noncomputable def D25 : Pk → Option (Int × Int × Int × (List Int))
  | ⟨[.v (.int .i64 x0)], [some (.var (.agg [.sl 1 (none), .v (.int .i64 x1), .v (.int .i64 x2)])), some (.row (Ty.int IntKind.u8) 5 x3)]⟩ => some ((x0, x1, x2, x3))
  | _ => none

theorem D25_ok : ∀ y r, D25 y = some r → ∀ z, (O25 r).to z → y = z := by
  intro y r h
  unfold D25 at h
  split at h <;> first | (cases h; intro z hz; exact Option.some.inj hz) | cases h

noncomputable def F25 (N : Nat) : ((List Int) × (List Int) × (List (Int × (Int × (Int × Unit)))) × Int × Int × (List Int)) → Option (Int × Int × Int × (List Int))
  | (x0, x1, x2, x3, x4, x5) =>
  Option.bind (F25_26 N N ((↑(List.length x2) : Int), x2, x1, x0, x2, (0 : Int), x3, x4, x5)) fun y0 =>
  match y0 with
  | .inl y1 =>
    some ((Prod.fst y1, Prod.fst (Prod.snd y1), Prod.fst (Prod.snd (Prod.snd y1)), Prod.snd (Prod.snd (Prod.snd y1))))
  | .inr y1 =>
    Option.bind (F45 N (Prod.fst y1)) fun y2 =>
    Option.bind (F45 N (Prod.fst (Prod.snd y1))) fun y3 =>
    Option.bind (F18 N (Prod.fst (Prod.snd (Prod.snd y1)))) fun y4 =>
    if (Prod.fst y2 != (0 : Int)) = true then
      some (((50 : Int), Prod.fst (Prod.snd (Prod.snd (Prod.snd y1))), Prod.fst (Prod.snd (Prod.snd (Prod.snd (Prod.snd y1)))), Prod.snd (Prod.snd (Prod.snd (Prod.snd (Prod.snd y1))))))
    else
      if (Prod.fst y3 != (0 : Int)) = true then
        some (((50 : Int), Prod.fst (Prod.snd (Prod.snd (Prod.snd y1))), Prod.fst (Prod.snd (Prod.snd (Prod.snd (Prod.snd y1)))), Prod.snd (Prod.snd (Prod.snd (Prod.snd (Prod.snd y1))))))
      else
        Option.bind (F46 N (Prod.snd y2, Prod.fst y4)) fun y5 =>
        if (!y5) = true then
          some (((50 : Int), Prod.fst (Prod.snd (Prod.snd (Prod.snd y1))), Prod.fst (Prod.snd (Prod.snd (Prod.snd (Prod.snd y1)))), Prod.snd (Prod.snd (Prod.snd (Prod.snd (Prod.snd y1))))))
        else
          Option.bind (F46 N (Prod.snd y3, Prod.snd y4)) fun y6 =>
          if (!y6) = true then
            some (((50 : Int), Prod.fst (Prod.snd (Prod.snd (Prod.snd y1))), Prod.fst (Prod.snd (Prod.snd (Prod.snd (Prod.snd y1)))), Prod.snd (Prod.snd (Prod.snd (Prod.snd (Prod.snd y1))))))
          else
            Option.bind (F25_1018 N N ((0 : Int), (↑(List.length (Prod.fst (Prod.snd (Prod.snd y1)))) : Int), Prod.fst (Prod.snd (Prod.snd y1)), Prod.fst (Prod.snd (Prod.snd (Prod.snd y1))), Prod.fst (Prod.snd (Prod.snd (Prod.snd (Prod.snd y1)))), Prod.snd y3, Prod.snd y2, Prod.snd (Prod.snd (Prod.snd (Prod.snd (Prod.snd y1)))))) fun y7 =>
            if (within (256 : Int) (List.length (Prod.fst (Prod.snd (Prod.snd y7))))) = true then
              Option.bind ((Prod.fst (Prod.snd (Prod.snd y7)))[(256 : Nat)]?) fun y8 =>
              Option.bind (F47 N (Prod.fst y8, Prod.fst (Prod.snd y8), Prod.fst y7, Prod.fst (Prod.snd y7), Prod.snd (Prod.snd (Prod.snd y7)))) fun y9 =>
              some (((0 : Int), Prod.fst y9, Prod.fst (Prod.snd y9), Prod.snd (Prod.snd y9)))
            else
              none

theorem F25_eq (N : Nat) (x0 : (List Int)) (x1 : (List Int)) (x2 : (List (Int × (Int × (Int × Unit))))) (x3 : Int) (x4 : Int) (x5 : (List Int)) : (fnEv (mkE Try.prog ownT (tab25 N) [(26, (C25_26 N N)), (1018, (C25_1018 N N))]) Try.f25 (J25 (x0, x1, x2, x3, x4, x5))).run D25 = F25 N (x0, x1, x2, x3, x4, x5) := by kernel_rfl

noncomputable def T25 (N : Nat) : Pk → Tr Pk := tell I25 (F25 N) O25

theorem T25_ok (N : Nat) : FOK Try.prog 25 (T25 N) :=
  tell_ok (E := (mkE Try.prog ownT (tab25 N) [(26, (C25_26 N N)), (1018, (C25_1018 N N))])) (mkE_ok mix (tab25_ok N)) Try.func25 (show Try.f25.body = some (bod Try.f25) by kernel_rfl) (by decide +kernel) I25_ok D25_ok (args := A25) (fun _ => by kernel_rfl) (fun _ => by show 4 ≤ Try.f25.ntmps; exact of_decide_eq_true (by kernel_rfl)) (cutsIn_ok ⟨fun c' h => (C25_26_ok N N c' h), ⟨fun c' h => (C25_1018_ok N N c' h), trivial⟩⟩) (fun x => match x with | (x0, x1, x2, x3, x4, x5) => F25_eq N x0 x1 x2 x3 x4 x5)

/-! ## f28: (*mirador/bitio.Writer).String -/

noncomputable def I28 : Pk → Option (((List Int) × (Int × (Int × Unit))))
  | ⟨[.radr (.cons (.sl (.int .u8)) (.cons (.int .i64) (.cons (.int .i64) .unit))) [x0] [.i 0 3]], []⟩ => some x0
  | _ => none

noncomputable def J28 (x : ((List Int) × (Int × (Int × Unit)))) : Pk := ⟨[.radr (.cons (.sl (.int .u8)) (.cons (.int .i64) (.cons (.int .i64) .unit))) [(x)] [.i 0 3]], []⟩

theorem I28_ok : ∀ pk x, I28 pk = some x → pk = J28 x := by
  intro pk x h
  unfold I28 at h
  split at h <;> first | (cases h; rfl) | cases h

noncomputable def A28 : List TV := []

noncomputable def tab28 (N : Nat) : List (Nat × (Pk → Tr Pk)) := []

theorem tab28_ok (N : Nat) : TabOK Try.prog (tab28 N) := trivial

noncomputable def O28 (r : ByteArray) : Tr (Pk) := .ret ⟨[.v (.string (r))], []⟩

noncomputable def D28 : Pk → Option (ByteArray)
  | ⟨[.v (.string x0)], []⟩ => some (x0)
  | _ => none

theorem D28_ok : ∀ y r, D28 y = some r → ∀ z, (O28 r).to z → y = z := by
  intro y r h
  unfold D28 at h
  split at h <;> first | (cases h; intro z hz; exact Option.some.inj hz) | cases h

noncomputable def F28 (N : Nat) : (((List Int) × (Int × (Int × Unit)))) → Option (ByteArray)
  | x0 =>
  if (decide (Prod.fst (Prod.snd (Prod.snd x0)) > (0 : Int))) = true then
    if (decide ((↑(ByteArray.size (stringOf (Prod.fst x0)) + ByteArray.size (stringOf [IntKind.wrap IntKind.u8 (Prod.fst (Prod.snd x0))])) : Int) > (9223372036854775807 : Int))) = true then
      none
    else
      some (stringOf (Prod.fst x0) ++ stringOf [IntKind.wrap IntKind.u8 (Prod.fst (Prod.snd x0))])
  else
    some (stringOf (Prod.fst x0))

theorem F28_eq (N : Nat) (x0 : ((List Int) × (Int × (Int × Unit)))) : (fnEv (mkE Try.prog ownT (tab28 N) []) Try.f28 (J28 x0)).run D28 = F28 N x0 := by kernel_rfl

noncomputable def T28 (N : Nat) : Pk → Tr Pk := tell I28 (F28 N) O28

theorem T28_ok (N : Nat) : FOK Try.prog 28 (T28 N) :=
  tell_ok (E := (mkE Try.prog ownT (tab28 N) [])) (mkE_ok mix (tab28_ok N)) Try.func28 (show Try.f28.body = some (bod Try.f28) by kernel_rfl) (by decide +kernel) I28_ok D28_ok (args := A28) (fun _ => by kernel_rfl) (fun _ => by show 1 ≤ Try.f28.ntmps; exact of_decide_eq_true (by kernel_rfl)) (cutsIn_ok trivial) (fun x => match x with | x0 => F28_eq N x0)

/-! ## f30: mirador/bitio.New -/

noncomputable def I30 : Pk → Option (ByteArray)
  | ⟨[.v (.string x0)], []⟩ => some x0
  | _ => none

noncomputable def J30 (x : ByteArray) : Pk := ⟨[.v (.string (x))], []⟩

theorem I30_ok : ∀ pk x, I30 pk = some x → pk = J30 x := by
  intro pk x h
  unfold I30 at h
  split at h <;> first | (cases h; rfl) | cases h

noncomputable def A30 : List TV := []

noncomputable def tab30 (N : Nat) : List (Nat × (Pk → Tr Pk)) := []

theorem tab30_ok (N : Nat) : TabOK Try.prog (tab30 N) := trivial

noncomputable def O30 (r : ByteArray × Int × Int) : Tr (Pk) := .ret ⟨[.adr 0 []], [some (.var (.agg [.v (.string (r.1)), .v (.int .i64 (r.2.1)), .v (.int .i64 (r.2.2))]))]⟩

noncomputable def D30 : Pk → Option (ByteArray × Int × Int)
  | ⟨[.adr 0 []], [some (.var (.agg [.v (.string x0), .v (.int .i64 x1), .v (.int .i64 x2)]))]⟩ => some ((x0, x1, x2))
  | _ => none

theorem D30_ok : ∀ y r, D30 y = some r → ∀ z, (O30 r).to z → y = z := by
  intro y r h
  unfold D30 at h
  split at h <;> first | (cases h; intro z hz; exact Option.some.inj hz) | cases h

noncomputable def F30 (N : Nat) : (ByteArray) → Option (ByteArray × Int × Int)
  | x0 =>
  some ((x0, (0 : Int), (0 : Int)))

theorem F30_eq (N : Nat) (x0 : ByteArray) : (fnEv (mkE Try.prog ownT (tab30 N) []) Try.f30 (J30 x0)).run D30 = F30 N x0 := by kernel_rfl

noncomputable def T30 (N : Nat) : Pk → Tr Pk := tell I30 (F30 N) O30

theorem T30_ok (N : Nat) : FOK Try.prog 30 (T30 N) :=
  tell_ok (E := (mkE Try.prog ownT (tab30 N) [])) (mkE_ok mix (tab30_ok N)) Try.func30 (show Try.f30.body = some (bod Try.f30) by kernel_rfl) (by decide +kernel) I30_ok D30_ok (args := A30) (fun _ => by kernel_rfl) (fun _ => by show 1 ≤ Try.f30.ntmps; exact of_decide_eq_true (by kernel_rfl)) (cutsIn_ok trivial) (fun x => match x with | x0 => F30_eq N x0)

/-! ## f53: mirador/huffman.New -/

noncomputable def I53 : Pk → Option ((List Int))
  | ⟨[.ro (.int .i64) x0], []⟩ => some x0
  | _ => none

noncomputable def J53 (x : (List Int)) : Pk := ⟨[.ro (.int .i64) (x)], []⟩

theorem I53_ok : ∀ pk x, I53 pk = some x → pk = J53 x := by
  intro pk x h
  unfold I53 at h
  split at h <;> first | (cases h; rfl) | cases h

noncomputable def A53 : List TV := []

noncomputable def tab53 (N : Nat) : List (Nat × (Pk → Tr Pk)) := [(60, T60 N), (61, T61 N)]

theorem tab53_ok (N : Nat) : TabOK Try.prog (tab53 N) := ⟨T60_ok N, ⟨T61_ok N, trivial⟩⟩

def X53_16018 : Ex → List Nat
  | .ret => [2, 3]
  | .exit 2 => [7, 0, 6]
  | .exit 1 => [7, 0, 6]
  | .exit 0 => [6]
  | _ => []

def X53_250 : Ex → List Nat
  | .ret => [2, 3]
  | .exit 0 => [6]
  | _ => []

noncomputable def I53_250 : Pk → Option ((List Int) × Int × (List Int) × Int × (List Int))
  | ⟨[.ro (Ty.int IntKind.i64) x0, .adr 0 [], .v (.int .i64 x1)], [some (.var (.agg [.arr (Ty.int IntKind.i64) 16 x2, .sl 1 (none), .v (.int .i64 x3)])), some (.row (Ty.int IntKind.i64) 3 x4)]⟩ => some (x0, x1, x2, x3, x4)
  | _ => none

noncomputable def J53_250 (x : (List Int) × Int × (List Int) × Int × (List Int)) : Pk := ⟨[.ro (Ty.int IntKind.i64) (x.1), .adr 0 [], .v (.int .i64 (x.2.1))], [some (.var (.agg [.arr (Ty.int IntKind.i64) 16 (x.2.2.1), .sl 1 (none), .v (.int .i64 (x.2.2.2.1))])), some (.row (Ty.int IntKind.i64) 3 (x.2.2.2.2))]⟩

theorem I53_250_ok : ∀ pk x, I53_250 pk = some x → pk = J53_250 x := by
  intro pk x h
  unfold I53_250 at h
  split at h <;> first | (cases h; rfl) | cases h

noncomputable def I53_16018 : Pk → Option (Int × Int × (List Int) × (List Int) × Int × (List Int) × Int × (List Int))
  | ⟨[.v (.int .i64 x0), .v (.int .i64 x1), .ro (Ty.int IntKind.i64) x2, .ro (Ty.int IntKind.i64) x3, .adr 0 [], .v (.int .i64 x4)], [some (.var (.agg [.arr (Ty.int IntKind.i64) 16 x5, .sl 1 (none), .v (.int .i64 x6)])), some (.row (Ty.int IntKind.i64) 3 x7)]⟩ => some (x0, x1, x2, x3, x4, x5, x6, x7)
  | _ => none

noncomputable def J53_16018 (x : Int × Int × (List Int) × (List Int) × Int × (List Int) × Int × (List Int)) : Pk := ⟨[.v (.int .i64 (x.1)), .v (.int .i64 (x.2.1)), .ro (Ty.int IntKind.i64) (x.2.2.1), .ro (Ty.int IntKind.i64) (x.2.2.2.1), .adr 0 [], .v (.int .i64 (x.2.2.2.2.1))], [some (.var (.agg [.arr (Ty.int IntKind.i64) 16 (x.2.2.2.2.2.1), .sl 1 (none), .v (.int .i64 (x.2.2.2.2.2.2.1))])), some (.row (Ty.int IntKind.i64) 3 (x.2.2.2.2.2.2.2))]⟩

theorem I53_16018_ok : ∀ pk x, I53_16018 pk = some x → pk = J53_16018 x := by
  intro pk x h
  unfold I53_16018 at h
  split at h <;> first | (cases h; rfl) | cases h

noncomputable def O53_16018 (r : Int × (List Int) × (List Int) × Int × (List Int)) : Tr (Ex × Pk) := .ret (.exit 2, ⟨[.v (.int .i64 (r.1)), .ro (Ty.int IntKind.i64) (r.2.1), .adr 0 []], [some (.var (.agg [.arr (Ty.int IntKind.i64) 16 (r.2.2.1), .sl 1 (none), .v (.int .i64 (r.2.2.2.1))])), some (.row (Ty.int IntKind.i64) 3 (r.2.2.2.2))]⟩)

noncomputable def D53_16018 : Ex × Pk → Option (Int × (List Int) × (List Int) × Int × (List Int))
  | (.exit 2, ⟨[.v (.int .i64 x0), .ro (Ty.int IntKind.i64) x1, .adr 0 []], [some (.var (.agg [.arr (Ty.int IntKind.i64) 16 x2, .sl 1 (none), .v (.int .i64 x3)])), some (.row (Ty.int IntKind.i64) 3 x4)]⟩) => some ((x0, x1, x2, x3, x4))
  | _ => none

theorem D53_16018_ok : ∀ y r, D53_16018 y = some r → ∀ z, (O53_16018 r).to z → y = z := by
  intro y r h
  unfold D53_16018 at h
  split at h <;> first | (cases h; intro z hz; exact Option.some.inj hz) | cases h

noncomputable def B53_16018 (N : Nat) (f : (Int × Int × (List Int) × (List Int) × Int × (List Int) × Int × (List Int)) → Option (Int × (List Int) × (List Int) × Int × (List Int))) : (Int × Int × (List Int) × (List Int) × Int × (List Int) × Int × (List Int)) → Option (Int × (List Int) × (List Int) × Int × (List Int))
  | (x0, x1, x2, x3, x4, x5, x6, x7) =>
  if (decide (x0 < x1)) = true then
    if (within x0 (List.length x3)) = true then
      Option.bind (x3[Int.toNat x0]?) fun y0 =>
      if (y0 == x4) = true then
        if (decide ((List.length x7 + List.length [x0]) * (8 : Nat) ≤ (140737488355328 : Nat) ∧ List.length x7 + List.length [x0] ≤ (140737488355328 : Nat))) = true then
          Option.bind (f (IntKind.wrap IntKind.i64 (x0 + (1 : Int)), x1, x2, x3, x4, x5, x4, x7 ++ [x0])) fun r => some r
        else
          none
      else
        Option.bind (f (IntKind.wrap IntKind.i64 (x0 + (1 : Int)), x1, x2, x3, x4, x5, x6, x7)) fun r => some r
    else
      none
  else
    some ((x4, x2, x5, x6, x7))

noncomputable def F53_16018 (N : Nat) : Nat → (Int × Int × (List Int) × (List Int) × Int × (List Int) × Int × (List Int)) → Option (Int × (List Int) × (List Int) × Int × (List Int))
  | 0, _ => none
  | k + 1, x => B53_16018 N (F53_16018 N k) x

noncomputable def C53_16018 (N k : Nat) : Cut := ⟨[34, 33, 0, 32, 6, 7], X53_16018, tellX I53_16018 (F53_16018 N k) O53_16018⟩

theorem B53_16018_eq (N : Nat) (f : (Int × Int × (List Int) × (List Int) × Int × (List Int) × Int × (List Int)) → Option (Int × (List Int) × (List Int) × Int × (List Int))) (x0 : Int) (x1 : Int) (x2 : (List Int)) (x3 : (List Int)) (x4 : Int) (x5 : (List Int)) (x6 : Int) (x7 : (List Int)) : (roundEv (mkE Try.prog ownT (tab53 N) []) Try.f53.ntmps A53 (loopAt (bod Try.f53) 16018) 16018 ⟨[34, 33, 0, 32, 6, 7], X53_16018, tellX I53_16018 f O53_16018⟩ (J53_16018 (x0, x1, x2, x3, x4, x5, x6, x7))).run D53_16018 = B53_16018 N f (x0, x1, x2, x3, x4, x5, x6, x7) := by kernel_rfl

theorem C53_16018_ok (N k : Nat) : ∀ c', At (bod Try.f53) 16018 c' → CutOK Try.prog Try.f53.ntmps (idsL A53) c' (C53_16018 N k) :=
  loop_ok (E := (mkE Try.prog ownT (tab53 N) [])) (mkE_ok mix (tab53_ok N)) (cutsIn_ok trivial) (fuel := 200) (by decide +kernel) (by kernel_rfl) I53_16018_ok D53_16018_ok (B53_16018 N) (F53_16018 N) (fun _ => rfl) (fun _ _ => rfl) (fun f x => match x with | (x0, x1, x2, x3, x4, x5, x6, x7) => B53_16018_eq N f x0 x1 x2 x3 x4 x5 x6 x7) k

noncomputable def O53_250 (r : (List Int) × Int × (List Int)) : Tr (Ex × Pk) := .ret (.exit 0, ⟨[.adr 0 []], [some (.var (.agg [.arr (Ty.int IntKind.i64) 16 (r.1), .sl 1 (none), .v (.int .i64 (r.2.1))])), some (.row (Ty.int IntKind.i64) 3 (r.2.2))]⟩)

noncomputable def D53_250 : Ex × Pk → Option ((List Int) × Int × (List Int))
  | (.exit 0, ⟨[.adr 0 []], [some (.var (.agg [.arr (Ty.int IntKind.i64) 16 x0, .sl 1 (none), .v (.int .i64 x1)])), some (.row (Ty.int IntKind.i64) 3 x2)]⟩) => some ((x0, x1, x2))
  | _ => none

theorem D53_250_ok : ∀ y r, D53_250 y = some r → ∀ z, (O53_250 r).to z → y = z := by
  intro y r h
  unfold D53_250 at h
  split at h <;> first | (cases h; intro z hz; exact Option.some.inj hz) | cases h

noncomputable def B53_250 (N : Nat) (f : ((List Int) × Int × (List Int) × Int × (List Int)) → Option ((List Int) × Int × (List Int))) : ((List Int) × Int × (List Int) × Int × (List Int)) → Option ((List Int) × Int × (List Int))
  | (x0, x1, x2, x3, x4) =>
  if (decide (x1 ≤ (15 : Int))) = true then
    Option.bind (F53_16018 N N ((0 : Int), (↑(List.length x0) : Int), x0, x0, x1, x2, x3, x4)) fun y0 =>
    Option.bind (f (Prod.fst (Prod.snd y0), IntKind.wrap IntKind.i64 (Prod.fst y0 + (1 : Int)), Prod.fst (Prod.snd (Prod.snd y0)), Prod.fst (Prod.snd (Prod.snd (Prod.snd y0))), Prod.snd (Prod.snd (Prod.snd (Prod.snd y0))))) fun r => some r
  else
    some ((x2, x3, x4))

noncomputable def F53_250 (N : Nat) : Nat → ((List Int) × Int × (List Int) × Int × (List Int)) → Option ((List Int) × Int × (List Int))
  | 0, _ => none
  | k + 1, x => B53_250 N (F53_250 N k) x

noncomputable def C53_250 (N k : Nat) : Cut := ⟨[0, 6, 7], X53_250, tellX I53_250 (F53_250 N k) O53_250⟩

theorem B53_250_eq (N : Nat) (f : ((List Int) × Int × (List Int) × Int × (List Int)) → Option ((List Int) × Int × (List Int))) (x0 : (List Int)) (x1 : Int) (x2 : (List Int)) (x3 : Int) (x4 : (List Int)) : (roundEv (mkE Try.prog ownT (tab53 N) [(16018, (C53_16018 N N))]) Try.f53.ntmps A53 (loopAt (bod Try.f53) 250) 250 ⟨[0, 6, 7], X53_250, tellX I53_250 f O53_250⟩ (J53_250 (x0, x1, x2, x3, x4))).run D53_250 = B53_250 N f (x0, x1, x2, x3, x4) := by kernel_rfl

theorem C53_250_ok (N k : Nat) : ∀ c', At (bod Try.f53) 250 c' → CutOK Try.prog Try.f53.ntmps (idsL A53) c' (C53_250 N k) :=
  loop_ok (E := (mkE Try.prog ownT (tab53 N) [(16018, (C53_16018 N N))])) (mkE_ok mix (tab53_ok N)) (cutsIn_ok ⟨fun c' h => (C53_16018_ok N N c' h), trivial⟩) (fuel := 200) (by decide +kernel) (by kernel_rfl) I53_250_ok D53_250_ok (B53_250 N) (F53_250 N) (fun _ => rfl) (fun _ _ => rfl) (fun f x => match x with | (x0, x1, x2, x3, x4) => B53_250_eq N f x0 x1 x2 x3 x4) k

noncomputable def O53 (r : ((Int) ⊕ (Int × (List Int) × Int × (List Int)))) : Tr (Pk) := .sum _ _ r (fun u => .ret ⟨[.tup [.v ((Value.pointer none)), .v (.int .i64 (u))]], []⟩) (fun v => .ret ⟨[.tup [.adr 0 [], .v (.int .i64 (v.1))]], [some (.var (.agg [.arr (Ty.int IntKind.i64) 16 (v.2.1), .sl 1 (none), .v (.int .i64 (v.2.2.1))])), some (.row (Ty.int IntKind.i64) 3 (v.2.2.2))]⟩)

noncomputable def D53 : Pk → Option (((Int) ⊕ (Int × (List Int) × Int × (List Int))))
  | ⟨[.tup [.v ((Value.pointer none)), .v (.int .i64 x0)]], []⟩ => some (.inl (x0))
  | ⟨[.tup [.adr 0 [], .v (.int .i64 x0)]], [some (.var (.agg [.arr (Ty.int IntKind.i64) 16 x1, .sl 1 (none), .v (.int .i64 x2)])), some (.row (Ty.int IntKind.i64) 3 x3)]⟩ => some (.inr ((x0, x1, x2, x3)))
  | _ => none

theorem D53_ok : ∀ y r, D53 y = some r → ∀ z, (O53 r).to z → y = z := by
  intro y r h
  unfold D53 at h
  split at h <;> first | (cases h; intro z hz; exact Option.some.inj hz) | cases h

noncomputable def F53 (N : Nat) : ((List Int)) → Option (((Int) ⊕ (Int × (List Int) × Int × (List Int))))
  | x0 =>
  Option.bind (F60 N x0) fun y0 =>
  if (Prod.snd y0 != (0 : Int)) = true then
    some (.inl (Prod.snd y0))
  else
    Option.bind (F61 N x0) fun y1 =>
    Option.bind (F53_250 N N (x0, (1 : Int), Prod.fst y1, (0 : Int), [])) fun y2 =>
    some (.inr (((0 : Int), Prod.fst y2, Prod.fst (Prod.snd y2), Prod.snd (Prod.snd y2))))

theorem F53_eq (N : Nat) (x0 : (List Int)) : (fnEv (mkE Try.prog ownT (tab53 N) [(16018, (C53_16018 N N)), (250, (C53_250 N N))]) Try.f53 (J53 x0)).run D53 = F53 N x0 := by kernel_rfl

noncomputable def T53 (N : Nat) : Pk → Tr Pk := tell I53 (F53 N) O53

theorem T53_ok (N : Nat) : FOK Try.prog 53 (T53 N) :=
  tell_ok (E := (mkE Try.prog ownT (tab53 N) [(16018, (C53_16018 N N)), (250, (C53_250 N N))])) (mkE_ok mix (tab53_ok N)) Try.func53 (show Try.f53.body = some (bod Try.f53) by kernel_rfl) (by decide +kernel) I53_ok D53_ok (args := A53) (fun _ => by kernel_rfl) (fun _ => by show 1 ≤ Try.f53.ntmps; exact of_decide_eq_true (by kernel_rfl)) (cutsIn_ok ⟨fun c' h => (C53_16018_ok N N c' h), ⟨fun c' h => (C53_250_ok N N c' h), trivial⟩⟩) (fun x => match x with | x0 => F53_eq N x0)

/-! ## f74: (*mirador/bitio.Reader).Left -/

noncomputable def I74 : Pk → Option ((ByteArray × (Int × (Int × Unit))))
  | ⟨[.radr (.cons .str (.cons (.int .i64) (.cons (.int .i64) .unit))) [x0] [.i 0 3]], []⟩ => some x0
  | _ => none

noncomputable def J74 (x : (ByteArray × (Int × (Int × Unit)))) : Pk := ⟨[.radr (.cons .str (.cons (.int .i64) (.cons (.int .i64) .unit))) [(x)] [.i 0 3]], []⟩

theorem I74_ok : ∀ pk x, I74 pk = some x → pk = J74 x := by
  intro pk x h
  unfold I74 at h
  split at h <;> first | (cases h; rfl) | cases h

noncomputable def A74 : List TV := []

noncomputable def tab74 (N : Nat) : List (Nat × (Pk → Tr Pk)) := []

theorem tab74_ok (N : Nat) : TabOK Try.prog (tab74 N) := trivial

noncomputable def O74 (r : Int) : Tr (Pk) := .ret ⟨[.v (.int .i64 (r))], []⟩

noncomputable def D74 : Pk → Option (Int)
  | ⟨[.v (.int .i64 x0)], []⟩ => some (x0)
  | _ => none

theorem D74_ok : ∀ y r, D74 y = some r → ∀ z, (O74 r).to z → y = z := by
  intro y r h
  unfold D74 at h
  split at h <;> first | (cases h; intro z hz; exact Option.some.inj hz) | cases h

noncomputable def F74 (N : Nat) : ((ByteArray × (Int × (Int × Unit)))) → Option (Int)
  | x0 =>
  some (IntKind.wrap IntKind.i64 (IntKind.wrap IntKind.i64 ((8 : Int) * (↑(ByteArray.size (Prod.fst x0)) : Int)) - Prod.fst (Prod.snd x0)))

theorem F74_eq (N : Nat) (x0 : (ByteArray × (Int × (Int × Unit)))) : (fnEv (mkE Try.prog ownT (tab74 N) []) Try.f74 (J74 x0)).run D74 = F74 N x0 := by kernel_rfl

noncomputable def T74 (N : Nat) : Pk → Tr Pk := tell I74 (F74 N) O74

theorem T74_ok (N : Nat) : FOK Try.prog 74 (T74 N) :=
  tell_ok (E := (mkE Try.prog ownT (tab74 N) [])) (mkE_ok mix (tab74_ok N)) Try.func74 (show Try.f74.body = some (bod Try.f74) by kernel_rfl) (by decide +kernel) I74_ok D74_ok (args := A74) (fun _ => by kernel_rfl) (fun _ => by show 1 ≤ Try.f74.ntmps; exact of_decide_eq_true (by kernel_rfl)) (cutsIn_ok trivial) (fun x => match x with | x0 => F74_eq N x0)

/-! ## f71: (*mirador/bitio.Reader).has -/

noncomputable def I71 : Pk → Option (Int × ByteArray × Int × Int)
  | ⟨[.adr 0 [], .v (.int .i64 x0)], [some (.var (.agg [.v (.string x1), .v (.int .i64 x2), .v (.int .i64 x3)]))]⟩ => some (x0, x1, x2, x3)
  | _ => none

noncomputable def J71 (x : Int × ByteArray × Int × Int) : Pk := ⟨[.adr 0 [], .v (.int .i64 (x.1))], [some (.var (.agg [.v (.string (x.2.1)), .v (.int .i64 (x.2.2.1)), .v (.int .i64 (x.2.2.2))]))]⟩

theorem I71_ok : ∀ pk x, I71 pk = some x → pk = J71 x := by
  intro pk x h
  unfold I71 at h
  split at h <;> first | (cases h; rfl) | cases h

noncomputable def A71 : List TV := [.adr 0 []]

noncomputable def tab71 (N : Nat) : List (Nat × (Pk → Tr Pk)) := [(74, T74 N)]

theorem tab71_ok (N : Nat) : TabOK Try.prog (tab71 N) := ⟨T74_ok N, trivial⟩

noncomputable def O71 (r : Bool × ByteArray × Int × Int) : Tr (Pk) := .ret ⟨[.v (.bool (r.1))], [some (.var (.agg [.v (.string (r.2.1)), .v (.int .i64 (r.2.2.1)), .v (.int .i64 (r.2.2.2))]))]⟩

noncomputable def D71 : Pk → Option (Bool × ByteArray × Int × Int)
  | ⟨[.v (.bool x0)], [some (.var (.agg [.v (.string x1), .v (.int .i64 x2), .v (.int .i64 x3)]))]⟩ => some ((x0, x1, x2, x3))
  | _ => none

theorem D71_ok : ∀ y r, D71 y = some r → ∀ z, (O71 r).to z → y = z := by
  intro y r h
  unfold D71 at h
  split at h <;> first | (cases h; intro z hz; exact Option.some.inj hz) | cases h

noncomputable def F71 (N : Nat) : (Int × ByteArray × Int × Int) → Option (Bool × ByteArray × Int × Int)
  | (x0, x1, x2, x3) =>
  if (x3 == (0 : Int)) = true then
    Option.bind (F74 N (x1, x2, x3, ())) fun y0 =>
    if (decide (x0 > y0)) = true then
      some ((false, x1, x2, (2 : Int)))
    else
      some ((x3 == (0 : Int), x1, x2, x3))
  else
    some ((x3 == (0 : Int), x1, x2, x3))

theorem F71_eq (N : Nat) (x0 : Int) (x1 : ByteArray) (x2 : Int) (x3 : Int) : (fnEv (mkE Try.prog ownT (tab71 N) []) Try.f71 (J71 (x0, x1, x2, x3))).run D71 = F71 N (x0, x1, x2, x3) := by kernel_rfl

noncomputable def T71 (N : Nat) : Pk → Tr Pk := tell I71 (F71 N) O71

theorem T71_ok (N : Nat) : FOK Try.prog 71 (T71 N) :=
  tell_ok (E := (mkE Try.prog ownT (tab71 N) [])) (mkE_ok mix (tab71_ok N)) Try.func71 (show Try.f71.body = some (bod Try.f71) by kernel_rfl) (by decide +kernel) I71_ok D71_ok (args := A71) (fun _ => by kernel_rfl) (fun _ => by show 2 ≤ Try.f71.ntmps; exact of_decide_eq_true (by kernel_rfl)) (cutsIn_ok trivial) (fun x => match x with | (x0, x1, x2, x3) => F71_eq N x0 x1 x2 x3)


end Go.Proofs.Ytmcjfdognplgmaa.Am

set_option linter.unusedVariables false
set_option maxRecDepth 100000
namespace Go.Proofs.Ytmcjfdognplgmaa.Am
open Go.Am

/-! ## f65: (*mirador/bitio.Reader).Bits -/

noncomputable def I65 : Pk → Option (Int × ByteArray × Int × Int)
  | ⟨[.adr 0 [], .v (.int .i64 x0)], [some (.var (.agg [.v (.string x1), .v (.int .i64 x2), .v (.int .i64 x3)]))]⟩ => some (x0, x1, x2, x3)
  | _ => none

noncomputable def J65 (x : Int × ByteArray × Int × Int) : Pk := ⟨[.adr 0 [], .v (.int .i64 (x.1))], [some (.var (.agg [.v (.string (x.2.1)), .v (.int .i64 (x.2.2.1)), .v (.int .i64 (x.2.2.2))]))]⟩

theorem I65_ok : ∀ pk x, I65 pk = some x → pk = J65 x := by
  intro pk x h
  unfold I65 at h
  split at h <;> first | (cases h; rfl) | cases h

noncomputable def A65 : List TV := [.adr 0 []]

noncomputable def tab65 (N : Nat) : List (Nat × (Pk → Tr Pk)) := [(42, T42 N), (71, T71 N)]

theorem tab65_ok (N : Nat) : TabOK Try.prog (tab65 N) := ⟨T42_ok N, ⟨T71_ok N, trivial⟩⟩

def X65_250 : Ex → List Nat
  | .ret => [4]
  | .exit 0 => [0, 1, 5]
  | _ => []

noncomputable def I65_250 : Pk → Option (Int × Int × Int × Int × ByteArray × Int × Int)
  | ⟨[.v (.int .i64 x0), .v (.int .i64 x1), .v (.int .i64 x2), .v (.int .i64 x3), .adr 0 []], [some (.var (.agg [.v (.string x4), .v (.int .i64 x5), .v (.int .i64 x6)]))]⟩ => some (x0, x1, x2, x3, x4, x5, x6)
  | _ => none

noncomputable def J65_250 (x : Int × Int × Int × Int × ByteArray × Int × Int) : Pk := ⟨[.v (.int .i64 (x.1)), .v (.int .i64 (x.2.1)), .v (.int .i64 (x.2.2.1)), .v (.int .i64 (x.2.2.2.1)), .adr 0 []], [some (.var (.agg [.v (.string (x.2.2.2.2.1)), .v (.int .i64 (x.2.2.2.2.2.1)), .v (.int .i64 (x.2.2.2.2.2.2))]))]⟩

theorem I65_250_ok : ∀ pk x, I65_250 pk = some x → pk = J65_250 x := by
  intro pk x h
  unfold I65_250 at h
  split at h <;> first | (cases h; rfl) | cases h

noncomputable def O65_250 (r : Int × Int × ByteArray × Int × Int) : Tr (Ex × Pk) := .ret (.exit 0, ⟨[.adr 0 [], .v (.int .i64 (r.1)), .v (.int .i64 (r.2.1))], [some (.var (.agg [.v (.string (r.2.2.1)), .v (.int .i64 (r.2.2.2.1)), .v (.int .i64 (r.2.2.2.2))]))]⟩)

noncomputable def D65_250 : Ex × Pk → Option (Int × Int × ByteArray × Int × Int)
  | (.exit 0, ⟨[.adr 0 [], .v (.int .i64 x0), .v (.int .i64 x1)], [some (.var (.agg [.v (.string x2), .v (.int .i64 x3), .v (.int .i64 x4)]))]⟩) => some ((x0, x1, x2, x3, x4))
  | _ => none

theorem D65_250_ok : ∀ y r, D65_250 y = some r → ∀ z, (O65_250 r).to z → y = z := by
  intro y r h
  unfold D65_250 at h
  split at h <;> first | (cases h; intro z hz; exact Option.some.inj hz) | cases h

noncomputable def B65_250 (N : Nat) (f : (Int × Int × Int × Int × ByteArray × Int × Int) → Option (Int × Int × ByteArray × Int × Int)) : (Int × Int × Int × Int × ByteArray × Int × Int) → Option (Int × Int × ByteArray × Int × Int)
  | (x0, x1, x2, x3, x4, x5, x6) =>
  if (decide (x1 < x2)) = true then
    if (decide ((0 : Int) ≤ IntKind.wrap IntKind.i64 (Int.tdiv (IntKind.wrap IntKind.i64 (x5 + x1)) (8 : Int)))) = true then
      Option.bind (x4[Int.toNat (IntKind.wrap IntKind.i64 (Int.tdiv (IntKind.wrap IntKind.i64 (x5 + x1)) (8 : Int)))]?) fun y0 =>
      if (decide (Int.tmod (IntKind.wrap IntKind.i64 (x5 + x1)) (8 : Int) < (0 : Int))) = true then
        none
      else
        if (decide (x1 < (0 : Int))) = true then
          none
        else
          Option.bind (f (IntKind.wrap IntKind.i64 (↑(BitVec.toNat (BitVec.ofInt (64 : Nat) x0 ||| BitVec.ofInt (64 : Nat) (IntKind.wrap IntKind.i64 (IntKind.wrap IntKind.i64 (↑(BitVec.toNat (BitVec.ofInt (64 : Nat) (Int.fdiv (IntKind.wrap IntKind.i64 (↑(UInt8.toNat y0) : Int)) ((2 : Int) ^ min (Int.toNat (Int.tmod (IntKind.wrap IntKind.i64 (x5 + x1)) (8 : Int))) (64 : Nat))) &&& BitVec.ofInt (64 : Nat) (1 : Int))) : Int) * (2 : Int) ^ min (Int.toNat x1) (64 : Nat))))) : Int), IntKind.wrap IntKind.i64 (x1 + (1 : Int)), x2, x3, x4, x5, x6)) fun r => some r
    else
      none
  else
    some ((x3, x0, x4, x5, x6))

noncomputable def F65_250 (N : Nat) : Nat → (Int × Int × Int × Int × ByteArray × Int × Int) → Option (Int × Int × ByteArray × Int × Int)
  | 0, _ => none
  | k + 1, x => B65_250 N (F65_250 N k) x

noncomputable def C65_250 (N k : Nat) : Cut := ⟨[5, 15, 14, 1, 0], X65_250, tellX I65_250 (F65_250 N k) O65_250⟩

theorem B65_250_eq (N : Nat) (f : (Int × Int × Int × Int × ByteArray × Int × Int) → Option (Int × Int × ByteArray × Int × Int)) (x0 : Int) (x1 : Int) (x2 : Int) (x3 : Int) (x4 : ByteArray) (x5 : Int) (x6 : Int) : (roundEv (mkE Try.prog ownT (tab65 N) []) Try.f65.ntmps A65 (loopAt (bod Try.f65) 250) 250 ⟨[5, 15, 14, 1, 0], X65_250, tellX I65_250 f O65_250⟩ (J65_250 (x0, x1, x2, x3, x4, x5, x6))).run D65_250 = B65_250 N f (x0, x1, x2, x3, x4, x5, x6) := by kernel_rfl

theorem C65_250_ok (N k : Nat) : ∀ c', At (bod Try.f65) 250 c' → CutOK Try.prog Try.f65.ntmps (idsL A65) c' (C65_250 N k) :=
  loop_ok (E := (mkE Try.prog ownT (tab65 N) [])) (mkE_ok mix (tab65_ok N)) (cutsIn_ok trivial) (fuel := 200) (by decide +kernel) (by kernel_rfl) I65_250_ok D65_250_ok (B65_250 N) (F65_250 N) (fun _ => rfl) (fun _ _ => rfl) (fun f x => match x with | (x0, x1, x2, x3, x4, x5, x6) => B65_250_eq N f x0 x1 x2 x3 x4 x5 x6) k

noncomputable def O65 (r : Int × ByteArray × Int × Int) : Tr (Pk) := .ret ⟨[.v (.int .i64 (r.1))], [some (.var (.agg [.v (.string (r.2.1)), .v (.int .i64 (r.2.2.1)), .v (.int .i64 (r.2.2.2))]))]⟩

noncomputable def D65 : Pk → Option (Int × ByteArray × Int × Int)
  | ⟨[.v (.int .i64 x0)], [some (.var (.agg [.v (.string x1), .v (.int .i64 x2), .v (.int .i64 x3)]))]⟩ => some ((x0, x1, x2, x3))
  | _ => none

theorem D65_ok : ∀ y r, D65 y = some r → ∀ z, (O65 r).to z → y = z := by
  intro y r h
  unfold D65 at h
  split at h <;> first | (cases h; intro z hz; exact Option.some.inj hz) | cases h

noncomputable def F65 (N : Nat) : (Int × ByteArray × Int × Int) → Option (Int × ByteArray × Int × Int)
  | (x0, x1, x2, x3) =>
  Option.bind (F42 N x0) fun y0 =>
  Option.bind (F71 N (y0, x1, x2, x3)) fun y1 =>
  if (!Prod.fst y1) = true then
    some (((0 : Int), Prod.fst (Prod.snd y1), Prod.fst (Prod.snd (Prod.snd y1)), Prod.snd (Prod.snd (Prod.snd y1))))
  else
    Option.bind (F65_250 N N ((0 : Int), (0 : Int), y0, y0, Prod.fst (Prod.snd y1), Prod.fst (Prod.snd (Prod.snd y1)), Prod.snd (Prod.snd (Prod.snd y1)))) fun y2 =>
    some ((Prod.fst (Prod.snd y2), Prod.fst (Prod.snd (Prod.snd y2)), IntKind.wrap IntKind.i64 (Prod.fst (Prod.snd (Prod.snd (Prod.snd y2))) + Prod.fst y2), Prod.snd (Prod.snd (Prod.snd (Prod.snd y2)))))

theorem F65_eq (N : Nat) (x0 : Int) (x1 : ByteArray) (x2 : Int) (x3 : Int) : (fnEv (mkE Try.prog ownT (tab65 N) [(250, (C65_250 N N))]) Try.f65 (J65 (x0, x1, x2, x3))).run D65 = F65 N (x0, x1, x2, x3) := by kernel_rfl

noncomputable def T65 (N : Nat) : Pk → Tr Pk := tell I65 (F65 N) O65

theorem T65_ok (N : Nat) : FOK Try.prog 65 (T65 N) :=
  tell_ok (E := (mkE Try.prog ownT (tab65 N) [(250, (C65_250 N N))])) (mkE_ok mix (tab65_ok N)) Try.func65 (show Try.f65.body = some (bod Try.f65) by kernel_rfl) (by decide +kernel) I65_ok D65_ok (args := A65) (fun _ => by kernel_rfl) (fun _ => by show 2 ≤ Try.f65.ntmps; exact of_decide_eq_true (by kernel_rfl)) (cutsIn_ok ⟨fun c' h => (C65_250_ok N N c' h), trivial⟩) (fun x => match x with | (x0, x1, x2, x3) => F65_eq N x0 x1 x2 x3)

/-! ## f66: (*mirador/bitio.Reader).Err -/

noncomputable def I66 : Pk → Option ((ByteArray × (Int × (Int × Unit))))
  | ⟨[.radr (.cons .str (.cons (.int .i64) (.cons (.int .i64) .unit))) [x0] [.i 0 3]], []⟩ => some x0
  | _ => none

noncomputable def J66 (x : (ByteArray × (Int × (Int × Unit)))) : Pk := ⟨[.radr (.cons .str (.cons (.int .i64) (.cons (.int .i64) .unit))) [(x)] [.i 0 3]], []⟩

theorem I66_ok : ∀ pk x, I66 pk = some x → pk = J66 x := by
  intro pk x h
  unfold I66 at h
  split at h <;> first | (cases h; rfl) | cases h

noncomputable def A66 : List TV := []

noncomputable def tab66 (N : Nat) : List (Nat × (Pk → Tr Pk)) := []

theorem tab66_ok (N : Nat) : TabOK Try.prog (tab66 N) := trivial

noncomputable def O66 (r : Int) : Tr (Pk) := .ret ⟨[.v (.int .i64 (r))], []⟩

noncomputable def D66 : Pk → Option (Int)
  | ⟨[.v (.int .i64 x0)], []⟩ => some (x0)
  | _ => none

theorem D66_ok : ∀ y r, D66 y = some r → ∀ z, (O66 r).to z → y = z := by
  intro y r h
  unfold D66 at h
  split at h <;> first | (cases h; intro z hz; exact Option.some.inj hz) | cases h

noncomputable def F66 (N : Nat) : ((ByteArray × (Int × (Int × Unit)))) → Option (Int)
  | x0 =>
  some (Prod.fst (Prod.snd (Prod.snd x0)))

theorem F66_eq (N : Nat) (x0 : (ByteArray × (Int × (Int × Unit)))) : (fnEv (mkE Try.prog ownT (tab66 N) []) Try.f66 (J66 x0)).run D66 = F66 N x0 := by kernel_rfl

noncomputable def T66 (N : Nat) : Pk → Tr Pk := tell I66 (F66 N) O66

theorem T66_ok (N : Nat) : FOK Try.prog 66 (T66 N) :=
  tell_ok (E := (mkE Try.prog ownT (tab66 N) [])) (mkE_ok mix (tab66_ok N)) Try.func66 (show Try.f66.body = some (bod Try.f66) by kernel_rfl) (by decide +kernel) I66_ok D66_ok (args := A66) (fun _ => by kernel_rfl) (fun _ => by show 1 ≤ Try.f66.ntmps; exact of_decide_eq_true (by kernel_rfl)) (cutsIn_ok trivial) (fun x => match x with | x0 => F66_eq N x0)

/-! ## f67: (*mirador/huffman.Decoder).rest -/

noncomputable def I67 : Pk → Option (Int × (List Int) × Int × (List Int))
  | ⟨[.adr 0 [], .v (.int .i64 x0)], [some (.var (.agg [.arr (.int .i64) 16 x1, .sl 1 none, .v (.int .i64 x2)])), some (.row (.int .i64) 3 x3)]⟩ => some (x0, x1, x2, x3)
  | _ => none

noncomputable def J67 (x : Int × (List Int) × Int × (List Int)) : Pk := ⟨[.adr 0 [], .v (.int .i64 (x.1))], [some (.var (.agg [.arr (.int .i64) 16 (x.2.1), .sl 1 none, .v (.int .i64 (x.2.2.1))])), some (.row (.int .i64) 3 (x.2.2.2))]⟩

theorem I67_ok : ∀ pk x, I67 pk = some x → pk = J67 x := by
  intro pk x h
  unfold I67 at h
  split at h <;> first | (cases h; rfl) | cases h

noncomputable def A67 : List TV := [.adr 0 []]

noncomputable def tab67 (N : Nat) : List (Nat × (Pk → Tr Pk)) := []

theorem tab67_ok (N : Nat) : TabOK Try.prog (tab67 N) := trivial

def X67_58 : Ex → List Nat
  | .ret => [4]
  | .exit 0 => [5]
  | _ => []

noncomputable def I67_58 : Pk → Option (Int × Int × Int × (List Int) × Int × (List Int))
  | ⟨[.v (.int .i64 x0), .v (.int .i64 x1), .v (.int .i64 x2), .adr 0 []], [some (.var (.agg [.arr (Ty.int IntKind.i64) 16 x3, .sl 1 (none), .v (.int .i64 x4)])), some (.row (Ty.int IntKind.i64) 3 x5)]⟩ => some (x0, x1, x2, x3, x4, x5)
  | _ => none

noncomputable def J67_58 (x : Int × Int × Int × (List Int) × Int × (List Int)) : Pk := ⟨[.v (.int .i64 (x.1)), .v (.int .i64 (x.2.1)), .v (.int .i64 (x.2.2.1)), .adr 0 []], [some (.var (.agg [.arr (Ty.int IntKind.i64) 16 (x.2.2.2.1), .sl 1 (none), .v (.int .i64 (x.2.2.2.2.1))])), some (.row (Ty.int IntKind.i64) 3 (x.2.2.2.2.2))]⟩

theorem I67_58_ok : ∀ pk x, I67_58 pk = some x → pk = J67_58 x := by
  intro pk x h
  unfold I67_58 at h
  split at h <;> first | (cases h; rfl) | cases h

noncomputable def O67_58 (r : Int × (List Int) × Int × (List Int)) : Tr (Ex × Pk) := .ret (.exit 0, ⟨[.v (.int .i64 (r.1))], [some (.var (.agg [.arr (Ty.int IntKind.i64) 16 (r.2.1), .sl 1 (none), .v (.int .i64 (r.2.2.1))])), some (.row (Ty.int IntKind.i64) 3 (r.2.2.2))]⟩)

noncomputable def D67_58 : Ex × Pk → Option (Int × (List Int) × Int × (List Int))
  | (.exit 0, ⟨[.v (.int .i64 x0)], [some (.var (.agg [.arr (Ty.int IntKind.i64) 16 x1, .sl 1 (none), .v (.int .i64 x2)])), some (.row (Ty.int IntKind.i64) 3 x3)]⟩) => some ((x0, x1, x2, x3))
  | _ => none

theorem D67_58_ok : ∀ y r, D67_58 y = some r → ∀ z, (O67_58 r).to z → y = z := by
  intro y r h
  unfold D67_58 at h
  split at h <;> first | (cases h; intro z hz; exact Option.some.inj hz) | cases h

noncomputable def B67_58 (N : Nat) (f : (Int × Int × Int × (List Int) × Int × (List Int)) → Option (Int × (List Int) × Int × (List Int))) : (Int × Int × Int × (List Int) × Int × (List Int)) → Option (Int × (List Int) × Int × (List Int))
  | (x0, x1, x2, x3, x4, x5) =>
  if (decide (x1 > x2)) = true then
    if (within x1 (16 : Nat)) = true then
      Option.bind (x3[Int.toNat x1]?) fun y0 =>
      Option.bind (f (IntKind.wrap IntKind.i64 (Int.tdiv (IntKind.wrap IntKind.i64 (IntKind.wrap IntKind.i64 (x0 + y0) + (1 : Int))) (2 : Int)), IntKind.wrap IntKind.i64 (x1 - (1 : Int)), x2, x3, x4, x5)) fun r => some r
    else
      none
  else
    some ((x0, x3, x4, x5))

noncomputable def F67_58 (N : Nat) : Nat → (Int × Int × Int × (List Int) × Int × (List Int)) → Option (Int × (List Int) × Int × (List Int))
  | 0, _ => none
  | k + 1, x => B67_58 N (F67_58 N k) x

noncomputable def C67_58 (N k : Nat) : Cut := ⟨[5, 6, 1, 0], X67_58, tellX I67_58 (F67_58 N k) O67_58⟩

theorem B67_58_eq (N : Nat) (f : (Int × Int × Int × (List Int) × Int × (List Int)) → Option (Int × (List Int) × Int × (List Int))) (x0 : Int) (x1 : Int) (x2 : Int) (x3 : (List Int)) (x4 : Int) (x5 : (List Int)) : (roundEv (mkE Try.prog ownT (tab67 N) []) Try.f67.ntmps A67 (loopAt (bod Try.f67) 58) 58 ⟨[5, 6, 1, 0], X67_58, tellX I67_58 f O67_58⟩ (J67_58 (x0, x1, x2, x3, x4, x5))).run D67_58 = B67_58 N f (x0, x1, x2, x3, x4, x5) := by kernel_rfl

theorem C67_58_ok (N k : Nat) : ∀ c', At (bod Try.f67) 58 c' → CutOK Try.prog Try.f67.ntmps (idsL A67) c' (C67_58 N k) :=
  loop_ok (E := (mkE Try.prog ownT (tab67 N) [])) (mkE_ok mix (tab67_ok N)) (cutsIn_ok trivial) (fuel := 200) (by decide +kernel) (by kernel_rfl) I67_58_ok D67_58_ok (B67_58 N) (F67_58 N) (fun _ => rfl) (fun _ _ => rfl) (fun f x => match x with | (x0, x1, x2, x3, x4, x5) => B67_58_eq N f x0 x1 x2 x3 x4 x5) k

noncomputable def O67 (r : Int × (List Int) × Int × (List Int)) : Tr (Pk) := .ret ⟨[.v (.int .i64 (r.1))], [some (.var (.agg [.arr (Ty.int IntKind.i64) 16 (r.2.1), .sl 1 (none), .v (.int .i64 (r.2.2.1))])), some (.row (Ty.int IntKind.i64) 3 (r.2.2.2))]⟩

noncomputable def D67 : Pk → Option (Int × (List Int) × Int × (List Int))
  | ⟨[.v (.int .i64 x0)], [some (.var (.agg [.arr (Ty.int IntKind.i64) 16 x1, .sl 1 (none), .v (.int .i64 x2)])), some (.row (Ty.int IntKind.i64) 3 x3)]⟩ => some ((x0, x1, x2, x3))
  | _ => none

theorem D67_ok : ∀ y r, D67 y = some r → ∀ z, (O67 r).to z → y = z := by
  intro y r h
  unfold D67 at h
  split at h <;> first | (cases h; intro z hz; exact Option.some.inj hz) | cases h

noncomputable def F67 (N : Nat) : (Int × (List Int) × Int × (List Int)) → Option (Int × (List Int) × Int × (List Int))
  | (x0, x1, x2, x3) =>
  Option.bind (F67_58 N N ((0 : Int), x2, x0, x1, x2, x3)) fun y0 =>
  some ((Prod.fst y0, Prod.fst (Prod.snd y0), Prod.fst (Prod.snd (Prod.snd y0)), Prod.snd (Prod.snd (Prod.snd y0))))

theorem F67_eq (N : Nat) (x0 : Int) (x1 : (List Int)) (x2 : Int) (x3 : (List Int)) : (fnEv (mkE Try.prog ownT (tab67 N) [(58, (C67_58 N N))]) Try.f67 (J67 (x0, x1, x2, x3))).run D67 = F67 N (x0, x1, x2, x3) := by kernel_rfl

noncomputable def T67 (N : Nat) : Pk → Tr Pk := tell I67 (F67 N) O67

theorem T67_ok (N : Nat) : FOK Try.prog 67 (T67 N) :=
  tell_ok (E := (mkE Try.prog ownT (tab67 N) [(58, (C67_58 N N))])) (mkE_ok mix (tab67_ok N)) Try.func67 (show Try.f67.body = some (bod Try.f67) by kernel_rfl) (by decide +kernel) I67_ok D67_ok (args := A67) (fun _ => by kernel_rfl) (fun _ => by show 2 ≤ Try.f67.ntmps; exact of_decide_eq_true (by kernel_rfl)) (cutsIn_ok ⟨fun c' h => (C67_58_ok N N c' h), trivial⟩) (fun x => match x with | (x0, x1, x2, x3) => F67_eq N x0 x1 x2 x3)

/-! ## f54: (*mirador/huffman.Decoder).Next -/

noncomputable def I54 : Pk → Option ((List Int) × Int × ByteArray × Int × Int × (List Int))
  | ⟨[.adr 0 [], .adr 1 []], [some (.var (.agg [.arr (.int .i64) 16 x0, .sl 2 none, .v (.int .i64 x1)])), some (.var (.agg [.v (.string x2), .v (.int .i64 x3), .v (.int .i64 x4)])), some (.row (.int .i64) 3 x5)]⟩ => some (x0, x1, x2, x3, x4, x5)
  | _ => none

noncomputable def J54 (x : (List Int) × Int × ByteArray × Int × Int × (List Int)) : Pk := ⟨[.adr 0 [], .adr 1 []], [some (.var (.agg [.arr (.int .i64) 16 (x.1), .sl 2 none, .v (.int .i64 (x.2.1))])), some (.var (.agg [.v (.string (x.2.2.1)), .v (.int .i64 (x.2.2.2.1)), .v (.int .i64 (x.2.2.2.2.1))])), some (.row (.int .i64) 3 (x.2.2.2.2.2))]⟩

theorem I54_ok : ∀ pk x, I54 pk = some x → pk = J54 x := by
  intro pk x h
  unfold I54 at h
  split at h <;> first | (cases h; rfl) | cases h

noncomputable def A54 : List TV := [.adr 0 [], .adr 1 []]

noncomputable def tab54 (N : Nat) : List (Nat × (Pk → Tr Pk)) := [(65, T65 N), (66, T66 N), (67, T67 N)]

theorem tab54_ok (N : Nat) : TabOK Try.prog (tab54 N) := ⟨T65_ok N, ⟨T66_ok N, ⟨T67_ok N, trivial⟩⟩⟩

def X54_58 : Ex → List Nat
  | .ret => [4, 5]
  | .exit 0 => []
  | _ => []

noncomputable def I54_58 : Pk → Option (Int × Int × Int × Int × (List Int) × Int × ByteArray × Int × Int × (List Int))
  | ⟨[.v (.int .i64 x0), .adr 0 [], .v (.int .i64 x1), .adr 1 [], .v (.int .i64 x2), .v (.int .i64 x3)], [some (.var (.agg [.arr (Ty.int IntKind.i64) 16 x4, .sl 2 (none), .v (.int .i64 x5)])), some (.var (.agg [.v (.string x6), .v (.int .i64 x7), .v (.int .i64 x8)])), some (.row (Ty.int IntKind.i64) 3 x9)]⟩ => some (x0, x1, x2, x3, x4, x5, x6, x7, x8, x9)
  | _ => none

noncomputable def J54_58 (x : Int × Int × Int × Int × (List Int) × Int × ByteArray × Int × Int × (List Int)) : Pk := ⟨[.v (.int .i64 (x.1)), .adr 0 [], .v (.int .i64 (x.2.1)), .adr 1 [], .v (.int .i64 (x.2.2.1)), .v (.int .i64 (x.2.2.2.1))], [some (.var (.agg [.arr (Ty.int IntKind.i64) 16 (x.2.2.2.2.1), .sl 2 (none), .v (.int .i64 (x.2.2.2.2.2.1))])), some (.var (.agg [.v (.string (x.2.2.2.2.2.2.1)), .v (.int .i64 (x.2.2.2.2.2.2.2.1)), .v (.int .i64 (x.2.2.2.2.2.2.2.2.1))])), some (.row (Ty.int IntKind.i64) 3 (x.2.2.2.2.2.2.2.2.2))]⟩

theorem I54_58_ok : ∀ pk x, I54_58 pk = some x → pk = J54_58 x := by
  intro pk x h
  unfold I54_58 at h
  split at h <;> first | (cases h; rfl) | cases h

noncomputable def O54_58 (r : ((Int × Int × (List Int) × Int × ByteArray × Int × Int × (List Int)) ⊕ ((List Int) × Int × ByteArray × Int × Int × (List Int)))) : Tr (Ex × Pk) := .sum _ _ r (fun u => .ret (.ret, ⟨[.v (.int .i64 (u.1)), .v (.int .i64 (u.2.1))], [some (.var (.agg [.arr (Ty.int IntKind.i64) 16 (u.2.2.1), .sl 2 (none), .v (.int .i64 (u.2.2.2.1))])), some (.var (.agg [.v (.string (u.2.2.2.2.1)), .v (.int .i64 (u.2.2.2.2.2.1)), .v (.int .i64 (u.2.2.2.2.2.2.1))])), some (.row (Ty.int IntKind.i64) 3 (u.2.2.2.2.2.2.2))]⟩)) (fun v => .ret (.exit 0, ⟨[], [some (.var (.agg [.arr (Ty.int IntKind.i64) 16 (v.1), .sl 2 (none), .v (.int .i64 (v.2.1))])), some (.var (.agg [.v (.string (v.2.2.1)), .v (.int .i64 (v.2.2.2.1)), .v (.int .i64 (v.2.2.2.2.1))])), some (.row (Ty.int IntKind.i64) 3 (v.2.2.2.2.2))]⟩))

noncomputable def D54_58 : Ex × Pk → Option (((Int × Int × (List Int) × Int × ByteArray × Int × Int × (List Int)) ⊕ ((List Int) × Int × ByteArray × Int × Int × (List Int))))
  | (.ret, ⟨[.v (.int .i64 x0), .v (.int .i64 x1)], [some (.var (.agg [.arr (Ty.int IntKind.i64) 16 x2, .sl 2 (none), .v (.int .i64 x3)])), some (.var (.agg [.v (.string x4), .v (.int .i64 x5), .v (.int .i64 x6)])), some (.row (Ty.int IntKind.i64) 3 x7)]⟩) => some (.inl ((x0, x1, x2, x3, x4, x5, x6, x7)))
  | (.exit 0, ⟨[], [some (.var (.agg [.arr (Ty.int IntKind.i64) 16 x0, .sl 2 (none), .v (.int .i64 x1)])), some (.var (.agg [.v (.string x2), .v (.int .i64 x3), .v (.int .i64 x4)])), some (.row (Ty.int IntKind.i64) 3 x5)]⟩) => some (.inr ((x0, x1, x2, x3, x4, x5)))
  | _ => none

theorem D54_58_ok : ∀ y r, D54_58 y = some r → ∀ z, (O54_58 r).to z → y = z := by
  intro y r h
  unfold D54_58 at h
  split at h <;> first | (cases h; intro z hz; exact Option.some.inj hz) | cases h

noncomputable def B54_58 (N : Nat) (f : (Int × Int × Int × Int × (List Int) × Int × ByteArray × Int × Int × (List Int)) → Option (((Int × Int × (List Int) × Int × ByteArray × Int × Int × (List Int)) ⊕ ((List Int) × Int × ByteArray × Int × Int × (List Int))))) : (Int × Int × Int × Int × (List Int) × Int × ByteArray × Int × Int × (List Int)) → Option (((Int × Int × (List Int) × Int × ByteArray × Int × Int × (List Int)) ⊕ ((List Int) × Int × ByteArray × Int × Int × (List Int))))
  | (x0, x1, x2, x3, x4, x5, x6, x7, x8, x9) =>
  if (decide (x2 ≤ x5)) = true then
    Option.bind (F65 N ((1 : Int), x6, x7, x8)) fun y0 =>
    Option.bind (F66 N (Prod.fst (Prod.snd y0), Prod.fst (Prod.snd (Prod.snd y0)), Prod.snd (Prod.snd (Prod.snd y0)), ())) fun y1 =>
    if (y1 != (0 : Int)) = true then
      some (.inl (((0 : Int), y1, x4, x5, Prod.fst (Prod.snd y0), Prod.fst (Prod.snd (Prod.snd y0)), Prod.snd (Prod.snd (Prod.snd y0)), x9)))
    else
      if (within x2 (16 : Nat)) = true then
        Option.bind (x4[Int.toNat x2]?) fun y2 =>
        if (decide (IntKind.wrap IntKind.i64 (IntKind.wrap IntKind.i64 (↑(BitVec.toNat (BitVec.ofInt (64 : Nat) x3 ||| BitVec.ofInt (64 : Nat) (Prod.fst y0))) : Int) - x1) < y2)) = true then
          if (within (IntKind.wrap IntKind.i64 (x0 + IntKind.wrap IntKind.i64 (IntKind.wrap IntKind.i64 (↑(BitVec.toNat (BitVec.ofInt (64 : Nat) x3 ||| BitVec.ofInt (64 : Nat) (Prod.fst y0))) : Int) - x1))) (List.length x9)) = true then
            Option.bind (x9[Int.toNat (IntKind.wrap IntKind.i64 (x0 + IntKind.wrap IntKind.i64 (IntKind.wrap IntKind.i64 (↑(BitVec.toNat (BitVec.ofInt (64 : Nat) x3 ||| BitVec.ofInt (64 : Nat) (Prod.fst y0))) : Int) - x1)))]?) fun y3 =>
            some (.inl ((y3, (0 : Int), x4, x5, Prod.fst (Prod.snd y0), Prod.fst (Prod.snd (Prod.snd y0)), Prod.snd (Prod.snd (Prod.snd y0)), x9)))
          else
            none
        else
          if (within x2 (16 : Nat)) = true then
            Option.bind (x4[Int.toNat x2]?) fun y4 =>
            if (within x2 (16 : Nat)) = true then
              Option.bind (x4[Int.toNat x2]?) fun y5 =>
              Option.bind (F67 N (x2, x4, x5, x9)) fun y6 =>
              if (decide (IntKind.wrap IntKind.i64 (Int.fdiv (IntKind.wrap IntKind.i64 (IntKind.wrap IntKind.i64 (↑(BitVec.toNat (BitVec.ofInt (64 : Nat) x3 ||| BitVec.ofInt (64 : Nat) (Prod.fst y0))) : Int) * (2 : Int))) (2 : Int) - Int.fdiv (IntKind.wrap IntKind.i64 (IntKind.wrap IntKind.i64 (x1 + y5) * (2 : Int))) (2 : Int)) ≥ Prod.fst y6)) = true then
                some (.inl (((0 : Int), (3 : Int), Prod.fst (Prod.snd y6), Prod.fst (Prod.snd (Prod.snd y6)), Prod.fst (Prod.snd y0), Prod.fst (Prod.snd (Prod.snd y0)), Prod.snd (Prod.snd (Prod.snd y0)), Prod.snd (Prod.snd (Prod.snd y6)))))
              else
                Option.bind (f (IntKind.wrap IntKind.i64 (x0 + y4), IntKind.wrap IntKind.i64 (IntKind.wrap IntKind.i64 (x1 + y5) * (2 : Int)), IntKind.wrap IntKind.i64 (x2 + (1 : Int)), IntKind.wrap IntKind.i64 (IntKind.wrap IntKind.i64 (↑(BitVec.toNat (BitVec.ofInt (64 : Nat) x3 ||| BitVec.ofInt (64 : Nat) (Prod.fst y0))) : Int) * (2 : Int)), Prod.fst (Prod.snd y6), Prod.fst (Prod.snd (Prod.snd y6)), Prod.fst (Prod.snd y0), Prod.fst (Prod.snd (Prod.snd y0)), Prod.snd (Prod.snd (Prod.snd y0)), Prod.snd (Prod.snd (Prod.snd y6)))) fun r => match r with | .inl (y) => some (.inl (y)) | .inr (y) => some (.inr (y))
            else
              none
          else
            none
      else
        none
  else
    some (.inr ((x4, x5, x6, x7, x8, x9)))

noncomputable def F54_58 (N : Nat) : Nat → (Int × Int × Int × Int × (List Int) × Int × ByteArray × Int × Int × (List Int)) → Option (((Int × Int × (List Int) × Int × ByteArray × Int × Int × (List Int)) ⊕ ((List Int) × Int × ByteArray × Int × Int × (List Int))))
  | 0, _ => none
  | k + 1, x => B54_58 N (F54_58 N k) x

noncomputable def C54_58 (N k : Nat) : Cut := ⟨[8, 0, 7, 1, 9, 6], X54_58, tellX I54_58 (F54_58 N k) O54_58⟩

theorem B54_58_eq (N : Nat) (f : (Int × Int × Int × Int × (List Int) × Int × ByteArray × Int × Int × (List Int)) → Option (((Int × Int × (List Int) × Int × ByteArray × Int × Int × (List Int)) ⊕ ((List Int) × Int × ByteArray × Int × Int × (List Int))))) (x0 : Int) (x1 : Int) (x2 : Int) (x3 : Int) (x4 : (List Int)) (x5 : Int) (x6 : ByteArray) (x7 : Int) (x8 : Int) (x9 : (List Int)) : (roundEv (mkE Try.prog ownT (tab54 N) []) Try.f54.ntmps A54 (loopAt (bod Try.f54) 58) 58 ⟨[8, 0, 7, 1, 9, 6], X54_58, tellX I54_58 f O54_58⟩ (J54_58 (x0, x1, x2, x3, x4, x5, x6, x7, x8, x9))).run D54_58 = B54_58 N f (x0, x1, x2, x3, x4, x5, x6, x7, x8, x9) := by kernel_rfl

theorem C54_58_ok (N k : Nat) : ∀ c', At (bod Try.f54) 58 c' → CutOK Try.prog Try.f54.ntmps (idsL A54) c' (C54_58 N k) :=
  loop_ok (E := (mkE Try.prog ownT (tab54 N) [])) (mkE_ok mix (tab54_ok N)) (cutsIn_ok trivial) (fuel := 200) (by decide +kernel) (by kernel_rfl) I54_58_ok D54_58_ok (B54_58 N) (F54_58 N) (fun _ => rfl) (fun _ _ => rfl) (fun f x => match x with | (x0, x1, x2, x3, x4, x5, x6, x7, x8, x9) => B54_58_eq N f x0 x1 x2 x3 x4 x5 x6 x7 x8 x9) k

noncomputable def O54 (r : Int × Int × (List Int) × Int × ByteArray × Int × Int × (List Int)) : Tr (Pk) := .ret ⟨[.tup [.v (.int .i64 (r.1)), .v (.int .i64 (r.2.1))]], [some (.var (.agg [.arr (Ty.int IntKind.i64) 16 (r.2.2.1), .sl 2 (none), .v (.int .i64 (r.2.2.2.1))])), some (.var (.agg [.v (.string (r.2.2.2.2.1)), .v (.int .i64 (r.2.2.2.2.2.1)), .v (.int .i64 (r.2.2.2.2.2.2.1))])), some (.row (Ty.int IntKind.i64) 3 (r.2.2.2.2.2.2.2))]⟩

noncomputable def D54 : Pk → Option (Int × Int × (List Int) × Int × ByteArray × Int × Int × (List Int))
  | ⟨[.tup [.v (.int .i64 x0), .v (.int .i64 x1)]], [some (.var (.agg [.arr (Ty.int IntKind.i64) 16 x2, .sl 2 (none), .v (.int .i64 x3)])), some (.var (.agg [.v (.string x4), .v (.int .i64 x5), .v (.int .i64 x6)])), some (.row (Ty.int IntKind.i64) 3 x7)]⟩ => some ((x0, x1, x2, x3, x4, x5, x6, x7))
  | _ => none

theorem D54_ok : ∀ y r, D54 y = some r → ∀ z, (O54 r).to z → y = z := by
  intro y r h
  unfold D54 at h
  split at h <;> first | (cases h; intro z hz; exact Option.some.inj hz) | cases h

noncomputable def F54 (N : Nat) : ((List Int) × Int × ByteArray × Int × Int × (List Int)) → Option (Int × Int × (List Int) × Int × ByteArray × Int × Int × (List Int))
  | (x0, x1, x2, x3, x4, x5) =>
  Option.bind (F54_58 N N ((0 : Int), (0 : Int), (1 : Int), (0 : Int), x0, x1, x2, x3, x4, x5)) fun y0 =>
  match y0 with
  | .inl y1 =>
    some ((Prod.fst y1, Prod.fst (Prod.snd y1), Prod.fst (Prod.snd (Prod.snd y1)), Prod.fst (Prod.snd (Prod.snd (Prod.snd y1))), Prod.fst (Prod.snd (Prod.snd (Prod.snd (Prod.snd y1)))), Prod.fst (Prod.snd (Prod.snd (Prod.snd (Prod.snd (Prod.snd y1))))), Prod.fst (Prod.snd (Prod.snd (Prod.snd (Prod.snd (Prod.snd (Prod.snd y1)))))), Prod.snd (Prod.snd (Prod.snd (Prod.snd (Prod.snd (Prod.snd (Prod.snd y1))))))))
  | .inr y1 =>
    some (((0 : Int), (3 : Int), Prod.fst y1, Prod.fst (Prod.snd y1), Prod.fst (Prod.snd (Prod.snd y1)), Prod.fst (Prod.snd (Prod.snd (Prod.snd y1))), Prod.fst (Prod.snd (Prod.snd (Prod.snd (Prod.snd y1)))), Prod.snd (Prod.snd (Prod.snd (Prod.snd (Prod.snd y1))))))

theorem F54_eq (N : Nat) (x0 : (List Int)) (x1 : Int) (x2 : ByteArray) (x3 : Int) (x4 : Int) (x5 : (List Int)) : (fnEv (mkE Try.prog ownT (tab54 N) [(58, (C54_58 N N))]) Try.f54 (J54 (x0, x1, x2, x3, x4, x5))).run D54 = F54 N (x0, x1, x2, x3, x4, x5) := by kernel_rfl

noncomputable def T54 (N : Nat) : Pk → Tr Pk := tell I54 (F54 N) O54

theorem T54_ok (N : Nat) : FOK Try.prog 54 (T54 N) :=
  tell_ok (E := (mkE Try.prog ownT (tab54 N) [(58, (C54_58 N N))])) (mkE_ok mix (tab54_ok N)) Try.func54 (show Try.f54.body = some (bod Try.f54) by kernel_rfl) (by decide +kernel) I54_ok D54_ok (args := A54) (fun _ => by kernel_rfl) (fun _ => by show 2 ≤ Try.f54.ntmps; exact of_decide_eq_true (by kernel_rfl)) (cutsIn_ok ⟨fun c' h => (C54_58_ok N N c' h), trivial⟩) (fun x => match x with | (x0, x1, x2, x3, x4, x5) => F54_eq N x0 x1 x2 x3 x4 x5)

/-! ## f68a: mirador/symbols.number -/

noncomputable def I68a : Pk → Option (Int × ByteArray × Int × Int)
  | ⟨[.adr 0 [], .v (.int .i64 x0), .v (.func (.func 15) ⟨[]⟩ ⟨[]⟩)], [some (.var (.agg [.v (.string x1), .v (.int .i64 x2), .v (.int .i64 x3)]))]⟩ => some (x0, x1, x2, x3)
  | _ => none

noncomputable def J68a (x : Int × ByteArray × Int × Int) : Pk := ⟨[.adr 0 [], .v (.int .i64 (x.1)), .v (.func (.func 15) ⟨[]⟩ ⟨[]⟩)], [some (.var (.agg [.v (.string (x.2.1)), .v (.int .i64 (x.2.2.1)), .v (.int .i64 (x.2.2.2))]))]⟩

theorem I68a_ok : ∀ pk x, I68a pk = some x → pk = J68a x := by
  intro pk x h
  unfold I68a at h
  split at h <;> first | (cases h; rfl) | cases h

noncomputable def A68a : List TV := [.adr 0 []]

noncomputable def tab68a (N : Nat) : List (Nat × (Pk → Tr Pk)) := [(65, T65 N), (66, T66 N), (15, T15 N)]

theorem tab68a_ok (N : Nat) : TabOK Try.prog (tab68a N) := ⟨T65_ok N, ⟨T66_ok N, ⟨T15_ok N, trivial⟩⟩⟩

noncomputable def O68a (r : Int × Int × ByteArray × Int × Int) : Tr (Pk) := .ret ⟨[.tup [.v (.int .i64 (r.1)), .v (.int .i64 (r.2.1))]], [some (.var (.agg [.v (.string (r.2.2.1)), .v (.int .i64 (r.2.2.2.1)), .v (.int .i64 (r.2.2.2.2))]))]⟩

noncomputable def D68a : Pk → Option (Int × Int × ByteArray × Int × Int)
  | ⟨[.tup [.v (.int .i64 x0), .v (.int .i64 x1)]], [some (.var (.agg [.v (.string x2), .v (.int .i64 x3), .v (.int .i64 x4)]))]⟩ => some ((x0, x1, x2, x3, x4))
  | _ => none

theorem D68a_ok : ∀ y r, D68a y = some r → ∀ z, (O68a r).to z → y = z := by
  intro y r h
  unfold D68a at h
  split at h <;> first | (cases h; intro z hz; exact Option.some.inj hz) | cases h

noncomputable def F68a (N : Nat) : (Int × ByteArray × Int × Int) → Option (Int × Int × ByteArray × Int × Int)
  | (x0, x1, x2, x3) =>
  Option.bind (F15 N x0) fun y0 =>
  Option.bind (F65 N (Prod.snd y0, x1, x2, x3)) fun y1 =>
  Option.bind (F66 N (Prod.fst (Prod.snd y1), Prod.fst (Prod.snd (Prod.snd y1)), Prod.snd (Prod.snd (Prod.snd y1)), ())) fun y2 =>
  some ((IntKind.wrap IntKind.i64 (Prod.fst y0 + Prod.fst y1), y2, Prod.fst (Prod.snd y1), Prod.fst (Prod.snd (Prod.snd y1)), Prod.snd (Prod.snd (Prod.snd y1))))

theorem F68a_eq (N : Nat) (x0 : Int) (x1 : ByteArray) (x2 : Int) (x3 : Int) : (fnEv (mkE Try.prog ownT (tab68a N) []) Try.f68 (J68a (x0, x1, x2, x3))).run D68a = F68a N (x0, x1, x2, x3) := by kernel_rfl

noncomputable def V68a (N : Nat) : Pk → Tr Pk := tell I68a (F68a N) O68a

theorem V68a_ok (N : Nat) : FOK Try.prog 68 (V68a N) :=
  tell_ok (E := (mkE Try.prog ownT (tab68a N) [])) (mkE_ok mix (tab68a_ok N)) Try.func68 (show Try.f68.body = some (bod Try.f68) by kernel_rfl) (by decide +kernel) I68a_ok D68a_ok (args := A68a) (fun _ => by kernel_rfl) (fun _ => by show 3 ≤ Try.f68.ntmps; exact of_decide_eq_true (by kernel_rfl)) (cutsIn_ok trivial) (fun x => match x with | (x0, x1, x2, x3) => F68a_eq N x0 x1 x2 x3)

/-! ## f68b: mirador/symbols.number -/

noncomputable def I68b : Pk → Option (Int × ByteArray × Int × Int)
  | ⟨[.adr 0 [], .v (.int .i64 x0), .v (.func (.func 17) ⟨[]⟩ ⟨[]⟩)], [some (.var (.agg [.v (.string x1), .v (.int .i64 x2), .v (.int .i64 x3)]))]⟩ => some (x0, x1, x2, x3)
  | _ => none

noncomputable def J68b (x : Int × ByteArray × Int × Int) : Pk := ⟨[.adr 0 [], .v (.int .i64 (x.1)), .v (.func (.func 17) ⟨[]⟩ ⟨[]⟩)], [some (.var (.agg [.v (.string (x.2.1)), .v (.int .i64 (x.2.2.1)), .v (.int .i64 (x.2.2.2))]))]⟩

theorem I68b_ok : ∀ pk x, I68b pk = some x → pk = J68b x := by
  intro pk x h
  unfold I68b at h
  split at h <;> first | (cases h; rfl) | cases h

noncomputable def A68b : List TV := [.adr 0 []]

noncomputable def tab68b (N : Nat) : List (Nat × (Pk → Tr Pk)) := [(65, T65 N), (66, T66 N), (17, T17 N)]

theorem tab68b_ok (N : Nat) : TabOK Try.prog (tab68b N) := ⟨T65_ok N, ⟨T66_ok N, ⟨T17_ok N, trivial⟩⟩⟩

noncomputable def O68b (r : Int × Int × ByteArray × Int × Int) : Tr (Pk) := .ret ⟨[.tup [.v (.int .i64 (r.1)), .v (.int .i64 (r.2.1))]], [some (.var (.agg [.v (.string (r.2.2.1)), .v (.int .i64 (r.2.2.2.1)), .v (.int .i64 (r.2.2.2.2))]))]⟩

noncomputable def D68b : Pk → Option (Int × Int × ByteArray × Int × Int)
  | ⟨[.tup [.v (.int .i64 x0), .v (.int .i64 x1)]], [some (.var (.agg [.v (.string x2), .v (.int .i64 x3), .v (.int .i64 x4)]))]⟩ => some ((x0, x1, x2, x3, x4))
  | _ => none

theorem D68b_ok : ∀ y r, D68b y = some r → ∀ z, (O68b r).to z → y = z := by
  intro y r h
  unfold D68b at h
  split at h <;> first | (cases h; intro z hz; exact Option.some.inj hz) | cases h

noncomputable def F68b (N : Nat) : (Int × ByteArray × Int × Int) → Option (Int × Int × ByteArray × Int × Int)
  | (x0, x1, x2, x3) =>
  Option.bind (F17 N x0) fun y0 =>
  Option.bind (F65 N (Prod.snd y0, x1, x2, x3)) fun y1 =>
  Option.bind (F66 N (Prod.fst (Prod.snd y1), Prod.fst (Prod.snd (Prod.snd y1)), Prod.snd (Prod.snd (Prod.snd y1)), ())) fun y2 =>
  some ((IntKind.wrap IntKind.i64 (Prod.fst y0 + Prod.fst y1), y2, Prod.fst (Prod.snd y1), Prod.fst (Prod.snd (Prod.snd y1)), Prod.snd (Prod.snd (Prod.snd y1))))

theorem F68b_eq (N : Nat) (x0 : Int) (x1 : ByteArray) (x2 : Int) (x3 : Int) : (fnEv (mkE Try.prog ownT (tab68b N) []) Try.f68 (J68b (x0, x1, x2, x3))).run D68b = F68b N (x0, x1, x2, x3) := by kernel_rfl

noncomputable def V68b (N : Nat) : Pk → Tr Pk := tell I68b (F68b N) O68b

theorem V68b_ok (N : Nat) : FOK Try.prog 68 (V68b N) :=
  tell_ok (E := (mkE Try.prog ownT (tab68b N) [])) (mkE_ok mix (tab68b_ok N)) Try.func68 (show Try.f68.body = some (bod Try.f68) by kernel_rfl) (by decide +kernel) I68b_ok D68b_ok (args := A68b) (fun _ => by kernel_rfl) (fun _ => by show 3 ≤ Try.f68.ntmps; exact of_decide_eq_true (by kernel_rfl)) (cutsIn_ok trivial) (fun x => match x with | (x0, x1, x2, x3) => F68b_eq N x0 x1 x2 x3)

noncomputable def T68 (N : Nat) : Pk → Tr Pk := (orT I68a (V68a N) (V68b N))

theorem T68_ok (N : Nat) : FOK Try.prog 68 (T68 N) := (orT_ok (V68a_ok N) (V68b_ok N))

/-! ## f55: mirador/symbols.piece -/

noncomputable def I55 : Pk → Option (Int × ByteArray × Int × Int × (List Int) × Int × (List Int))
  | ⟨[.adr 0 [], .v (.int .i64 x0), .adr 1 []], [some (.var (.agg [.v (.string x1), .v (.int .i64 x2), .v (.int .i64 x3)])), some (.var (.agg [.arr (.int .i64) 16 x4, .sl 2 none, .v (.int .i64 x5)])), some (.row (.int .i64) 3 x6)]⟩ => some (x0, x1, x2, x3, x4, x5, x6)
  | _ => none

noncomputable def J55 (x : Int × ByteArray × Int × Int × (List Int) × Int × (List Int)) : Pk := ⟨[.adr 0 [], .v (.int .i64 (x.1)), .adr 1 []], [some (.var (.agg [.v (.string (x.2.1)), .v (.int .i64 (x.2.2.1)), .v (.int .i64 (x.2.2.2.1))])), some (.var (.agg [.arr (.int .i64) 16 (x.2.2.2.2.1), .sl 2 none, .v (.int .i64 (x.2.2.2.2.2.1))])), some (.row (.int .i64) 3 (x.2.2.2.2.2.2))]⟩

theorem I55_ok : ∀ pk x, I55 pk = some x → pk = J55 x := by
  intro pk x h
  unfold I55 at h
  split at h <;> first | (cases h; rfl) | cases h

noncomputable def A55 : List TV := [.adr 0 [], .adr 1 []]

noncomputable def tab55 (N : Nat) : List (Nat × (Pk → Tr Pk)) := [(68, T68 N), (54, T54 N)]

theorem tab55_ok (N : Nat) : TabOK Try.prog (tab55 N) := ⟨T68_ok N, ⟨T54_ok N, trivial⟩⟩

noncomputable def O55 (r : Int × Int × Int × Int × ByteArray × Int × Int × (List Int) × Int × (List Int)) : Tr (Pk) := .ret ⟨[.tup [.agg [.v (.int .i64 (r.1)), .v (.int .i64 (r.2.1)), .v (.int .i64 (r.2.2.1))], .v (.int .i64 (r.2.2.2.1))]], [some (.var (.agg [.v (.string (r.2.2.2.2.1)), .v (.int .i64 (r.2.2.2.2.2.1)), .v (.int .i64 (r.2.2.2.2.2.2.1))])), some (.var (.agg [.arr (Ty.int IntKind.i64) 16 (r.2.2.2.2.2.2.2.1), .sl 2 (none), .v (.int .i64 (r.2.2.2.2.2.2.2.2.1))])), some (.row (Ty.int IntKind.i64) 3 (r.2.2.2.2.2.2.2.2.2))]⟩

noncomputable def D55 : Pk → Option (Int × Int × Int × Int × ByteArray × Int × Int × (List Int) × Int × (List Int))
  | ⟨[.tup [.agg [.v (.int .i64 x0), .v (.int .i64 x1), .v (.int .i64 x2)], .v (.int .i64 x3)]], [some (.var (.agg [.v (.string x4), .v (.int .i64 x5), .v (.int .i64 x6)])), some (.var (.agg [.arr (Ty.int IntKind.i64) 16 x7, .sl 2 (none), .v (.int .i64 x8)])), some (.row (Ty.int IntKind.i64) 3 x9)]⟩ => some ((x0, x1, x2, x3, x4, x5, x6, x7, x8, x9))
  | _ => none

theorem D55_ok : ∀ y r, D55 y = some r → ∀ z, (O55 r).to z → y = z := by
  intro y r h
  unfold D55 at h
  split at h <;> first | (cases h; intro z hz; exact Option.some.inj hz) | cases h

noncomputable def F55 (N : Nat) : (Int × ByteArray × Int × Int × (List Int) × Int × (List Int)) → Option (Int × Int × Int × Int × ByteArray × Int × Int × (List Int) × Int × (List Int))
  | (x0, x1, x2, x3, x4, x5, x6) =>
  if (decide (x0 > (285 : Int))) = true then
    some (((0 : Int), (0 : Int), (0 : Int), (3 : Int), x1, x2, x3, x4, x5, x6))
  else
    Option.bind (F68a N (x0, x1, x2, x3)) fun y0 =>
    if (Prod.fst (Prod.snd y0) != (0 : Int)) = true then
      some (((0 : Int), (0 : Int), (0 : Int), Prod.fst (Prod.snd y0), Prod.fst (Prod.snd (Prod.snd y0)), Prod.fst (Prod.snd (Prod.snd (Prod.snd y0))), Prod.snd (Prod.snd (Prod.snd (Prod.snd y0))), x4, x5, x6))
    else
      Option.bind (F54 N (x4, x5, Prod.fst (Prod.snd (Prod.snd y0)), Prod.fst (Prod.snd (Prod.snd (Prod.snd y0))), Prod.snd (Prod.snd (Prod.snd (Prod.snd y0))), x6)) fun y1 =>
      if (Prod.fst (Prod.snd y1) != (0 : Int)) = true then
        some (((0 : Int), (0 : Int), (0 : Int), Prod.fst (Prod.snd y1), Prod.fst (Prod.snd (Prod.snd (Prod.snd (Prod.snd y1)))), Prod.fst (Prod.snd (Prod.snd (Prod.snd (Prod.snd (Prod.snd y1))))), Prod.fst (Prod.snd (Prod.snd (Prod.snd (Prod.snd (Prod.snd (Prod.snd y1)))))), Prod.fst (Prod.snd (Prod.snd y1)), Prod.fst (Prod.snd (Prod.snd (Prod.snd y1))), Prod.snd (Prod.snd (Prod.snd (Prod.snd (Prod.snd (Prod.snd (Prod.snd y1))))))))
      else
        if (decide (Prod.fst y1 ≥ (30 : Int))) = true then
          some (((0 : Int), (0 : Int), (0 : Int), (3 : Int), Prod.fst (Prod.snd (Prod.snd (Prod.snd (Prod.snd y1)))), Prod.fst (Prod.snd (Prod.snd (Prod.snd (Prod.snd (Prod.snd y1))))), Prod.fst (Prod.snd (Prod.snd (Prod.snd (Prod.snd (Prod.snd (Prod.snd y1)))))), Prod.fst (Prod.snd (Prod.snd y1)), Prod.fst (Prod.snd (Prod.snd (Prod.snd y1))), Prod.snd (Prod.snd (Prod.snd (Prod.snd (Prod.snd (Prod.snd (Prod.snd y1))))))))
        else
          Option.bind (F68b N (Prod.fst y1, Prod.fst (Prod.snd (Prod.snd (Prod.snd (Prod.snd y1)))), Prod.fst (Prod.snd (Prod.snd (Prod.snd (Prod.snd (Prod.snd y1))))), Prod.fst (Prod.snd (Prod.snd (Prod.snd (Prod.snd (Prod.snd (Prod.snd y1)))))))) fun y2 =>
          some (((0 : Int), Prod.fst y0, Prod.fst y2, Prod.fst (Prod.snd y2), Prod.fst (Prod.snd (Prod.snd y2)), Prod.fst (Prod.snd (Prod.snd (Prod.snd y2))), Prod.snd (Prod.snd (Prod.snd (Prod.snd y2))), Prod.fst (Prod.snd (Prod.snd y1)), Prod.fst (Prod.snd (Prod.snd (Prod.snd y1))), Prod.snd (Prod.snd (Prod.snd (Prod.snd (Prod.snd (Prod.snd (Prod.snd y1))))))))

theorem F55_eq (N : Nat) (x0 : Int) (x1 : ByteArray) (x2 : Int) (x3 : Int) (x4 : (List Int)) (x5 : Int) (x6 : (List Int)) : (fnEv (mkE Try.prog ownT (tab55 N) []) Try.f55 (J55 (x0, x1, x2, x3, x4, x5, x6))).run D55 = F55 N (x0, x1, x2, x3, x4, x5, x6) := by kernel_rfl

noncomputable def T55 (N : Nat) : Pk → Tr Pk := tell I55 (F55 N) O55

theorem T55_ok (N : Nat) : FOK Try.prog 55 (T55 N) :=
  tell_ok (E := (mkE Try.prog ownT (tab55 N) [])) (mkE_ok mix (tab55_ok N)) Try.func55 (show Try.f55.body = some (bod Try.f55) by kernel_rfl) (by decide +kernel) I55_ok D55_ok (args := A55) (fun _ => by kernel_rfl) (fun _ => by show 3 ≤ Try.f55.ntmps; exact of_decide_eq_true (by kernel_rfl)) (cutsIn_ok trivial) (fun x => match x with | (x0, x1, x2, x3, x4, x5, x6) => F55_eq N x0 x1 x2 x3 x4 x5 x6)


end Go.Proofs.Ytmcjfdognplgmaa.Am
