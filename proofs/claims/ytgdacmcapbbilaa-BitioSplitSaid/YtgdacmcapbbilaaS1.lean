/- The seat's Go functions come to the Lean functions written here, wherever these give an answer. -/
import Derived.Test.YtgdacmcapbbilaaAmC
import Derived.KernelRfl
import Derived.Test.YtgdacmcapbbilaaProg
/- The Go functions of the seat, told by Lean functions (printed by a program of this session: wip/am/AmGen.lean). -/
set_option linter.unusedVariables false
set_option maxRecDepth 100000
namespace Go.Proofs.Ytgdacmcapbbilaa.Am
open Go.Am
theorem mix : Try.prog.follows .mixedOrders = true := by kernel_rfl
def ownT : FuncId → List Bool := fun _ => []

-- f32
/-! ## f32 -/

noncomputable def I32 : Pk → Option (Int)
  | ⟨[.v (.int .i64 x0)], []⟩ => some x0
  | _ => none

noncomputable def J32 (x : Int) : Pk := ⟨[.v (.int .i64 (x))], []⟩

theorem I32_ok : ∀ pk x, I32 pk = some x → pk = J32 x := by
  intro pk x h
  unfold I32 at h
  split at h <;> first | (cases h; rfl) | cases h

noncomputable def A32 : List TV := []

noncomputable def tab32 (N : Nat) : List (Nat × (Pk → Tr Pk)) := []

theorem tab32_ok (N : Nat) : TabOK Try.prog (tab32 N) := trivial

noncomputable def O32 (r : Int) : Tr (Pk) := .ret ⟨[.v (.int .i64 (r))], []⟩

noncomputable def D32 : Pk → Option (Int)
  | ⟨[.v (.int .i64 x0)], []⟩ => some (x0)
  | _ => none

theorem D32_ok : ∀ y r, D32 y = some r → ∀ z, (O32 r).to z → y = z := by
  intro y r h
  unfold D32 at h
  split at h <;> first | (cases h; intro z hz; exact Option.some.inj hz) | cases h

noncomputable def F32 (N : Nat) : (Int) → Option (Int)
  | x0 =>
  some (if (32 : Int) < if (0 : Int) > x0 then (0 : Int) else x0 then (32 : Int) else if (0 : Int) > x0 then (0 : Int) else x0)

noncomputable def T32 (N : Nat) : Pk → Tr Pk := tell I32 (F32 N) O32

theorem F32_eq (N : Nat) (x0 : Int) : (fnEv (mkE Try.prog ownT (tab32 N) []) Try.f32 (J32 x0)).run D32 = F32 N x0 := by kernel_rfl

theorem T32_ok (N : Nat) : FOK Try.prog 32 (T32 N) :=
  tell_ok (E := (mkE Try.prog ownT (tab32 N) [])) (mkE_ok mix (tab32_ok N)) Try.func32 (show Try.f32.body = some (bod Try.f32) by kernel_rfl) (by decide +kernel) I32_ok D32_ok (args := A32) (fun _ => by kernel_rfl) (fun _ => by show 1 ≤ Try.f32.ntmps; exact of_decide_eq_true (by kernel_rfl)) (cutsIn_ok trivial) (fun x => match x with | x0 => F32_eq N x0)

-- f34
/-! ## f34 -/

noncomputable def I34 : Pk → Option (Int × Int)
  | ⟨[.v (.int .i64 x0), .v (.int .i64 x1)], []⟩ => some (x0, x1)
  | _ => none

noncomputable def J34 (x : Int × Int) : Pk := ⟨[.v (.int .i64 (x.1)), .v (.int .i64 (x.2))], []⟩

theorem I34_ok : ∀ pk x, I34 pk = some x → pk = J34 x := by
  intro pk x h
  unfold I34 at h
  split at h <;> first | (cases h; rfl) | cases h

noncomputable def A34 : List TV := []

noncomputable def tab34 (N : Nat) : List (Nat × (Pk → Tr Pk)) := []

theorem tab34_ok (N : Nat) : TabOK Try.prog (tab34 N) := trivial

noncomputable def O34 (r : Int) : Tr (Pk) := .ret ⟨[.v (.int .i64 (r))], []⟩

noncomputable def D34 : Pk → Option (Int)
  | ⟨[.v (.int .i64 x0)], []⟩ => some (x0)
  | _ => none

theorem D34_ok : ∀ y r, D34 y = some r → ∀ z, (O34 r).to z → y = z := by
  intro y r h
  unfold D34 at h
  split at h <;> first | (cases h; intro z hz; exact Option.some.inj hz) | cases h

noncomputable def F34 (N : Nat) : (Int × Int) → Option (Int)
  | (x0, x1) =>
  if (decide (x0 < (0 : Int))) = true then
    none
  else
    some (IntKind.wrap IntKind.i64 (↑(BitVec.toNat (BitVec.ofInt (64 : Nat) x1 &&& BitVec.ofInt (64 : Nat) (IntKind.wrap IntKind.i64 (IntKind.wrap IntKind.i64 ((1 : Int) * (2 : Int) ^ min (Int.toNat x0) (64 : Nat)) - (1 : Int))))) : Int))

noncomputable def T34 (N : Nat) : Pk → Tr Pk := tell I34 (F34 N) O34

theorem F34_eq (N : Nat) (x0 : Int) (x1 : Int) : (fnEv (mkE Try.prog ownT (tab34 N) []) Try.f34 (J34 (x0, x1))).run D34 = F34 N (x0, x1) := by kernel_rfl

theorem T34_ok (N : Nat) : FOK Try.prog 34 (T34 N) :=
  tell_ok (E := (mkE Try.prog ownT (tab34 N) [])) (mkE_ok mix (tab34_ok N)) Try.func34 (show Try.f34.body = some (bod Try.f34) by kernel_rfl) (by decide +kernel) I34_ok D34_ok (args := A34) (fun _ => by kernel_rfl) (fun _ => by show 2 ≤ Try.f34.ntmps; exact of_decide_eq_true (by kernel_rfl)) (cutsIn_ok trivial) (fun x => match x with | (x0, x1) => F34_eq N x0 x1)

-- f10
/-! ## f10 -/

noncomputable def I10 : Pk → Option (Int × Int × Int × Int × (List Int))
  | ⟨[.adr 0 [], .v (.int .i64 x0), .v (.int .i64 x1)], [some (.var (.agg [.sl 1 none, .v (.int .i64 x2), .v (.int .i64 x3)])), some (.row (Ty.int IntKind.u8) 5 x4)]⟩ => some (x0, x1, x2, x3, x4)
  | _ => none

noncomputable def J10 (x : Int × Int × Int × Int × (List Int)) : Pk := ⟨[.adr 0 [], .v (.int .i64 (x.1)), .v (.int .i64 (x.2.1))], [some (.var (.agg [.sl 1 none, .v (.int .i64 (x.2.2.1)), .v (.int .i64 (x.2.2.2.1))])), some (.row (Ty.int IntKind.u8) 5 (x.2.2.2.2))]⟩

theorem I10_ok : ∀ pk x, I10 pk = some x → pk = J10 x := by
  intro pk x h
  unfold I10 at h
  split at h <;> first | (cases h; rfl) | cases h

noncomputable def A10 : List TV := [.adr 0 []]

noncomputable def tab10 (N : Nat) : List (Nat × (Pk → Tr Pk)) := [(32, T32 N), (34, T34 N)]

theorem tab10_ok (N : Nat) : TabOK Try.prog (tab10 N) := ⟨T32_ok N, ⟨T34_ok N, trivial⟩⟩

noncomputable def I10_30 : Pk → Option (Int × Int × (List Int))
  | ⟨[.adr 0 []], [some (.var (.agg [.sl 1 (none), .v (.int .i64 x0), .v (.int .i64 x1)])), some (.row (Ty.int IntKind.u8) 5 x2)]⟩ => some (x0, x1, x2)
  | _ => none

noncomputable def J10_30 (x : Int × Int × (List Int)) : Pk := ⟨[.adr 0 []], [some (.var (.agg [.sl 1 (none), .v (.int .i64 (x.1)), .v (.int .i64 (x.2.1))])), some (.row (Ty.int IntKind.u8) 5 (x.2.2))]⟩

theorem I10_30_ok : ∀ pk x, I10_30 pk = some x → pk = J10_30 x := by
  intro pk x h
  unfold I10_30 at h
  split at h <;> first | (cases h; rfl) | cases h

def X10_30 : Ex → List Nat
  | .ret => []
  | .exit 0 => []
  | _ => []

noncomputable def O10_30 (r : Int × Int × (List Int)) : Tr (Ex × Pk) := .ret (.exit 0, ⟨[], [some (.var (.agg [.sl 1 (none), .v (.int .i64 (r.1)), .v (.int .i64 (r.2.1))])), some (.row (Ty.int IntKind.u8) 5 (r.2.2))]⟩)

noncomputable def D10_30 : Ex × Pk → Option (Int × Int × (List Int))
  | (.exit 0, ⟨[], [some (.var (.agg [.sl 1 (none), .v (.int .i64 x0), .v (.int .i64 x1)])), some (.row (Ty.int IntKind.u8) 5 x2)]⟩) => some ((x0, x1, x2))
  | _ => none

theorem D10_30_ok : ∀ y r, D10_30 y = some r → ∀ z, (O10_30 r).to z → y = z := by
  intro y r h
  unfold D10_30 at h
  split at h <;> first | (cases h; intro z hz; exact Option.some.inj hz) | cases h

noncomputable def B10_30 (N : Nat) (f : (Int × Int × (List Int)) → Option (Int × Int × (List Int))) : (Int × Int × (List Int)) → Option (Int × Int × (List Int))
  | (x0, x1, x2) =>
  if (decide (x1 ≥ (8 : Int))) = true then
    if (decide ((List.length x2 + List.length [IntKind.wrap IntKind.u8 x0]) * (1 : Nat) ≤ (140737488355328 : Nat) ∧ List.length x2 + List.length [IntKind.wrap IntKind.u8 x0] ≤ (140737488355328 : Nat))) = true then
      Option.bind (f (Int.fdiv x0 (256 : Int), IntKind.wrap IntKind.i64 (x1 - (8 : Int)), x2 ++ [IntKind.wrap IntKind.u8 x0])) fun r => some r
    else
      none
  else
    some ((x0, x1, x2))

noncomputable def F10_30 (N : Nat) : Nat → (Int × Int × (List Int)) → Option (Int × Int × (List Int))
  | 0, _ => none
  | k + 1, x => B10_30 N (F10_30 N k) x

noncomputable def C10_30 (N k : Nat) : Cut := ⟨[0], X10_30, tellX I10_30 (F10_30 N k) O10_30⟩

theorem B10_30_eq (N : Nat) (f : (Int × Int × (List Int)) → Option (Int × Int × (List Int))) (x0 : Int) (x1 : Int) (x2 : (List Int)) : (roundEv (mkE Try.prog ownT (tab10 N) []) Try.f10.ntmps A10 (loopAt (bod Try.f10) 30) 30 ⟨[0], X10_30, tellX I10_30 f O10_30⟩ (J10_30 (x0, x1, x2))).run D10_30 = B10_30 N f (x0, x1, x2) := by kernel_rfl

theorem C10_30_ok (N k : Nat) : ∀ c', At (bod Try.f10) 30 c' → CutOK Try.prog Try.f10.ntmps (idsL A10) c' (C10_30 N k) :=
  loop_ok (E := (mkE Try.prog ownT (tab10 N) [])) (mkE_ok mix (tab10_ok N)) (cutsIn_ok trivial) (fuel := 200) (by decide +kernel) (by kernel_rfl) I10_30_ok D10_30_ok (B10_30 N) (F10_30 N) (fun _ => rfl) (fun _ _ => rfl) (fun f x => match x with | (x0, x1, x2) => B10_30_eq N f x0 x1 x2) k

noncomputable def O10 (r : Int × Int × (List Int)) : Tr (Pk) := .ret ⟨[.tup []], [some (.var (.agg [.sl 1 (none), .v (.int .i64 (r.1)), .v (.int .i64 (r.2.1))])), some (.row (Ty.int IntKind.u8) 5 (r.2.2))]⟩

noncomputable def D10 : Pk → Option (Int × Int × (List Int))
  | ⟨[.tup []], [some (.var (.agg [.sl 1 (none), .v (.int .i64 x0), .v (.int .i64 x1)])), some (.row (Ty.int IntKind.u8) 5 x2)]⟩ => some ((x0, x1, x2))
  | _ => none

theorem D10_ok : ∀ y r, D10 y = some r → ∀ z, (O10 r).to z → y = z := by
  intro y r h
  unfold D10 at h
  split at h <;> first | (cases h; intro z hz; exact Option.some.inj hz) | cases h

noncomputable def F10 (N : Nat) : (Int × Int × Int × Int × (List Int)) → Option (Int × Int × (List Int))
  | (x0, x1, x2, x3, x4) =>
  Option.bind (F32 N x0) fun y0 =>
  Option.bind (F34 N (y0, x1)) fun y1 =>
  if (decide (x3 < (0 : Int))) = true then
    none
  else
    Option.bind (F10_30 N N (IntKind.wrap IntKind.i64 (↑(BitVec.toNat (BitVec.ofInt (64 : Nat) x2 ||| BitVec.ofInt (64 : Nat) (IntKind.wrap IntKind.i64 (y1 * (2 : Int) ^ min (Int.toNat x3) (64 : Nat))))) : Int), IntKind.wrap IntKind.i64 (x3 + y0), x4)) fun y2 =>
    some ((Prod.fst y2, Prod.fst (Prod.snd y2), Prod.snd (Prod.snd y2)))

noncomputable def T10 (N : Nat) : Pk → Tr Pk := tell I10 (F10 N) O10

theorem F10_eq (N : Nat) (x0 : Int) (x1 : Int) (x2 : Int) (x3 : Int) (x4 : (List Int)) : (fnEv (mkE Try.prog ownT (tab10 N) [(30, C10_30 N N)]) Try.f10 (J10 (x0, x1, x2, x3, x4))).run D10 = F10 N (x0, x1, x2, x3, x4) := by kernel_rfl

theorem T10_ok (N : Nat) : FOK Try.prog 10 (T10 N) :=
  tell_ok (E := (mkE Try.prog ownT (tab10 N) [(30, C10_30 N N)])) (mkE_ok mix (tab10_ok N)) Try.func10 (show Try.f10.body = some (bod Try.f10) by kernel_rfl) (by decide +kernel) I10_ok D10_ok (args := A10) (fun _ => by kernel_rfl) (fun _ => by show 3 ≤ Try.f10.ntmps; exact of_decide_eq_true (by kernel_rfl)) (cutsIn_ok ⟨C10_30_ok N N, trivial⟩) (fun x => match x with | (x0, x1, x2, x3, x4) => F10_eq N x0 x1 x2 x3 x4)

-- f40
/-! ## f40 -/

noncomputable def I40 : Pk → Option (Int)
  | ⟨[.v (.int .u64 x0)], []⟩ => some x0
  | _ => none

noncomputable def J40 (x : Int) : Pk := ⟨[.v (.int .u64 (x))], []⟩

theorem I40_ok : ∀ pk x, I40 pk = some x → pk = J40 x := by
  intro pk x h
  unfold I40 at h
  split at h <;> first | (cases h; rfl) | cases h

noncomputable def A40 : List TV := []

noncomputable def tab40 (N : Nat) : List (Nat × (Pk → Tr Pk)) := []

theorem tab40_ok (N : Nat) : TabOK Try.prog (tab40 N) := trivial

noncomputable def O40 (r : Int) : Tr (Pk) := .ret ⟨[.v (.int .u64 (r))], []⟩

noncomputable def D40 : Pk → Option (Int)
  | ⟨[.v (.int .u64 x0)], []⟩ => some (x0)
  | _ => none

theorem D40_ok : ∀ y r, D40 y = some r → ∀ z, (O40 r).to z → y = z := by
  intro y r h
  unfold D40 at h
  split at h <;> first | (cases h; intro z hz; exact Option.some.inj hz) | cases h

noncomputable def F40 (N : Nat) : (Int) → Option (Int)
  | x0 =>
  some (IntKind.wrap IntKind.u64 (↑(BitVec.toNat (BitVec.ofInt (64 : Nat) (Int.fdiv (IntKind.wrap IntKind.u64 (↑(BitVec.toNat (BitVec.ofInt (64 : Nat) (IntKind.wrap IntKind.u64 (↑(BitVec.toNat (BitVec.ofInt (64 : Nat) (Int.fdiv (IntKind.wrap IntKind.u64 (↑(BitVec.toNat (BitVec.ofInt (64 : Nat) (IntKind.wrap IntKind.u64 (↑(BitVec.toNat (BitVec.ofInt (64 : Nat) (Int.fdiv x0 (256 : Int)) &&& BitVec.ofInt (64 : Nat) (71777214294589695 : Int))) : Int)) ||| BitVec.ofInt (64 : Nat) (IntKind.wrap IntKind.u64 (IntKind.wrap IntKind.u64 (↑(BitVec.toNat (BitVec.ofInt (64 : Nat) x0 &&& BitVec.ofInt (64 : Nat) (71777214294589695 : Int))) : Int) * (256 : Int))))) : Int)) (65536 : Int)) &&& BitVec.ofInt (64 : Nat) (281470681808895 : Int))) : Int)) ||| BitVec.ofInt (64 : Nat) (IntKind.wrap IntKind.u64 (IntKind.wrap IntKind.u64 (↑(BitVec.toNat (BitVec.ofInt (64 : Nat) (IntKind.wrap IntKind.u64 (↑(BitVec.toNat (BitVec.ofInt (64 : Nat) (IntKind.wrap IntKind.u64 (↑(BitVec.toNat (BitVec.ofInt (64 : Nat) (Int.fdiv x0 (256 : Int)) &&& BitVec.ofInt (64 : Nat) (71777214294589695 : Int))) : Int)) ||| BitVec.ofInt (64 : Nat) (IntKind.wrap IntKind.u64 (IntKind.wrap IntKind.u64 (↑(BitVec.toNat (BitVec.ofInt (64 : Nat) x0 &&& BitVec.ofInt (64 : Nat) (71777214294589695 : Int))) : Int) * (256 : Int))))) : Int)) &&& BitVec.ofInt (64 : Nat) (281470681808895 : Int))) : Int) * (65536 : Int))))) : Int)) (4294967296 : Int)) ||| BitVec.ofInt (64 : Nat) (IntKind.wrap IntKind.u64 (IntKind.wrap IntKind.u64 (↑(BitVec.toNat (BitVec.ofInt (64 : Nat) (IntKind.wrap IntKind.u64 (↑(BitVec.toNat (BitVec.ofInt (64 : Nat) (Int.fdiv (IntKind.wrap IntKind.u64 (↑(BitVec.toNat (BitVec.ofInt (64 : Nat) (IntKind.wrap IntKind.u64 (↑(BitVec.toNat (BitVec.ofInt (64 : Nat) (Int.fdiv x0 (256 : Int)) &&& BitVec.ofInt (64 : Nat) (71777214294589695 : Int))) : Int)) ||| BitVec.ofInt (64 : Nat) (IntKind.wrap IntKind.u64 (IntKind.wrap IntKind.u64 (↑(BitVec.toNat (BitVec.ofInt (64 : Nat) x0 &&& BitVec.ofInt (64 : Nat) (71777214294589695 : Int))) : Int) * (256 : Int))))) : Int)) (65536 : Int)) &&& BitVec.ofInt (64 : Nat) (281470681808895 : Int))) : Int)) ||| BitVec.ofInt (64 : Nat) (IntKind.wrap IntKind.u64 (IntKind.wrap IntKind.u64 (↑(BitVec.toNat (BitVec.ofInt (64 : Nat) (IntKind.wrap IntKind.u64 (↑(BitVec.toNat (BitVec.ofInt (64 : Nat) (IntKind.wrap IntKind.u64 (↑(BitVec.toNat (BitVec.ofInt (64 : Nat) (Int.fdiv x0 (256 : Int)) &&& BitVec.ofInt (64 : Nat) (71777214294589695 : Int))) : Int)) ||| BitVec.ofInt (64 : Nat) (IntKind.wrap IntKind.u64 (IntKind.wrap IntKind.u64 (↑(BitVec.toNat (BitVec.ofInt (64 : Nat) x0 &&& BitVec.ofInt (64 : Nat) (71777214294589695 : Int))) : Int) * (256 : Int))))) : Int)) &&& BitVec.ofInt (64 : Nat) (281470681808895 : Int))) : Int) * (65536 : Int))))) : Int) * (4294967296 : Int))))) : Int))

noncomputable def T40 (N : Nat) : Pk → Tr Pk := tell I40 (F40 N) O40

theorem F40_eq (N : Nat) (x0 : Int) : (fnEv (mkE Try.prog ownT (tab40 N) []) Try.f40 (J40 x0)).run D40 = F40 N x0 := by kernel_rfl

theorem T40_ok (N : Nat) : FOK Try.prog 40 (T40 N) :=
  tell_ok (E := (mkE Try.prog ownT (tab40 N) [])) (mkE_ok mix (tab40_ok N)) Try.func40 (show Try.f40.body = some (bod Try.f40) by kernel_rfl) (by decide +kernel) I40_ok D40_ok (args := A40) (fun _ => by kernel_rfl) (fun _ => by show 1 ≤ Try.f40.ntmps; exact of_decide_eq_true (by kernel_rfl)) (cutsIn_ok trivial) (fun x => match x with | x0 => F40_eq N x0)

-- f33
/-! ## f33 -/

noncomputable def I33 : Pk → Option (Int)
  | ⟨[.v (.int .u64 x0)], []⟩ => some x0
  | _ => none

noncomputable def J33 (x : Int) : Pk := ⟨[.v (.int .u64 (x))], []⟩

theorem I33_ok : ∀ pk x, I33 pk = some x → pk = J33 x := by
  intro pk x h
  unfold I33 at h
  split at h <;> first | (cases h; rfl) | cases h

noncomputable def A33 : List TV := []

noncomputable def tab33 (N : Nat) : List (Nat × (Pk → Tr Pk)) := [(40, T40 N)]

theorem tab33_ok (N : Nat) : TabOK Try.prog (tab33 N) := ⟨T40_ok N, trivial⟩

noncomputable def O33 (r : Int) : Tr (Pk) := .ret ⟨[.v (.int .u64 (r))], []⟩

noncomputable def D33 : Pk → Option (Int)
  | ⟨[.v (.int .u64 x0)], []⟩ => some (x0)
  | _ => none

theorem D33_ok : ∀ y r, D33 y = some r → ∀ z, (O33 r).to z → y = z := by
  intro y r h
  unfold D33 at h
  split at h <;> first | (cases h; intro z hz; exact Option.some.inj hz) | cases h

noncomputable def F33 (N : Nat) : (Int) → Option (Int)
  | x0 =>
  Option.bind (F40 N (IntKind.wrap IntKind.u64 (↑(BitVec.toNat (BitVec.ofInt (64 : Nat) (IntKind.wrap IntKind.u64 (↑(BitVec.toNat (BitVec.ofInt (64 : Nat) (Int.fdiv (IntKind.wrap IntKind.u64 (↑(BitVec.toNat (BitVec.ofInt (64 : Nat) (IntKind.wrap IntKind.u64 (↑(BitVec.toNat (BitVec.ofInt (64 : Nat) (Int.fdiv (IntKind.wrap IntKind.u64 (↑(BitVec.toNat (BitVec.ofInt (64 : Nat) (IntKind.wrap IntKind.u64 (↑(BitVec.toNat (BitVec.ofInt (64 : Nat) (Int.fdiv x0 (2 : Int)) &&& BitVec.ofInt (64 : Nat) (6148914691236517205 : Int))) : Int)) ||| BitVec.ofInt (64 : Nat) (IntKind.wrap IntKind.u64 (IntKind.wrap IntKind.u64 (↑(BitVec.toNat (BitVec.ofInt (64 : Nat) x0 &&& BitVec.ofInt (64 : Nat) (6148914691236517205 : Int))) : Int) * (2 : Int))))) : Int)) (4 : Int)) &&& BitVec.ofInt (64 : Nat) (3689348814741910323 : Int))) : Int)) ||| BitVec.ofInt (64 : Nat) (IntKind.wrap IntKind.u64 (IntKind.wrap IntKind.u64 (↑(BitVec.toNat (BitVec.ofInt (64 : Nat) (IntKind.wrap IntKind.u64 (↑(BitVec.toNat (BitVec.ofInt (64 : Nat) (IntKind.wrap IntKind.u64 (↑(BitVec.toNat (BitVec.ofInt (64 : Nat) (Int.fdiv x0 (2 : Int)) &&& BitVec.ofInt (64 : Nat) (6148914691236517205 : Int))) : Int)) ||| BitVec.ofInt (64 : Nat) (IntKind.wrap IntKind.u64 (IntKind.wrap IntKind.u64 (↑(BitVec.toNat (BitVec.ofInt (64 : Nat) x0 &&& BitVec.ofInt (64 : Nat) (6148914691236517205 : Int))) : Int) * (2 : Int))))) : Int)) &&& BitVec.ofInt (64 : Nat) (3689348814741910323 : Int))) : Int) * (4 : Int))))) : Int)) (16 : Int)) &&& BitVec.ofInt (64 : Nat) (1085102592571150095 : Int))) : Int)) ||| BitVec.ofInt (64 : Nat) (IntKind.wrap IntKind.u64 (IntKind.wrap IntKind.u64 (↑(BitVec.toNat (BitVec.ofInt (64 : Nat) (IntKind.wrap IntKind.u64 (↑(BitVec.toNat (BitVec.ofInt (64 : Nat) (IntKind.wrap IntKind.u64 (↑(BitVec.toNat (BitVec.ofInt (64 : Nat) (Int.fdiv (IntKind.wrap IntKind.u64 (↑(BitVec.toNat (BitVec.ofInt (64 : Nat) (IntKind.wrap IntKind.u64 (↑(BitVec.toNat (BitVec.ofInt (64 : Nat) (Int.fdiv x0 (2 : Int)) &&& BitVec.ofInt (64 : Nat) (6148914691236517205 : Int))) : Int)) ||| BitVec.ofInt (64 : Nat) (IntKind.wrap IntKind.u64 (IntKind.wrap IntKind.u64 (↑(BitVec.toNat (BitVec.ofInt (64 : Nat) x0 &&& BitVec.ofInt (64 : Nat) (6148914691236517205 : Int))) : Int) * (2 : Int))))) : Int)) (4 : Int)) &&& BitVec.ofInt (64 : Nat) (3689348814741910323 : Int))) : Int)) ||| BitVec.ofInt (64 : Nat) (IntKind.wrap IntKind.u64 (IntKind.wrap IntKind.u64 (↑(BitVec.toNat (BitVec.ofInt (64 : Nat) (IntKind.wrap IntKind.u64 (↑(BitVec.toNat (BitVec.ofInt (64 : Nat) (IntKind.wrap IntKind.u64 (↑(BitVec.toNat (BitVec.ofInt (64 : Nat) (Int.fdiv x0 (2 : Int)) &&& BitVec.ofInt (64 : Nat) (6148914691236517205 : Int))) : Int)) ||| BitVec.ofInt (64 : Nat) (IntKind.wrap IntKind.u64 (IntKind.wrap IntKind.u64 (↑(BitVec.toNat (BitVec.ofInt (64 : Nat) x0 &&& BitVec.ofInt (64 : Nat) (6148914691236517205 : Int))) : Int) * (2 : Int))))) : Int)) &&& BitVec.ofInt (64 : Nat) (3689348814741910323 : Int))) : Int) * (4 : Int))))) : Int)) &&& BitVec.ofInt (64 : Nat) (1085102592571150095 : Int))) : Int) * (16 : Int))))) : Int))) fun y0 =>
  some (y0)

noncomputable def T33 (N : Nat) : Pk → Tr Pk := tell I33 (F33 N) O33

theorem F33_eq (N : Nat) (x0 : Int) : (fnEv (mkE Try.prog ownT (tab33 N) []) Try.f33 (J33 x0)).run D33 = F33 N x0 := by kernel_rfl

theorem T33_ok (N : Nat) : FOK Try.prog 33 (T33 N) :=
  tell_ok (E := (mkE Try.prog ownT (tab33 N) [])) (mkE_ok mix (tab33_ok N)) Try.func33 (show Try.f33.body = some (bod Try.f33) by kernel_rfl) (by decide +kernel) I33_ok D33_ok (args := A33) (fun _ => by kernel_rfl) (fun _ => by show 1 ≤ Try.f33.ntmps; exact of_decide_eq_true (by kernel_rfl)) (cutsIn_ok trivial) (fun x => match x with | x0 => F33_eq N x0)

-- f9
/-! ## f9 -/

noncomputable def I9 : Pk → Option (Int × Int)
  | ⟨[.agg [.v (.int .i64 x0), .v (.int .i64 x1)]], []⟩ => some (x0, x1)
  | _ => none

noncomputable def J9 (x : Int × Int) : Pk := ⟨[.agg [.v (.int .i64 (x.1)), .v (.int .i64 (x.2))]], []⟩

theorem I9_ok : ∀ pk x, I9 pk = some x → pk = J9 x := by
  intro pk x h
  unfold I9 at h
  split at h <;> first | (cases h; rfl) | cases h

noncomputable def A9 : List TV := []

noncomputable def tab9 (N : Nat) : List (Nat × (Pk → Tr Pk)) := [(32, T32 N), (34, T34 N), (33, T33 N)]

theorem tab9_ok (N : Nat) : TabOK Try.prog (tab9 N) := ⟨T32_ok N, ⟨T34_ok N, ⟨T33_ok N, trivial⟩⟩⟩

noncomputable def O9 (r : Int) : Tr (Pk) := .ret ⟨[.v (.int .i64 (r))], []⟩

noncomputable def D9 : Pk → Option (Int)
  | ⟨[.v (.int .i64 x0)], []⟩ => some (x0)
  | _ => none

theorem D9_ok : ∀ y r, D9 y = some r → ∀ z, (O9 r).to z → y = z := by
  intro y r h
  unfold D9 at h
  split at h <;> first | (cases h; intro z hz; exact Option.some.inj hz) | cases h

noncomputable def F9 (N : Nat) : (Int × Int) → Option (Int)
  | (x0, x1) =>
  Option.bind (F32 N x1) fun y0 =>
  Option.bind (F34 N (y0, x0)) fun y1 =>
  Option.bind (F33 N (IntKind.wrap IntKind.u64 y1)) fun y2 =>
  if (decide (IntKind.wrap IntKind.i64 ((64 : Int) - y0) < (0 : Int))) = true then
    none
  else
    some (IntKind.wrap IntKind.i64 (Int.fdiv y2 ((2 : Int) ^ min (Int.toNat (IntKind.wrap IntKind.i64 ((64 : Int) - y0))) (64 : Nat))))

noncomputable def T9 (N : Nat) : Pk → Tr Pk := tell I9 (F9 N) O9

theorem F9_eq (N : Nat) (x0 : Int) (x1 : Int) : (fnEv (mkE Try.prog ownT (tab9 N) []) Try.f9 (J9 (x0, x1))).run D9 = F9 N (x0, x1) := by kernel_rfl

theorem T9_ok (N : Nat) : FOK Try.prog 9 (T9 N) :=
  tell_ok (E := (mkE Try.prog ownT (tab9 N) [])) (mkE_ok mix (tab9_ok N)) Try.func9 (show Try.f9.body = some (bod Try.f9) by kernel_rfl) (by decide +kernel) I9_ok D9_ok (args := A9) (fun _ => by kernel_rfl) (fun _ => by show 1 ≤ Try.f9.ntmps; exact of_decide_eq_true (by kernel_rfl)) (cutsIn_ok trivial) (fun x => match x with | (x0, x1) => F9_eq N x0 x1)

-- f17
/-! ## f17 -/

noncomputable def I17 : Pk → Option (Int × Int × Int × Int × (List Int))
  | ⟨[.adr 0 [], .agg [.v (.int .i64 x0), .v (.int .i64 x1)]], [some (.var (.agg [.sl 1 none, .v (.int .i64 x2), .v (.int .i64 x3)])), some (.row (Ty.int IntKind.u8) 5 x4)]⟩ => some (x0, x1, x2, x3, x4)
  | _ => none

noncomputable def J17 (x : Int × Int × Int × Int × (List Int)) : Pk := ⟨[.adr 0 [], .agg [.v (.int .i64 (x.1)), .v (.int .i64 (x.2.1))]], [some (.var (.agg [.sl 1 none, .v (.int .i64 (x.2.2.1)), .v (.int .i64 (x.2.2.2.1))])), some (.row (Ty.int IntKind.u8) 5 (x.2.2.2.2))]⟩

theorem I17_ok : ∀ pk x, I17 pk = some x → pk = J17 x := by
  intro pk x h
  unfold I17 at h
  split at h <;> first | (cases h; rfl) | cases h

noncomputable def A17 : List TV := [.adr 0 []]

noncomputable def tab17 (N : Nat) : List (Nat × (Pk → Tr Pk)) := [(9, T9 N), (10, T10 N)]

theorem tab17_ok (N : Nat) : TabOK Try.prog (tab17 N) := ⟨T9_ok N, ⟨T10_ok N, trivial⟩⟩

noncomputable def O17 (r : Int × Int × (List Int)) : Tr (Pk) := .ret ⟨[.tup []], [some (.var (.agg [.sl 1 (none), .v (.int .i64 (r.1)), .v (.int .i64 (r.2.1))])), some (.row (Ty.int IntKind.u8) 5 (r.2.2))]⟩

noncomputable def D17 : Pk → Option (Int × Int × (List Int))
  | ⟨[.tup []], [some (.var (.agg [.sl 1 (none), .v (.int .i64 x0), .v (.int .i64 x1)])), some (.row (Ty.int IntKind.u8) 5 x2)]⟩ => some ((x0, x1, x2))
  | _ => none

theorem D17_ok : ∀ y r, D17 y = some r → ∀ z, (O17 r).to z → y = z := by
  intro y r h
  unfold D17 at h
  split at h <;> first | (cases h; intro z hz; exact Option.some.inj hz) | cases h

noncomputable def F17 (N : Nat) : (Int × Int × Int × Int × (List Int)) → Option (Int × Int × (List Int))
  | (x0, x1, x2, x3, x4) =>
  Option.bind (F9 N (x0, x1)) fun y0 =>
  Option.bind (F10 N (x1, y0, x2, x3, x4)) fun y1 =>
  some ((Prod.fst y1, Prod.fst (Prod.snd y1), Prod.snd (Prod.snd y1)))

noncomputable def T17 (N : Nat) : Pk → Tr Pk := tell I17 (F17 N) O17

theorem F17_eq (N : Nat) (x0 : Int) (x1 : Int) (x2 : Int) (x3 : Int) (x4 : (List Int)) : (fnEv (mkE Try.prog ownT (tab17 N) []) Try.f17 (J17 (x0, x1, x2, x3, x4))).run D17 = F17 N (x0, x1, x2, x3, x4) := by kernel_rfl

theorem T17_ok (N : Nat) : FOK Try.prog 17 (T17 N) :=
  tell_ok (E := (mkE Try.prog ownT (tab17 N) [])) (mkE_ok mix (tab17_ok N)) Try.func17 (show Try.f17.body = some (bod Try.f17) by kernel_rfl) (by decide +kernel) I17_ok D17_ok (args := A17) (fun _ => by kernel_rfl) (fun _ => by show 2 ≤ Try.f17.ntmps; exact of_decide_eq_true (by kernel_rfl)) (cutsIn_ok trivial) (fun x => match x with | (x0, x1, x2, x3, x4) => F17_eq N x0 x1 x2 x3 x4)

-- f11
/-! ## f11 -/

noncomputable def I11 : Pk → Option (ByteArray)
  | ⟨[.v (.string x0)], []⟩ => some x0
  | _ => none

noncomputable def J11 (x : ByteArray) : Pk := ⟨[.v (.string (x))], []⟩

theorem I11_ok : ∀ pk x, I11 pk = some x → pk = J11 x := by
  intro pk x h
  unfold I11 at h
  split at h <;> first | (cases h; rfl) | cases h

noncomputable def A11 : List TV := []

noncomputable def tab11 (N : Nat) : List (Nat × (Pk → Tr Pk)) := []

theorem tab11_ok (N : Nat) : TabOK Try.prog (tab11 N) := trivial

noncomputable def O11 (r : ByteArray × Int × Int) : Tr (Pk) := .ret ⟨[.adr 0 []], [some (.var (.agg [.v (.string (r.1)), .v (.int .i64 (r.2.1)), .v (.int .i64 (r.2.2))]))]⟩

noncomputable def D11 : Pk → Option (ByteArray × Int × Int)
  | ⟨[.adr 0 []], [some (.var (.agg [.v (.string x0), .v (.int .i64 x1), .v (.int .i64 x2)]))]⟩ => some ((x0, x1, x2))
  | _ => none

theorem D11_ok : ∀ y r, D11 y = some r → ∀ z, (O11 r).to z → y = z := by
  intro y r h
  unfold D11 at h
  split at h <;> first | (cases h; intro z hz; exact Option.some.inj hz) | cases h

noncomputable def F11 (N : Nat) : (ByteArray) → Option (ByteArray × Int × Int)
  | x0 =>
  some ((x0, (0 : Int), (0 : Int)))

noncomputable def T11 (N : Nat) : Pk → Tr Pk := tell I11 (F11 N) O11

theorem F11_eq (N : Nat) (x0 : ByteArray) : (fnEv (mkE Try.prog ownT (tab11 N) []) Try.f11 (J11 x0)).run D11 = F11 N x0 := by kernel_rfl

theorem T11_ok (N : Nat) : FOK Try.prog 11 (T11 N) :=
  tell_ok (E := (mkE Try.prog ownT (tab11 N) [])) (mkE_ok mix (tab11_ok N)) Try.func11 (show Try.f11.body = some (bod Try.f11) by kernel_rfl) (by decide +kernel) I11_ok D11_ok (args := A11) (fun _ => by kernel_rfl) (fun _ => by show 1 ≤ Try.f11.ntmps; exact of_decide_eq_true (by kernel_rfl)) (cutsIn_ok trivial) (fun x => match x with | x0 => F11_eq N x0)

-- f12
/-! ## f12 -/

noncomputable def I12 : Pk → Option (Int × Int × (List Int))
  | ⟨[.adr 0 []], [some (.var (.agg [.sl 1 none, .v (.int .i64 x0), .v (.int .i64 x1)])), some (.row (Ty.int IntKind.u8) 5 x2)]⟩ => some (x0, x1, x2)
  | _ => none

noncomputable def J12 (x : Int × Int × (List Int)) : Pk := ⟨[.adr 0 []], [some (.var (.agg [.sl 1 none, .v (.int .i64 (x.1)), .v (.int .i64 (x.2.1))])), some (.row (Ty.int IntKind.u8) 5 (x.2.2))]⟩

theorem I12_ok : ∀ pk x, I12 pk = some x → pk = J12 x := by
  intro pk x h
  unfold I12 at h
  split at h <;> first | (cases h; rfl) | cases h

noncomputable def A12 : List TV := [.adr 0 []]

noncomputable def tab12 (N : Nat) : List (Nat × (Pk → Tr Pk)) := []

theorem tab12_ok (N : Nat) : TabOK Try.prog (tab12 N) := trivial

noncomputable def O12 (r : ByteArray × Int × Int × (List Int)) : Tr (Pk) := .ret ⟨[.v (.string (r.1))], [some (.var (.agg [.sl 1 (none), .v (.int .i64 (r.2.1)), .v (.int .i64 (r.2.2.1))])), some (.row (Ty.int IntKind.u8) 5 (r.2.2.2))]⟩

noncomputable def D12 : Pk → Option (ByteArray × Int × Int × (List Int))
  | ⟨[.v (.string x0)], [some (.var (.agg [.sl 1 (none), .v (.int .i64 x1), .v (.int .i64 x2)])), some (.row (Ty.int IntKind.u8) 5 x3)]⟩ => some ((x0, x1, x2, x3))
  | _ => none

theorem D12_ok : ∀ y r, D12 y = some r → ∀ z, (O12 r).to z → y = z := by
  intro y r h
  unfold D12 at h
  split at h <;> first | (cases h; intro z hz; exact Option.some.inj hz) | cases h

noncomputable def F12 (N : Nat) : (Int × Int × (List Int)) → Option (ByteArray × Int × Int × (List Int))
  | (x0, x1, x2) =>
  if (decide (x1 > (0 : Int))) = true then
    if (decide ((↑(ByteArray.size (stringOf x2) + ByteArray.size (stringOf [IntKind.wrap IntKind.u8 x0])) : Int) > (9223372036854775807 : Int))) = true then
      none
    else
      some ((stringOf x2 ++ stringOf [IntKind.wrap IntKind.u8 x0], x0, x1, x2))
  else
    some ((stringOf x2, x0, x1, x2))

noncomputable def T12 (N : Nat) : Pk → Tr Pk := tell I12 (F12 N) O12

theorem F12_eq (N : Nat) (x0 : Int) (x1 : Int) (x2 : (List Int)) : (fnEv (mkE Try.prog ownT (tab12 N) []) Try.f12 (J12 (x0, x1, x2))).run D12 = F12 N (x0, x1, x2) := by kernel_rfl

theorem T12_ok (N : Nat) : FOK Try.prog 12 (T12 N) :=
  tell_ok (E := (mkE Try.prog ownT (tab12 N) [])) (mkE_ok mix (tab12_ok N)) Try.func12 (show Try.f12.body = some (bod Try.f12) by kernel_rfl) (by decide +kernel) I12_ok D12_ok (args := A12) (fun _ => by kernel_rfl) (fun _ => by show 1 ≤ Try.f12.ntmps; exact of_decide_eq_true (by kernel_rfl)) (cutsIn_ok trivial) (fun x => match x with | (x0, x1, x2) => F12_eq N x0 x1 x2)

-- f14
/-! ## f14 -/

noncomputable def I14 : Pk → Option (Int × Int × (List Int))
  | ⟨[.adr 0 []], [some (.var (.agg [.sl 1 none, .v (.int .i64 x0), .v (.int .i64 x1)])), some (.row (Ty.int IntKind.u8) 5 x2)]⟩ => some (x0, x1, x2)
  | _ => none

noncomputable def J14 (x : Int × Int × (List Int)) : Pk := ⟨[.adr 0 []], [some (.var (.agg [.sl 1 none, .v (.int .i64 (x.1)), .v (.int .i64 (x.2.1))])), some (.row (Ty.int IntKind.u8) 5 (x.2.2))]⟩

theorem I14_ok : ∀ pk x, I14 pk = some x → pk = J14 x := by
  intro pk x h
  unfold I14 at h
  split at h <;> first | (cases h; rfl) | cases h

noncomputable def A14 : List TV := [.adr 0 []]

noncomputable def tab14 (N : Nat) : List (Nat × (Pk → Tr Pk)) := []

theorem tab14_ok (N : Nat) : TabOK Try.prog (tab14 N) := trivial

noncomputable def O14 (r : Int × Int × Int × (List Int)) : Tr (Pk) := .ret ⟨[.v (.int .i64 (r.1))], [some (.var (.agg [.sl 1 (none), .v (.int .i64 (r.2.1)), .v (.int .i64 (r.2.2.1))])), some (.row (Ty.int IntKind.u8) 5 (r.2.2.2))]⟩

noncomputable def D14 : Pk → Option (Int × Int × Int × (List Int))
  | ⟨[.v (.int .i64 x0)], [some (.var (.agg [.sl 1 (none), .v (.int .i64 x1), .v (.int .i64 x2)])), some (.row (Ty.int IntKind.u8) 5 x3)]⟩ => some ((x0, x1, x2, x3))
  | _ => none

theorem D14_ok : ∀ y r, D14 y = some r → ∀ z, (O14 r).to z → y = z := by
  intro y r h
  unfold D14 at h
  split at h <;> first | (cases h; intro z hz; exact Option.some.inj hz) | cases h

noncomputable def F14 (N : Nat) : (Int × Int × (List Int)) → Option (Int × Int × Int × (List Int))
  | (x0, x1, x2) =>
  some ((IntKind.wrap IntKind.i64 (IntKind.wrap IntKind.i64 ((8 : Int) * (↑(List.length x2) : Int)) + x1), x0, x1, x2))

noncomputable def T14 (N : Nat) : Pk → Tr Pk := tell I14 (F14 N) O14

theorem F14_eq (N : Nat) (x0 : Int) (x1 : Int) (x2 : (List Int)) : (fnEv (mkE Try.prog ownT (tab14 N) []) Try.f14 (J14 (x0, x1, x2))).run D14 = F14 N (x0, x1, x2) := by kernel_rfl

theorem T14_ok (N : Nat) : FOK Try.prog 14 (T14 N) :=
  tell_ok (E := (mkE Try.prog ownT (tab14 N) [])) (mkE_ok mix (tab14_ok N)) Try.func14 (show Try.f14.body = some (bod Try.f14) by kernel_rfl) (by decide +kernel) I14_ok D14_ok (args := A14) (fun _ => by kernel_rfl) (fun _ => by show 1 ≤ Try.f14.ntmps; exact of_decide_eq_true (by kernel_rfl)) (cutsIn_ok trivial) (fun x => match x with | (x0, x1, x2) => F14_eq N x0 x1 x2)

-- f30
/-! ## f30 -/

noncomputable def I30 : Pk → Option (ByteArray × Int × Int)
  | ⟨[.adr 0 []], [some (.var (.agg [.v (.string x0), .v (.int .i64 x1), .v (.int .i64 x2)]))]⟩ => some (x0, x1, x2)
  | _ => none

noncomputable def J30 (x : ByteArray × Int × Int) : Pk := ⟨[.adr 0 []], [some (.var (.agg [.v (.string (x.1)), .v (.int .i64 (x.2.1)), .v (.int .i64 (x.2.2))]))]⟩

theorem I30_ok : ∀ pk x, I30 pk = some x → pk = J30 x := by
  intro pk x h
  unfold I30 at h
  split at h <;> first | (cases h; rfl) | cases h

noncomputable def A30 : List TV := [.adr 0 []]

noncomputable def tab30 (N : Nat) : List (Nat × (Pk → Tr Pk)) := []

theorem tab30_ok (N : Nat) : TabOK Try.prog (tab30 N) := trivial

noncomputable def O30 (r : Int × ByteArray × Int × Int) : Tr (Pk) := .ret ⟨[.v (.int .i64 (r.1))], [some (.var (.agg [.v (.string (r.2.1)), .v (.int .i64 (r.2.2.1)), .v (.int .i64 (r.2.2.2))]))]⟩

noncomputable def D30 : Pk → Option (Int × ByteArray × Int × Int)
  | ⟨[.v (.int .i64 x0)], [some (.var (.agg [.v (.string x1), .v (.int .i64 x2), .v (.int .i64 x3)]))]⟩ => some ((x0, x1, x2, x3))
  | _ => none

theorem D30_ok : ∀ y r, D30 y = some r → ∀ z, (O30 r).to z → y = z := by
  intro y r h
  unfold D30 at h
  split at h <;> first | (cases h; intro z hz; exact Option.some.inj hz) | cases h

noncomputable def F30 (N : Nat) : (ByteArray × Int × Int) → Option (Int × ByteArray × Int × Int)
  | (x0, x1, x2) =>
  some ((IntKind.wrap IntKind.i64 (IntKind.wrap IntKind.i64 ((8 : Int) * (↑(ByteArray.size x0) : Int)) - x1), x0, x1, x2))

noncomputable def T30 (N : Nat) : Pk → Tr Pk := tell I30 (F30 N) O30

theorem F30_eq (N : Nat) (x0 : ByteArray) (x1 : Int) (x2 : Int) : (fnEv (mkE Try.prog ownT (tab30 N) []) Try.f30 (J30 (x0, x1, x2))).run D30 = F30 N (x0, x1, x2) := by kernel_rfl

theorem T30_ok (N : Nat) : FOK Try.prog 30 (T30 N) :=
  tell_ok (E := (mkE Try.prog ownT (tab30 N) [])) (mkE_ok mix (tab30_ok N)) Try.func30 (show Try.f30.body = some (bod Try.f30) by kernel_rfl) (by decide +kernel) I30_ok D30_ok (args := A30) (fun _ => by kernel_rfl) (fun _ => by show 1 ≤ Try.f30.ntmps; exact of_decide_eq_true (by kernel_rfl)) (cutsIn_ok trivial) (fun x => match x with | (x0, x1, x2) => F30_eq N x0 x1 x2)

-- f35
/-! ## f35 -/

noncomputable def I35 : Pk → Option (Int × ByteArray × Int × Int)
  | ⟨[.adr 0 [], .v (.int .i64 x0)], [some (.var (.agg [.v (.string x1), .v (.int .i64 x2), .v (.int .i64 x3)]))]⟩ => some (x0, x1, x2, x3)
  | _ => none

noncomputable def J35 (x : Int × ByteArray × Int × Int) : Pk := ⟨[.adr 0 [], .v (.int .i64 (x.1))], [some (.var (.agg [.v (.string (x.2.1)), .v (.int .i64 (x.2.2.1)), .v (.int .i64 (x.2.2.2))]))]⟩

theorem I35_ok : ∀ pk x, I35 pk = some x → pk = J35 x := by
  intro pk x h
  unfold I35 at h
  split at h <;> first | (cases h; rfl) | cases h

noncomputable def A35 : List TV := [.adr 0 []]

noncomputable def tab35 (N : Nat) : List (Nat × (Pk → Tr Pk)) := [(30, T30 N)]

theorem tab35_ok (N : Nat) : TabOK Try.prog (tab35 N) := ⟨T30_ok N, trivial⟩

noncomputable def O35 (r : Bool × ByteArray × Int × Int) : Tr (Pk) := .ret ⟨[.v (.bool (r.1))], [some (.var (.agg [.v (.string (r.2.1)), .v (.int .i64 (r.2.2.1)), .v (.int .i64 (r.2.2.2))]))]⟩

noncomputable def D35 : Pk → Option (Bool × ByteArray × Int × Int)
  | ⟨[.v (.bool x0)], [some (.var (.agg [.v (.string x1), .v (.int .i64 x2), .v (.int .i64 x3)]))]⟩ => some ((x0, x1, x2, x3))
  | _ => none

theorem D35_ok : ∀ y r, D35 y = some r → ∀ z, (O35 r).to z → y = z := by
  intro y r h
  unfold D35 at h
  split at h <;> first | (cases h; intro z hz; exact Option.some.inj hz) | cases h

noncomputable def F35 (N : Nat) : (Int × ByteArray × Int × Int) → Option (Bool × ByteArray × Int × Int)
  | (x0, x1, x2, x3) =>
  if (x3 == (0 : Int)) = true then
    Option.bind (F30 N (x1, x2, x3)) fun y0 =>
    if (decide (x0 > Prod.fst y0)) = true then
      some ((false, Prod.fst (Prod.snd y0), Prod.fst (Prod.snd (Prod.snd y0)), (2 : Int)))
    else
      some ((Prod.snd (Prod.snd (Prod.snd y0)) == (0 : Int), Prod.fst (Prod.snd y0), Prod.fst (Prod.snd (Prod.snd y0)), Prod.snd (Prod.snd (Prod.snd y0))))
  else
    some ((x3 == (0 : Int), x1, x2, x3))

noncomputable def T35 (N : Nat) : Pk → Tr Pk := tell I35 (F35 N) O35

theorem F35_eq (N : Nat) (x0 : Int) (x1 : ByteArray) (x2 : Int) (x3 : Int) : (fnEv (mkE Try.prog ownT (tab35 N) []) Try.f35 (J35 (x0, x1, x2, x3))).run D35 = F35 N (x0, x1, x2, x3) := by kernel_rfl

theorem T35_ok (N : Nat) : FOK Try.prog 35 (T35 N) :=
  tell_ok (E := (mkE Try.prog ownT (tab35 N) [])) (mkE_ok mix (tab35_ok N)) Try.func35 (show Try.f35.body = some (bod Try.f35) by kernel_rfl) (by decide +kernel) I35_ok D35_ok (args := A35) (fun _ => by kernel_rfl) (fun _ => by show 2 ≤ Try.f35.ntmps; exact of_decide_eq_true (by kernel_rfl)) (cutsIn_ok trivial) (fun x => match x with | (x0, x1, x2, x3) => F35_eq N x0 x1 x2 x3)

-- f13
/-! ## f13 -/

noncomputable def I13 : Pk → Option (Int × ByteArray × Int × Int)
  | ⟨[.adr 0 [], .v (.int .i64 x0)], [some (.var (.agg [.v (.string x1), .v (.int .i64 x2), .v (.int .i64 x3)]))]⟩ => some (x0, x1, x2, x3)
  | _ => none

noncomputable def J13 (x : Int × ByteArray × Int × Int) : Pk := ⟨[.adr 0 [], .v (.int .i64 (x.1))], [some (.var (.agg [.v (.string (x.2.1)), .v (.int .i64 (x.2.2.1)), .v (.int .i64 (x.2.2.2))]))]⟩

theorem I13_ok : ∀ pk x, I13 pk = some x → pk = J13 x := by
  intro pk x h
  unfold I13 at h
  split at h <;> first | (cases h; rfl) | cases h

noncomputable def A13 : List TV := [.adr 0 []]

noncomputable def tab13 (N : Nat) : List (Nat × (Pk → Tr Pk)) := [(32, T32 N), (35, T35 N)]

theorem tab13_ok (N : Nat) : TabOK Try.prog (tab13 N) := ⟨T32_ok N, ⟨T35_ok N, trivial⟩⟩

noncomputable def I13_250 : Pk → Option (Int × Int × Int × Int × ByteArray × Int × Int)
  | ⟨[.v (.int .i64 x0), .v (.int .i64 x1), .v (.int .i64 x2), .v (.int .i64 x3), .adr 0 []], [some (.var (.agg [.v (.string x4), .v (.int .i64 x5), .v (.int .i64 x6)]))]⟩ => some (x0, x1, x2, x3, x4, x5, x6)
  | _ => none

noncomputable def J13_250 (x : Int × Int × Int × Int × ByteArray × Int × Int) : Pk := ⟨[.v (.int .i64 (x.1)), .v (.int .i64 (x.2.1)), .v (.int .i64 (x.2.2.1)), .v (.int .i64 (x.2.2.2.1)), .adr 0 []], [some (.var (.agg [.v (.string (x.2.2.2.2.1)), .v (.int .i64 (x.2.2.2.2.2.1)), .v (.int .i64 (x.2.2.2.2.2.2))]))]⟩

theorem I13_250_ok : ∀ pk x, I13_250 pk = some x → pk = J13_250 x := by
  intro pk x h
  unfold I13_250 at h
  split at h <;> first | (cases h; rfl) | cases h

def X13_250 : Ex → List Nat
  | .ret => [4]
  | .exit 0 => [0, 1, 5]
  | _ => []

noncomputable def O13_250 (r : Int × Int × ByteArray × Int × Int) : Tr (Ex × Pk) := .ret (.exit 0, ⟨[.adr 0 [], .v (.int .i64 (r.1)), .v (.int .i64 (r.2.1))], [some (.var (.agg [.v (.string (r.2.2.1)), .v (.int .i64 (r.2.2.2.1)), .v (.int .i64 (r.2.2.2.2))]))]⟩)

noncomputable def D13_250 : Ex × Pk → Option (Int × Int × ByteArray × Int × Int)
  | (.exit 0, ⟨[.adr 0 [], .v (.int .i64 x0), .v (.int .i64 x1)], [some (.var (.agg [.v (.string x2), .v (.int .i64 x3), .v (.int .i64 x4)]))]⟩) => some ((x0, x1, x2, x3, x4))
  | _ => none

theorem D13_250_ok : ∀ y r, D13_250 y = some r → ∀ z, (O13_250 r).to z → y = z := by
  intro y r h
  unfold D13_250 at h
  split at h <;> first | (cases h; intro z hz; exact Option.some.inj hz) | cases h

noncomputable def B13_250 (N : Nat) (f : (Int × Int × Int × Int × ByteArray × Int × Int) → Option (Int × Int × ByteArray × Int × Int)) : (Int × Int × Int × Int × ByteArray × Int × Int) → Option (Int × Int × ByteArray × Int × Int)
  | (x0, x1, x2, x3, x4, x5, x6) =>
  if (decide (x1 < x2)) = true then
    if (decide ((0 : Int) ≤ IntKind.wrap IntKind.i64 (Int.tdiv (IntKind.wrap IntKind.i64 (x5 + x1)) (8 : Int)))) = true then
      Option.bind (x4[Int.toNat (IntKind.wrap IntKind.i64 (Int.tdiv (IntKind.wrap IntKind.i64 (x5 + x1)) (8 : Int)))]?) fun y0 =>
      if (decide (Int.tmod (IntKind.wrap IntKind.i64 (x5 + x1)) (8 : Int) < (0 : Int))) = true then
        none
      else
        if (decide (x1 < (0 : Int))) = true then
          none
        else
          Option.bind (f (IntKind.wrap IntKind.i64 (↑(BitVec.toNat (BitVec.ofInt (64 : Nat) x0 ||| BitVec.ofInt (64 : Nat) (IntKind.wrap IntKind.i64 (IntKind.wrap IntKind.i64 (↑(BitVec.toNat (BitVec.ofInt (64 : Nat) (Int.fdiv (IntKind.wrap IntKind.i64 (↑(UInt8.toNat y0) : Int)) ((2 : Int) ^ min (Int.toNat (Int.tmod (IntKind.wrap IntKind.i64 (x5 + x1)) (8 : Int))) (64 : Nat))) &&& BitVec.ofInt (64 : Nat) (1 : Int))) : Int) * (2 : Int) ^ min (Int.toNat x1) (64 : Nat))))) : Int), IntKind.wrap IntKind.i64 (x1 + (1 : Int)), x2, x3, x4, x5, x6)) fun r => some r
    else
      none
  else
    some ((x3, x0, x4, x5, x6))

noncomputable def F13_250 (N : Nat) : Nat → (Int × Int × Int × Int × ByteArray × Int × Int) → Option (Int × Int × ByteArray × Int × Int)
  | 0, _ => none
  | k + 1, x => B13_250 N (F13_250 N k) x

noncomputable def C13_250 (N k : Nat) : Cut := ⟨[5, 15, 14, 1, 0], X13_250, tellX I13_250 (F13_250 N k) O13_250⟩

theorem B13_250_eq (N : Nat) (f : (Int × Int × Int × Int × ByteArray × Int × Int) → Option (Int × Int × ByteArray × Int × Int)) (x0 : Int) (x1 : Int) (x2 : Int) (x3 : Int) (x4 : ByteArray) (x5 : Int) (x6 : Int) : (roundEv (mkE Try.prog ownT (tab13 N) []) Try.f13.ntmps A13 (loopAt (bod Try.f13) 250) 250 ⟨[5, 15, 14, 1, 0], X13_250, tellX I13_250 f O13_250⟩ (J13_250 (x0, x1, x2, x3, x4, x5, x6))).run D13_250 = B13_250 N f (x0, x1, x2, x3, x4, x5, x6) := by kernel_rfl

theorem C13_250_ok (N k : Nat) : ∀ c', At (bod Try.f13) 250 c' → CutOK Try.prog Try.f13.ntmps (idsL A13) c' (C13_250 N k) :=
  loop_ok (E := (mkE Try.prog ownT (tab13 N) [])) (mkE_ok mix (tab13_ok N)) (cutsIn_ok trivial) (fuel := 200) (by decide +kernel) (by kernel_rfl) I13_250_ok D13_250_ok (B13_250 N) (F13_250 N) (fun _ => rfl) (fun _ _ => rfl) (fun f x => match x with | (x0, x1, x2, x3, x4, x5, x6) => B13_250_eq N f x0 x1 x2 x3 x4 x5 x6) k

noncomputable def O13 (r : Int × ByteArray × Int × Int) : Tr (Pk) := .ret ⟨[.v (.int .i64 (r.1))], [some (.var (.agg [.v (.string (r.2.1)), .v (.int .i64 (r.2.2.1)), .v (.int .i64 (r.2.2.2))]))]⟩

noncomputable def D13 : Pk → Option (Int × ByteArray × Int × Int)
  | ⟨[.v (.int .i64 x0)], [some (.var (.agg [.v (.string x1), .v (.int .i64 x2), .v (.int .i64 x3)]))]⟩ => some ((x0, x1, x2, x3))
  | _ => none

theorem D13_ok : ∀ y r, D13 y = some r → ∀ z, (O13 r).to z → y = z := by
  intro y r h
  unfold D13 at h
  split at h <;> first | (cases h; intro z hz; exact Option.some.inj hz) | cases h

noncomputable def F13 (N : Nat) : (Int × ByteArray × Int × Int) → Option (Int × ByteArray × Int × Int)
  | (x0, x1, x2, x3) =>
  Option.bind (F32 N x0) fun y0 =>
  Option.bind (F35 N (y0, x1, x2, x3)) fun y1 =>
  if (!Prod.fst y1) = true then
    some (((0 : Int), Prod.fst (Prod.snd y1), Prod.fst (Prod.snd (Prod.snd y1)), Prod.snd (Prod.snd (Prod.snd y1))))
  else
    Option.bind (F13_250 N N ((0 : Int), (0 : Int), y0, y0, Prod.fst (Prod.snd y1), Prod.fst (Prod.snd (Prod.snd y1)), Prod.snd (Prod.snd (Prod.snd y1)))) fun y2 =>
    some ((Prod.fst (Prod.snd y2), Prod.fst (Prod.snd (Prod.snd y2)), IntKind.wrap IntKind.i64 (Prod.fst (Prod.snd (Prod.snd (Prod.snd y2))) + Prod.fst y2), Prod.snd (Prod.snd (Prod.snd (Prod.snd y2)))))

noncomputable def T13 (N : Nat) : Pk → Tr Pk := tell I13 (F13 N) O13

theorem F13_eq (N : Nat) (x0 : Int) (x1 : ByteArray) (x2 : Int) (x3 : Int) : (fnEv (mkE Try.prog ownT (tab13 N) [(250, C13_250 N N)]) Try.f13 (J13 (x0, x1, x2, x3))).run D13 = F13 N (x0, x1, x2, x3) := by kernel_rfl

theorem T13_ok (N : Nat) : FOK Try.prog 13 (T13 N) :=
  tell_ok (E := (mkE Try.prog ownT (tab13 N) [(250, C13_250 N N)])) (mkE_ok mix (tab13_ok N)) Try.func13 (show Try.f13.body = some (bod Try.f13) by kernel_rfl) (by decide +kernel) I13_ok D13_ok (args := A13) (fun _ => by kernel_rfl) (fun _ => by show 2 ≤ Try.f13.ntmps; exact of_decide_eq_true (by kernel_rfl)) (cutsIn_ok ⟨C13_250_ok N N, trivial⟩) (fun x => match x with | (x0, x1, x2, x3) => F13_eq N x0 x1 x2 x3)

-- f31
/-! ## f31 -/

noncomputable def I31 : Pk → Option (ByteArray × Int × Int)
  | ⟨[.adr 0 []], [some (.var (.agg [.v (.string x0), .v (.int .i64 x1), .v (.int .i64 x2)]))]⟩ => some (x0, x1, x2)
  | _ => none

noncomputable def J31 (x : ByteArray × Int × Int) : Pk := ⟨[.adr 0 []], [some (.var (.agg [.v (.string (x.1)), .v (.int .i64 (x.2.1)), .v (.int .i64 (x.2.2))]))]⟩

theorem I31_ok : ∀ pk x, I31 pk = some x → pk = J31 x := by
  intro pk x h
  unfold I31 at h
  split at h <;> first | (cases h; rfl) | cases h

noncomputable def A31 : List TV := [.adr 0 []]

noncomputable def tab31 (N : Nat) : List (Nat × (Pk → Tr Pk)) := []

theorem tab31_ok (N : Nat) : TabOK Try.prog (tab31 N) := trivial

noncomputable def O31 (r : Int × ByteArray × Int × Int) : Tr (Pk) := .ret ⟨[.v (.int .i64 (r.1))], [some (.var (.agg [.v (.string (r.2.1)), .v (.int .i64 (r.2.2.1)), .v (.int .i64 (r.2.2.2))]))]⟩

noncomputable def D31 : Pk → Option (Int × ByteArray × Int × Int)
  | ⟨[.v (.int .i64 x0)], [some (.var (.agg [.v (.string x1), .v (.int .i64 x2), .v (.int .i64 x3)]))]⟩ => some ((x0, x1, x2, x3))
  | _ => none

theorem D31_ok : ∀ y r, D31 y = some r → ∀ z, (O31 r).to z → y = z := by
  intro y r h
  unfold D31 at h
  split at h <;> first | (cases h; intro z hz; exact Option.some.inj hz) | cases h

noncomputable def F31 (N : Nat) : (ByteArray × Int × Int) → Option (Int × ByteArray × Int × Int)
  | (x0, x1, x2) =>
  some ((x2, x0, x1, x2))

noncomputable def T31 (N : Nat) : Pk → Tr Pk := tell I31 (F31 N) O31

theorem F31_eq (N : Nat) (x0 : ByteArray) (x1 : Int) (x2 : Int) : (fnEv (mkE Try.prog ownT (tab31 N) []) Try.f31 (J31 (x0, x1, x2))).run D31 = F31 N (x0, x1, x2) := by kernel_rfl

theorem T31_ok (N : Nat) : FOK Try.prog 31 (T31 N) :=
  tell_ok (E := (mkE Try.prog ownT (tab31 N) [])) (mkE_ok mix (tab31_ok N)) Try.func31 (show Try.f31.body = some (bod Try.f31) by kernel_rfl) (by decide +kernel) I31_ok D31_ok (args := A31) (fun _ => by kernel_rfl) (fun _ => by show 1 ≤ Try.f31.ntmps; exact of_decide_eq_true (by kernel_rfl)) (cutsIn_ok trivial) (fun x => match x with | (x0, x1, x2) => F31_eq N x0 x1 x2)

-- f8
/-! ## f8 -/

noncomputable def I8 : Pk → Option (Unit)
  | ⟨[], []⟩ => some ()
  | _ => none

noncomputable def J8 (x : Unit) : Pk := ⟨[], []⟩

theorem I8_ok : ∀ pk x, I8 pk = some x → pk = J8 x := by
  intro pk x h
  unfold I8 at h
  split at h <;> first | (cases h; rfl) | cases h

noncomputable def A8 : List TV := []

noncomputable def tab8 (N : Nat) : List (Nat × (Pk → Tr Pk)) := [(10, T10 N), (17, T17 N), (11, T11 N), (12, T12 N), (14, T14 N), (13, T13 N), (30, T30 N), (31, T31 N)]

theorem tab8_ok (N : Nat) : TabOK Try.prog (tab8 N) := ⟨T10_ok N, ⟨T17_ok N, ⟨T11_ok N, ⟨T12_ok N, ⟨T14_ok N, ⟨T13_ok N, ⟨T30_ok N, ⟨T31_ok N, trivial⟩⟩⟩⟩⟩⟩⟩⟩

noncomputable def O8 (r : Bool) : Tr (Pk) := .ret ⟨[.v (.bool (r))], []⟩

noncomputable def D8 : Pk → Option (Bool)
  | ⟨[.v (.bool x0)], []⟩ => some (x0)
  | _ => none

theorem D8_ok : ∀ y r, D8 y = some r → ∀ z, (O8 r).to z → y = z := by
  intro y r h
  unfold D8 at h
  split at h <;> first | (cases h; intro z hz; exact Option.some.inj hz) | cases h

noncomputable def F8 (N : Nat) : (Unit) → Option (Bool)
  | () =>
  Option.bind (F10 N ((3 : Int), (5 : Int), (0 : Int), (0 : Int), [])) fun y0 =>
  Option.bind (F10 N ((2 : Int), (1 : Int), Prod.fst y0, Prod.fst (Prod.snd y0), Prod.snd (Prod.snd y0))) fun y1 =>
  Option.bind (F17 N ((6 : Int), (3 : Int), (0 : Int), (0 : Int), [])) fun y2 =>
  Option.bind (F11 N (ByteArray.mk #[(13 : UInt8)])) fun y3 =>
  Option.bind (F12 N (Prod.fst y1, Prod.fst (Prod.snd y1), Prod.snd (Prod.snd y1))) fun y4 =>
  if (ByteArray.toList (Prod.fst y4) == [Subtype.val (Subtype.mk (ByteArray.get! (ByteArray.mk #[(13 : UInt8)]) (0 : Nat)) (And.left (Iff.mp List.forall_mem_cons (List.attach._proof_1 [ByteArray.get! (ByteArray.mk #[(13 : UInt8)]) (0 : Nat)]))))]) = true then
    Option.bind (F14 N (Prod.fst (Prod.snd y4), Prod.fst (Prod.snd (Prod.snd y4)), Prod.snd (Prod.snd (Prod.snd y4)))) fun y5 =>
    if (Prod.fst y5 == (5 : Int)) = true then
      Option.bind (F12 N (Prod.fst y2, Prod.fst (Prod.snd y2), Prod.snd (Prod.snd y2))) fun y6 =>
      if (ByteArray.toList (Prod.fst y6) == [Subtype.val (Subtype.mk (ByteArray.get! (ByteArray.mk #[(3 : UInt8)]) (0 : Nat)) (And.left (Iff.mp List.forall_mem_cons (List.attach._proof_1 [ByteArray.get! (ByteArray.mk #[(3 : UInt8)]) (0 : Nat)]))))]) = true then
        Option.bind (F13 N ((3 : Int), Prod.fst y3, Prod.fst (Prod.snd y3), Prod.snd (Prod.snd y3))) fun y7 =>
        if (Prod.fst y7 == (5 : Int)) = true then
          Option.bind (F13 N ((2 : Int), Prod.fst (Prod.snd y7), Prod.fst (Prod.snd (Prod.snd y7)), Prod.snd (Prod.snd (Prod.snd y7)))) fun y8 =>
          if (Prod.fst y8 == (1 : Int)) = true then
            Option.bind (F30 N (Prod.fst (Prod.snd y8), Prod.fst (Prod.snd (Prod.snd y8)), Prod.snd (Prod.snd (Prod.snd y8)))) fun y9 =>
            if (Prod.fst y9 == (3 : Int)) = true then
              Option.bind (F13 N ((4 : Int), Prod.fst (Prod.snd y9), Prod.fst (Prod.snd (Prod.snd y9)), Prod.snd (Prod.snd (Prod.snd y9)))) fun y10 =>
              if (Prod.fst y10 == (0 : Int)) = true then
                Option.bind (F31 N (Prod.fst (Prod.snd y10), Prod.fst (Prod.snd (Prod.snd y10)), Prod.snd (Prod.snd (Prod.snd y10)))) fun y11 =>
                some (Prod.fst y11 == (2 : Int))
              else
                some (false)
            else
              some (false)
          else
            some (false)
        else
          some (false)
      else
        some (false)
    else
      some (false)
  else
    some (false)

noncomputable def T8 (N : Nat) : Pk → Tr Pk := tell I8 (F8 N) O8

theorem F8_eq (N : Nat)  : (fnEv (mkE Try.prog ownT (tab8 N) []) Try.f8 (J8 ())).run D8 = F8 N () := by kernel_rfl

theorem T8_ok (N : Nat) : FOK Try.prog 8 (T8 N) :=
  tell_ok (E := (mkE Try.prog ownT (tab8 N) [])) (mkE_ok mix (tab8_ok N)) Try.func8 (show Try.f8.body = some (bod Try.f8) by kernel_rfl) (by decide +kernel) I8_ok D8_ok (args := A8) (fun _ => by kernel_rfl) (fun _ => by show 0 ≤ Try.f8.ntmps; exact of_decide_eq_true (by kernel_rfl)) (cutsIn_ok trivial) (fun x => match x with | () => F8_eq N )

-- f3
/-! ## f3 -/

noncomputable def I3 : Pk → Option (Int × Int × Int)
  | ⟨[.agg [.v (.int .i64 x0), .v (.int .i64 x1)], .v (.int .i64 x2)], []⟩ => some (x0, x1, x2)
  | _ => none

noncomputable def J3 (x : Int × Int × Int) : Pk := ⟨[.agg [.v (.int .i64 (x.1)), .v (.int .i64 (x.2.1))], .v (.int .i64 (x.2.2))], []⟩

theorem I3_ok : ∀ pk x, I3 pk = some x → pk = J3 x := by
  intro pk x h
  unfold I3 at h
  split at h <;> first | (cases h; rfl) | cases h

noncomputable def A3 : List TV := []

noncomputable def tab3 (N : Nat) : List (Nat × (Pk → Tr Pk)) := [(8, T8 N), (9, T9 N)]

theorem tab3_ok (N : Nat) : TabOK Try.prog (tab3 N) := ⟨T8_ok N, ⟨T9_ok N, trivial⟩⟩

noncomputable def O3 (r : Bool) : Tr (Pk) := .ret ⟨[.v (.bool (r))], []⟩

noncomputable def D3 : Pk → Option (Bool)
  | ⟨[.v (.bool x0)], []⟩ => some (x0)
  | _ => none

theorem D3_ok : ∀ y r, D3 y = some r → ∀ z, (O3 r).to z → y = z := by
  intro y r h
  unfold D3 at h
  split at h <;> first | (cases h; intro z hz; exact Option.some.inj hz) | cases h

noncomputable def F3 (N : Nat) : (Int × Int × Int) → Option (Bool)
  | (x0, x1, x2) =>
  Option.bind (F8 N ()) fun y0 =>
  if (!y0) = true then
    some (false)
  else
    Option.bind (F9 N (x0, x1)) fun y1 =>
    Option.bind (F9 N (y1, x1)) fun y2 =>
    if (decide ((if (32 : Int) < if (0 : Int) > x1 then (0 : Int) else x1 then (32 : Int) else if (0 : Int) > x1 then (0 : Int) else x1) < (0 : Int))) = true then
      none
    else
      if (y2 != IntKind.wrap IntKind.i64 (↑(BitVec.toNat (BitVec.ofInt (64 : Nat) x0 &&& BitVec.ofInt (64 : Nat) (IntKind.wrap IntKind.i64 (IntKind.wrap IntKind.i64 ((1 : Int) * (2 : Int) ^ min (Int.toNat (if (32 : Int) < if (0 : Int) > x1 then (0 : Int) else x1 then (32 : Int) else if (0 : Int) > x1 then (0 : Int) else x1)) (64 : Nat)) - (1 : Int))))) : Int)) = true then
        some (false)
      else
        if (decide (y1 < (0 : Int))) = true then
          some (false)
        else
          if (decide ((if (32 : Int) < if (0 : Int) > x1 then (0 : Int) else x1 then (32 : Int) else if (0 : Int) > x1 then (0 : Int) else x1) < (0 : Int))) = true then
            none
          else
            if (decide (y1 ≥ IntKind.wrap IntKind.i64 ((1 : Int) * (2 : Int) ^ min (Int.toNat (if (32 : Int) < if (0 : Int) > x1 then (0 : Int) else x1 then (32 : Int) else if (0 : Int) > x1 then (0 : Int) else x1)) (64 : Nat)))) = true then
              some (false)
            else
              if (decide (x2 < (0 : Int))) = true then
                some (y0)
              else
                if (decide (x2 ≥ if (32 : Int) < if (0 : Int) > x1 then (0 : Int) else x1 then (32 : Int) else if (0 : Int) > x1 then (0 : Int) else x1)) = true then
                  some (y0)
                else
                  if (y0) = true then
                    if (decide (x2 < (0 : Int))) = true then
                      none
                    else
                      if (decide (IntKind.wrap IntKind.i64 (IntKind.wrap IntKind.i64 ((if (32 : Int) < if (0 : Int) > x1 then (0 : Int) else x1 then (32 : Int) else if (0 : Int) > x1 then (0 : Int) else x1) - (1 : Int)) - x2) < (0 : Int))) = true then
                        none
                      else
                        some (IntKind.wrap IntKind.i64 (↑(BitVec.toNat (BitVec.ofInt (64 : Nat) (Int.fdiv y1 ((2 : Int) ^ min (Int.toNat x2) (64 : Nat))) &&& BitVec.ofInt (64 : Nat) (1 : Int))) : Int) == IntKind.wrap IntKind.i64 (↑(BitVec.toNat (BitVec.ofInt (64 : Nat) (Int.fdiv x0 ((2 : Int) ^ min (Int.toNat (IntKind.wrap IntKind.i64 (IntKind.wrap IntKind.i64 ((if (32 : Int) < if (0 : Int) > x1 then (0 : Int) else x1 then (32 : Int) else if (0 : Int) > x1 then (0 : Int) else x1) - (1 : Int)) - x2))) (64 : Nat))) &&& BitVec.ofInt (64 : Nat) (1 : Int))) : Int))
                  else
                    some (false)

noncomputable def T3 (N : Nat) : Pk → Tr Pk := tell I3 (F3 N) O3

theorem F3_eq (N : Nat) (x0 : Int) (x1 : Int) (x2 : Int) : (fnEv (mkE Try.prog ownT (tab3 N) []) Try.f3 (J3 (x0, x1, x2))).run D3 = F3 N (x0, x1, x2) := by kernel_rfl

theorem T3_ok (N : Nat) : FOK Try.prog 3 (T3 N) :=
  tell_ok (E := (mkE Try.prog ownT (tab3 N) [])) (mkE_ok mix (tab3_ok N)) Try.func3 (show Try.f3.body = some (bod Try.f3) by kernel_rfl) (by decide +kernel) I3_ok D3_ok (args := A3) (fun _ => by kernel_rfl) (fun _ => by show 2 ≤ Try.f3.ntmps; exact of_decide_eq_true (by kernel_rfl)) (cutsIn_ok trivial) (fun x => match x with | (x0, x1, x2) => F3_eq N x0 x1 x2)

-- f4
/-! ## f4 -/

noncomputable def I4 : Pk → Option (Int × Int × Int × Int)
  | ⟨[.v (.int .i64 x0), .v (.int .i64 x1), .v (.int .i64 x2), .v (.int .i64 x3)], []⟩ => some (x0, x1, x2, x3)
  | _ => none

noncomputable def J4 (x : Int × Int × Int × Int) : Pk := ⟨[.v (.int .i64 (x.1)), .v (.int .i64 (x.2.1)), .v (.int .i64 (x.2.2.1)), .v (.int .i64 (x.2.2.2))], []⟩

theorem I4_ok : ∀ pk x, I4 pk = some x → pk = J4 x := by
  intro pk x h
  unfold I4 at h
  split at h <;> first | (cases h; rfl) | cases h

noncomputable def A4 : List TV := []

noncomputable def tab4 (N : Nat) : List (Nat × (Pk → Tr Pk)) := [(8, T8 N), (10, T10 N), (12, T12 N), (11, T11 N), (13, T13 N), (14, T14 N)]

theorem tab4_ok (N : Nat) : TabOK Try.prog (tab4 N) := ⟨T8_ok N, ⟨T10_ok N, ⟨T12_ok N, ⟨T11_ok N, ⟨T13_ok N, ⟨T14_ok N, trivial⟩⟩⟩⟩⟩⟩

noncomputable def O4 (r : Bool) : Tr (Pk) := .ret ⟨[.v (.bool (r))], []⟩

noncomputable def D4 : Pk → Option (Bool)
  | ⟨[.v (.bool x0)], []⟩ => some (x0)
  | _ => none

theorem D4_ok : ∀ y r, D4 y = some r → ∀ z, (O4 r).to z → y = z := by
  intro y r h
  unfold D4 at h
  split at h <;> first | (cases h; intro z hz; exact Option.some.inj hz) | cases h

noncomputable def F4 (N : Nat) : (Int × Int × Int × Int) → Option (Bool)
  | (x0, x1, x2, x3) =>
  Option.bind (F8 N ()) fun y0 =>
  if (!y0) = true then
    some (false)
  else
    if (decide (x1 < (0 : Int))) = true then
      some (y0)
    else
      if (decide (x2 < (0 : Int))) = true then
        some (y0)
      else
        if (decide (x1 > (32 : Int))) = true then
          some (y0)
        else
          if (decide (x2 > IntKind.wrap IntKind.i64 ((32 : Int) - x1))) = true then
            some (y0)
          else
            Option.bind (F10 N (x3, (0 : Int), (0 : Int), (0 : Int), [])) fun y1 =>
            Option.bind (F10 N (x3, (0 : Int), (0 : Int), (0 : Int), [])) fun y2 =>
            Option.bind (F10 N (x1, x0, Prod.fst y1, Prod.fst (Prod.snd y1), Prod.snd (Prod.snd y1))) fun y3 =>
            if (decide (x1 < (0 : Int))) = true then
              none
            else
              Option.bind (F10 N (x2, Int.fdiv x0 ((2 : Int) ^ min (Int.toNat x1) (64 : Nat)), Prod.fst y3, Prod.fst (Prod.snd y3), Prod.snd (Prod.snd y3))) fun y4 =>
              Option.bind (F10 N (IntKind.wrap IntKind.i64 (x1 + x2), x0, Prod.fst y2, Prod.fst (Prod.snd y2), Prod.snd (Prod.snd y2))) fun y5 =>
              Option.bind (F12 N (Prod.fst y4, Prod.fst (Prod.snd y4), Prod.snd (Prod.snd y4))) fun y6 =>
              Option.bind (F11 N (Prod.fst y6)) fun y7 =>
              Option.bind (F13 N (x3, Prod.fst y7, Prod.fst (Prod.snd y7), Prod.snd (Prod.snd y7))) fun y8 =>
              Option.bind (F13 N (x1, Prod.fst (Prod.snd y8), Prod.fst (Prod.snd (Prod.snd y8)), Prod.snd (Prod.snd (Prod.snd y8)))) fun y9 =>
              Option.bind (F13 N (x2, Prod.fst (Prod.snd y9), Prod.fst (Prod.snd (Prod.snd y9)), Prod.snd (Prod.snd (Prod.snd y9)))) fun y10 =>
              if (y0) = true then
                Option.bind (F12 N (Prod.fst (Prod.snd y6), Prod.fst (Prod.snd (Prod.snd y6)), Prod.snd (Prod.snd (Prod.snd y6)))) fun y11 =>
                Option.bind (F12 N (Prod.fst y5, Prod.fst (Prod.snd y5), Prod.snd (Prod.snd y5))) fun y12 =>
                if (ByteArray.toList (Prod.fst y11) == ByteArray.toList (Prod.fst y12)) = true then
                  Option.bind (F14 N (Prod.fst (Prod.snd y11), Prod.fst (Prod.snd (Prod.snd y11)), Prod.snd (Prod.snd (Prod.snd y11)))) fun y13 =>
                  Option.bind (F14 N (Prod.fst (Prod.snd y12), Prod.fst (Prod.snd (Prod.snd y12)), Prod.snd (Prod.snd (Prod.snd y12)))) fun y14 =>
                  if (Prod.fst y13 == Prod.fst y14) = true then
                    if (decide (x1 < (0 : Int))) = true then
                      none
                    else
                      if (decide (IntKind.wrap IntKind.i64 (x1 + x2) < (0 : Int))) = true then
                        none
                      else
                        some (IntKind.wrap IntKind.i64 (↑(BitVec.toNat (BitVec.ofInt (64 : Nat) (Prod.fst y9) ||| BitVec.ofInt (64 : Nat) (IntKind.wrap IntKind.i64 (Prod.fst y10 * (2 : Int) ^ min (Int.toNat x1) (64 : Nat))))) : Int) == IntKind.wrap IntKind.i64 (↑(BitVec.toNat (BitVec.ofInt (64 : Nat) x0 &&& BitVec.ofInt (64 : Nat) (IntKind.wrap IntKind.i64 (IntKind.wrap IntKind.i64 ((1 : Int) * (2 : Int) ^ min (Int.toNat (IntKind.wrap IntKind.i64 (x1 + x2))) (64 : Nat)) - (1 : Int))))) : Int))
                  else
                    some (false)
                else
                  some (false)
              else
                some (false)

noncomputable def T4 (N : Nat) : Pk → Tr Pk := tell I4 (F4 N) O4

theorem F4_eq (N : Nat) (x0 : Int) (x1 : Int) (x2 : Int) (x3 : Int) : (fnEv (mkE Try.prog ownT (tab4 N) []) Try.f4 (J4 (x0, x1, x2, x3))).run D4 = F4 N (x0, x1, x2, x3) := by kernel_rfl

theorem T4_ok (N : Nat) : FOK Try.prog 4 (T4 N) :=
  tell_ok (E := (mkE Try.prog ownT (tab4 N) [])) (mkE_ok mix (tab4_ok N)) Try.func4 (show Try.f4.body = some (bod Try.f4) by kernel_rfl) (by decide +kernel) I4_ok D4_ok (args := A4) (fun _ => by kernel_rfl) (fun _ => by show 4 ≤ Try.f4.ntmps; exact of_decide_eq_true (by kernel_rfl)) (cutsIn_ok trivial) (fun x => match x with | (x0, x1, x2, x3) => F4_eq N x0 x1 x2 x3)


end Go.Proofs.Ytgdacmcapbbilaa.Am
