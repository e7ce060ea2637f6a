/- The seat's Go functions come to the Lean functions written here, wherever these give an answer. -/
import Derived.Test.YtgdacmcapbbilaaAmC
import Derived.KernelRfl
import Derived.Test.YtgdacmcapbbilaaProg
set_option linter.unusedVariables false
set_option maxRecDepth 100000
namespace Go.Proofs.Ytgdacmcapbbilaa.Am
open Go.Am

theorem mix : Try.prog.follows .mixedOrders = true := by kernel_rfl

def ownT : FuncId → List Nat := ownL [(12, [2]), (14, [2]), (20, [1]), (29, [2]), (30, [2]), (31, [2]), (38, [2]), (39, [2])]

/-! ## f32: mirador/bitio.count -/

noncomputable def I32 : Pk → Option (Int)
  | ⟨[.v (.int .i64 x0)], []⟩ => some x0
  | _ => none

noncomputable def J32 (x : Int) : Pk := ⟨[.v (.int .i64 (x))], []⟩

theorem I32_ok : ∀ pk x, I32 pk = some x → pk = J32 x := by
  intro pk x h
  unfold I32 at h
  split at h <;> first | (cases h; rfl) | cases h

noncomputable def A32 : List TV := []

noncomputable def tab32 (N : Nat) : List (Nat × (Pk → Tr Pk)) := []

theorem tab32_ok (N : Nat) : TabOK Try.prog (tab32 N) := trivial

noncomputable def O32 (r : Int) : Tr (Pk) := .ret ⟨[.v (.int .i64 (r))], []⟩

noncomputable def D32 : Pk → Option (Int)
  | ⟨[.v (.int .i64 x0)], []⟩ => some (x0)
  | _ => none

theorem D32_ok : ∀ y r, D32 y = some r → ∀ z, (O32 r).to z → y = z := by
  intro y r h
  unfold D32 at h
  split at h <;> first | (cases h; intro z hz; exact Option.some.inj hz) | cases h

noncomputable def F32 (N : Nat) : (Int) → Option (Int)
  | x0 =>
  some (if (32 : Int) < if (0 : Int) > x0 then (0 : Int) else x0 then (32 : Int) else if (0 : Int) > x0 then (0 : Int) else x0)

theorem F32_eq (N : Nat) (x0 : Int) : (fnEv (mkE Try.prog ownT (tab32 N) []) Try.f32 (J32 x0)).run D32 = F32 N x0 := by kernel_rfl

noncomputable def T32 (N : Nat) : Pk → Tr Pk := tell I32 (F32 N) O32

theorem T32_ok (N : Nat) : FOK Try.prog 32 (T32 N) :=
  tell_ok (E := (mkE Try.prog ownT (tab32 N) [])) (mkE_ok mix (tab32_ok N)) Try.func32 (show Try.f32.body = some (bod Try.f32) by kernel_rfl) (by decide +kernel) I32_ok D32_ok (args := A32) (fun _ => by kernel_rfl) (fun _ => by show 1 ≤ Try.f32.ntmps; exact of_decide_eq_true (by kernel_rfl)) (cutsIn_ok trivial) (fun x => match x with | x0 => F32_eq N x0)

/-! ## f34: mirador/bitio.low -/

noncomputable def I34 : Pk → Option (Int × Int)
  | ⟨[.v (.int .i64 x0), .v (.int .i64 x1)], []⟩ => some (x0, x1)
  | _ => none

noncomputable def J34 (x : Int × Int) : Pk := ⟨[.v (.int .i64 (x.1)), .v (.int .i64 (x.2))], []⟩

theorem I34_ok : ∀ pk x, I34 pk = some x → pk = J34 x := by
  intro pk x h
  unfold I34 at h
  split at h <;> first | (cases h; rfl) | cases h

noncomputable def A34 : List TV := []

noncomputable def tab34 (N : Nat) : List (Nat × (Pk → Tr Pk)) := []

theorem tab34_ok (N : Nat) : TabOK Try.prog (tab34 N) := trivial

noncomputable def O34 (r : Int) : Tr (Pk) := .ret ⟨[.v (.int .i64 (r))], []⟩

noncomputable def D34 : Pk → Option (Int)
  | ⟨[.v (.int .i64 x0)], []⟩ => some (x0)
  | _ => none

theorem D34_ok : ∀ y r, D34 y = some r → ∀ z, (O34 r).to z → y = z := by
  intro y r h
  unfold D34 at h
  split at h <;> first | (cases h; intro z hz; exact Option.some.inj hz) | cases h

noncomputable def F34 (N : Nat) : (Int × Int) → Option (Int)
  | (x0, x1) =>
  if (decide (x0 < (0 : Int))) = true then
    none
  else
    some (IntKind.wrap IntKind.i64 (↑(BitVec.toNat (BitVec.ofInt (64 : Nat) x1 &&& BitVec.ofInt (64 : Nat) (IntKind.wrap IntKind.i64 (IntKind.wrap IntKind.i64 ((1 : Int) * (2 : Int) ^ min (Int.toNat x0) (64 : Nat)) - (1 : Int))))) : Int))

theorem F34_eq (N : Nat) (x0 : Int) (x1 : Int) : (fnEv (mkE Try.prog ownT (tab34 N) []) Try.f34 (J34 (x0, x1))).run D34 = F34 N (x0, x1) := by kernel_rfl

noncomputable def T34 (N : Nat) : Pk → Tr Pk := tell I34 (F34 N) O34

theorem T34_ok (N : Nat) : FOK Try.prog 34 (T34 N) :=
  tell_ok (E := (mkE Try.prog ownT (tab34 N) [])) (mkE_ok mix (tab34_ok N)) Try.func34 (show Try.f34.body = some (bod Try.f34) by kernel_rfl) (by decide +kernel) I34_ok D34_ok (args := A34) (fun _ => by kernel_rfl) (fun _ => by show 2 ≤ Try.f34.ntmps; exact of_decide_eq_true (by kernel_rfl)) (cutsIn_ok trivial) (fun x => match x with | (x0, x1) => F34_eq N x0 x1)

/-! ## f10: (*mirador/bitio.Writer).Bits -/

noncomputable def I10 : Pk → Option (Int × Int × Int × Int × (List Int))
  | ⟨[.adr 0 [], .v (.int .i64 x0), .v (.int .i64 x1)], [some (.var (.agg [.sl 1 none, .v (.int .i64 x2), .v (.int .i64 x3)])), some (.row (.int .u8) 5 x4)]⟩ => some (x0, x1, x2, x3, x4)
  | _ => none

noncomputable def J10 (x : Int × Int × Int × Int × (List Int)) : Pk := ⟨[.adr 0 [], .v (.int .i64 (x.1)), .v (.int .i64 (x.2.1))], [some (.var (.agg [.sl 1 none, .v (.int .i64 (x.2.2.1)), .v (.int .i64 (x.2.2.2.1))])), some (.row (.int .u8) 5 (x.2.2.2.2))]⟩

theorem I10_ok : ∀ pk x, I10 pk = some x → pk = J10 x := by
  intro pk x h
  unfold I10 at h
  split at h <;> first | (cases h; rfl) | cases h

noncomputable def A10 : List TV := [.adr 0 []]

noncomputable def tab10 (N : Nat) : List (Nat × (Pk → Tr Pk)) := [(32, T32 N), (34, T34 N)]

theorem tab10_ok (N : Nat) : TabOK Try.prog (tab10 N) := ⟨T32_ok N, ⟨T34_ok N, trivial⟩⟩

def X10_30 : Ex → List Nat
  | .ret => []
  | .exit 0 => []
  | _ => []

noncomputable def I10_30 : Pk → Option (Int × Int × (List Int))
  | ⟨[.adr 0 []], [some (.var (.agg [.sl 1 (none), .v (.int .i64 x0), .v (.int .i64 x1)])), some (.row (Ty.int IntKind.u8) 5 x2)]⟩ => some (x0, x1, x2)
  | _ => none

noncomputable def J10_30 (x : Int × Int × (List Int)) : Pk := ⟨[.adr 0 []], [some (.var (.agg [.sl 1 (none), .v (.int .i64 (x.1)), .v (.int .i64 (x.2.1))])), some (.row (Ty.int IntKind.u8) 5 (x.2.2))]⟩

theorem I10_30_ok : ∀ pk x, I10_30 pk = some x → pk = J10_30 x := by
  intro pk x h
  unfold I10_30 at h
  split at h <;> first | (cases h; rfl) | cases h

noncomputable def O10_30 (r : Int × Int × (List Int)) : Tr (Ex × Pk) := .ret (.exit 0, ⟨[], [some (.var (.agg [.sl 1 (none), .v (.int .i64 (r.1)), .v (.int .i64 (r.2.1))])), some (.row (Ty.int IntKind.u8) 5 (r.2.2))]⟩)

noncomputable def D10_30 : Ex × Pk → Option (Int × Int × (List Int))
  | (.exit 0, ⟨[], [some (.var (.agg [.sl 1 (none), .v (.int .i64 x0), .v (.int .i64 x1)])), some (.row (Ty.int IntKind.u8) 5 x2)]⟩) => some ((x0, x1, x2))
  | _ => none

theorem D10_30_ok : ∀ y r, D10_30 y = some r → ∀ z, (O10_30 r).to z → y = z := by
  intro y r h
  unfold D10_30 at h
  split at h <;> first | (cases h; intro z hz; exact Option.some.inj hz) | cases h

noncomputable def B10_30 (N : Nat) (f : (Int × Int × (List Int)) → Option (Int × Int × (List Int))) : (Int × Int × (List Int)) → Option (Int × Int × (List Int))
  | (x0, x1, x2) =>
  if (decide (x1 ≥ (8 : Int))) = true then
    if (decide ((List.length x2 + List.length [IntKind.wrap IntKind.u8 x0]) * (1 : Nat) ≤ (140737488355328 : Nat) ∧ List.length x2 + List.length [IntKind.wrap IntKind.u8 x0] ≤ (140737488355328 : Nat))) = true then
      Option.bind (f (Int.fdiv x0 (256 : Int), IntKind.wrap IntKind.i64 (x1 - (8 : Int)), x2 ++ [IntKind.wrap IntKind.u8 x0])) fun r => some r
    else
      none
  else
    some ((x0, x1, x2))

noncomputable def F10_30 (N : Nat) : Nat → (Int × Int × (List Int)) → Option (Int × Int × (List Int))
  | 0, _ => none
  | k + 1, x => B10_30 N (F10_30 N k) x

noncomputable def C10_30 (N k : Nat) : Cut := ⟨[0], X10_30, tellX I10_30 (F10_30 N k) O10_30⟩

theorem B10_30_eq (N : Nat) (f : (Int × Int × (List Int)) → Option (Int × Int × (List Int))) (x0 : Int) (x1 : Int) (x2 : (List Int)) : (roundEv (mkE Try.prog ownT (tab10 N) []) Try.f10.ntmps A10 (loopAt (bod Try.f10) 30) 30 ⟨[0], X10_30, tellX I10_30 f O10_30⟩ (J10_30 (x0, x1, x2))).run D10_30 = B10_30 N f (x0, x1, x2) := by kernel_rfl

theorem C10_30_ok (N k : Nat) : ∀ c', At (bod Try.f10) 30 c' → CutOK Try.prog Try.f10.ntmps (idsL A10) c' (C10_30 N k) :=
  loop_ok (E := (mkE Try.prog ownT (tab10 N) [])) (mkE_ok mix (tab10_ok N)) (cutsIn_ok trivial) (fuel := 200) (by decide +kernel) (by kernel_rfl) I10_30_ok D10_30_ok (B10_30 N) (F10_30 N) (fun _ => rfl) (fun _ _ => rfl) (fun f x => match x with | (x0, x1, x2) => B10_30_eq N f x0 x1 x2) k

noncomputable def O10 (r : Int × Int × (List Int)) : Tr (Pk) := .ret ⟨[.tup []], [some (.var (.agg [.sl 1 (none), .v (.int .i64 (r.1)), .v (.int .i64 (r.2.1))])), some (.row (Ty.int IntKind.u8) 5 (r.2.2))]⟩

noncomputable def D10 : Pk → Option (Int × Int × (List Int))
  | ⟨[.tup []], [some (.var (.agg [.sl 1 (none), .v (.int .i64 x0), .v (.int .i64 x1)])), some (.row (Ty.int IntKind.u8) 5 x2)]⟩ => some ((x0, x1, x2))
  | _ => none

theorem D10_ok : ∀ y r, D10 y = some r → ∀ z, (O10 r).to z → y = z := by
  intro y r h
  unfold D10 at h
  split at h <;> first | (cases h; intro z hz; exact Option.some.inj hz) | cases h

noncomputable def F10 (N : Nat) : (Int × Int × Int × Int × (List Int)) → Option (Int × Int × (List Int))
  | (x0, x1, x2, x3, x4) =>
  Option.bind (F32 N x0) fun y0 =>
  Option.bind (F34 N (y0, x1)) fun y1 =>
  if (decide (x3 < (0 : Int))) = true then
    none
  else
    Option.bind (F10_30 N N (IntKind.wrap IntKind.i64 (↑(BitVec.toNat (BitVec.ofInt (64 : Nat) x2 ||| BitVec.ofInt (64 : Nat) (IntKind.wrap IntKind.i64 (y1 * (2 : Int) ^ min (Int.toNat x3) (64 : Nat))))) : Int), IntKind.wrap IntKind.i64 (x3 + y0), x4)) fun y2 =>
    some ((Prod.fst y2, Prod.fst (Prod.snd y2), Prod.snd (Prod.snd y2)))

theorem F10_eq (N : Nat) (x0 : Int) (x1 : Int) (x2 : Int) (x3 : Int) (x4 : (List Int)) : (fnEv (mkE Try.prog ownT (tab10 N) [(30, C10_30 N N)]) Try.f10 (J10 (x0, x1, x2, x3, x4))).run D10 = F10 N (x0, x1, x2, x3, x4) := by kernel_rfl

noncomputable def T10 (N : Nat) : Pk → Tr Pk := tell I10 (F10 N) O10

theorem T10_ok (N : Nat) : FOK Try.prog 10 (T10 N) :=
  tell_ok (E := (mkE Try.prog ownT (tab10 N) [(30, C10_30 N N)])) (mkE_ok mix (tab10_ok N)) Try.func10 (show Try.f10.body = some (bod Try.f10) by kernel_rfl) (by decide +kernel) I10_ok D10_ok (args := A10) (fun _ => by kernel_rfl) (fun _ => by show 3 ≤ Try.f10.ntmps; exact of_decide_eq_true (by kernel_rfl)) (cutsIn_ok ⟨C10_30_ok N N, trivial⟩) (fun x => match x with | (x0, x1, x2, x3, x4) => F10_eq N x0 x1 x2 x3 x4)

/-! ## f40: math/bits.ReverseBytes64 -/

noncomputable def I40 : Pk → Option (Int)
  | ⟨[.v (.int .u64 x0)], []⟩ => some x0
  | _ => none

noncomputable def J40 (x : Int) : Pk := ⟨[.v (.int .u64 (x))], []⟩

theorem I40_ok : ∀ pk x, I40 pk = some x → pk = J40 x := by
  intro pk x h
  unfold I40 at h
  split at h <;> first | (cases h; rfl) | cases h

noncomputable def A40 : List TV := []

noncomputable def tab40 (N : Nat) : List (Nat × (Pk → Tr Pk)) := []

theorem tab40_ok (N : Nat) : TabOK Try.prog (tab40 N) := trivial

noncomputable def O40 (r : Int) : Tr (Pk) := .ret ⟨[.v (.int .u64 (r))], []⟩

noncomputable def D40 : Pk → Option (Int)
  | ⟨[.v (.int .u64 x0)], []⟩ => some (x0)
  | _ => none

theorem D40_ok : ∀ y r, D40 y = some r → ∀ z, (O40 r).to z → y = z := by
  intro y r h
  unfold D40 at h
  split at h <;> first | (cases h; intro z hz; exact Option.some.inj hz) | cases h

noncomputable def F40 (N : Nat) : (Int) → Option (Int)
  | x0 =>
  some (IntKind.wrap IntKind.u64 (↑(BitVec.toNat (BitVec.ofInt (64 : Nat) (Int.fdiv (IntKind.wrap IntKind.u64 (↑(BitVec.toNat (BitVec.ofInt (64 : Nat) (IntKind.wrap IntKind.u64 (↑(BitVec.toNat (BitVec.ofInt (64 : Nat) (Int.fdiv (IntKind.wrap IntKind.u64 (↑(BitVec.toNat (BitVec.ofInt (64 : Nat) (IntKind.wrap IntKind.u64 (↑(BitVec.toNat (BitVec.ofInt (64 : Nat) (Int.fdiv x0 (256 : Int)) &&& BitVec.ofInt (64 : Nat) (71777214294589695 : Int))) : Int)) ||| BitVec.ofInt (64 : Nat) (IntKind.wrap IntKind.u64 (IntKind.wrap IntKind.u64 (↑(BitVec.toNat (BitVec.ofInt (64 : Nat) x0 &&& BitVec.ofInt (64 : Nat) (71777214294589695 : Int))) : Int) * (256 : Int))))) : Int)) (65536 : Int)) &&& BitVec.ofInt (64 : Nat) (281470681808895 : Int))) : Int)) ||| BitVec.ofInt (64 : Nat) (IntKind.wrap IntKind.u64 (IntKind.wrap IntKind.u64 (↑(BitVec.toNat (BitVec.ofInt (64 : Nat) (IntKind.wrap IntKind.u64 (↑(BitVec.toNat (BitVec.ofInt (64 : Nat) (IntKind.wrap IntKind.u64 (↑(BitVec.toNat (BitVec.ofInt (64 : Nat) (Int.fdiv x0 (256 : Int)) &&& BitVec.ofInt (64 : Nat) (71777214294589695 : Int))) : Int)) ||| BitVec.ofInt (64 : Nat) (IntKind.wrap IntKind.u64 (IntKind.wrap IntKind.u64 (↑(BitVec.toNat (BitVec.ofInt (64 : Nat) x0 &&& BitVec.ofInt (64 : Nat) (71777214294589695 : Int))) : Int) * (256 : Int))))) : Int)) &&& BitVec.ofInt (64 : Nat) (281470681808895 : Int))) : Int) * (65536 : Int))))) : Int)) (4294967296 : Int)) ||| BitVec.ofInt (64 : Nat) (IntKind.wrap IntKind.u64 (IntKind.wrap IntKind.u64 (↑(BitVec.toNat (BitVec.ofInt (64 : Nat) (IntKind.wrap IntKind.u64 (↑(BitVec.toNat (BitVec.ofInt (64 : Nat) (Int.fdiv (IntKind.wrap IntKind.u64 (↑(BitVec.toNat (BitVec.ofInt (64 : Nat) (IntKind.wrap IntKind.u64 (↑(BitVec.toNat (BitVec.ofInt (64 : Nat) (Int.fdiv x0 (256 : Int)) &&& BitVec.ofInt (64 : Nat) (71777214294589695 : Int))) : Int)) ||| BitVec.ofInt (64 : Nat) (IntKind.wrap IntKind.u64 (IntKind.wrap IntKind.u64 (↑(BitVec.toNat (BitVec.ofInt (64 : Nat) x0 &&& BitVec.ofInt (64 : Nat) (71777214294589695 : Int))) : Int) * (256 : Int))))) : Int)) (65536 : Int)) &&& BitVec.ofInt (64 : Nat) (281470681808895 : Int))) : Int)) ||| BitVec.ofInt (64 : Nat) (IntKind.wrap IntKind.u64 (IntKind.wrap IntKind.u64 (↑(BitVec.toNat (BitVec.ofInt (64 : Nat) (IntKind.wrap IntKind.u64 (↑(BitVec.toNat (BitVec.ofInt (64 : Nat) (IntKind.wrap IntKind.u64 (↑(BitVec.toNat (BitVec.ofInt (64 : Nat) (Int.fdiv x0 (256 : Int)) &&& BitVec.ofInt (64 : Nat) (71777214294589695 : Int))) : Int)) ||| BitVec.ofInt (64 : Nat) (IntKind.wrap IntKind.u64 (IntKind.wrap IntKind.u64 (↑(BitVec.toNat (BitVec.ofInt (64 : Nat) x0 &&& BitVec.ofInt (64 : Nat) (71777214294589695 : Int))) : Int) * (256 : Int))))) : Int)) &&& BitVec.ofInt (64 : Nat) (281470681808895 : Int))) : Int) * (65536 : Int))))) : Int) * (4294967296 : Int))))) : Int))

theorem F40_eq (N : Nat) (x0 : Int) : (fnEv (mkE Try.prog ownT (tab40 N) []) Try.f40 (J40 x0)).run D40 = F40 N x0 := by kernel_rfl

noncomputable def T40 (N : Nat) : Pk → Tr Pk := tell I40 (F40 N) O40

theorem T40_ok (N : Nat) : FOK Try.prog 40 (T40 N) :=
  tell_ok (E := (mkE Try.prog ownT (tab40 N) [])) (mkE_ok mix (tab40_ok N)) Try.func40 (show Try.f40.body = some (bod Try.f40) by kernel_rfl) (by decide +kernel) I40_ok D40_ok (args := A40) (fun _ => by kernel_rfl) (fun _ => by show 1 ≤ Try.f40.ntmps; exact of_decide_eq_true (by kernel_rfl)) (cutsIn_ok trivial) (fun x => match x with | x0 => F40_eq N x0)

/-! ## f33: math/bits.Reverse64 -/

noncomputable def I33 : Pk → Option (Int)
  | ⟨[.v (.int .u64 x0)], []⟩ => some x0
  | _ => none

noncomputable def J33 (x : Int) : Pk := ⟨[.v (.int .u64 (x))], []⟩

theorem I33_ok : ∀ pk x, I33 pk = some x → pk = J33 x := by
  intro pk x h
  unfold I33 at h
  split at h <;> first | (cases h; rfl) | cases h

noncomputable def A33 : List TV := []

noncomputable def tab33 (N : Nat) : List (Nat × (Pk → Tr Pk)) := [(40, T40 N)]

theorem tab33_ok (N : Nat) : TabOK Try.prog (tab33 N) := ⟨T40_ok N, trivial⟩

noncomputable def O33 (r : Int) : Tr (Pk) := .ret ⟨[.v (.int .u64 (r))], []⟩

noncomputable def D33 : Pk → Option (Int)
  | ⟨[.v (.int .u64 x0)], []⟩ => some (x0)
  | _ => none

theorem D33_ok : ∀ y r, D33 y = some r → ∀ z, (O33 r).to z → y = z := by
  intro y r h
  unfold D33 at h
  split at h <;> first | (cases h; intro z hz; exact Option.some.inj hz) | cases h

noncomputable def F33 (N : Nat) : (Int) → Option (Int)
  | x0 =>
  Option.bind (F40 N (IntKind.wrap IntKind.u64 (↑(BitVec.toNat (BitVec.ofInt (64 : Nat) (IntKind.wrap IntKind.u64 (↑(BitVec.toNat (BitVec.ofInt (64 : Nat) (Int.fdiv (IntKind.wrap IntKind.u64 (↑(BitVec.toNat (BitVec.ofInt (64 : Nat) (IntKind.wrap IntKind.u64 (↑(BitVec.toNat (BitVec.ofInt (64 : Nat) (Int.fdiv (IntKind.wrap IntKind.u64 (↑(BitVec.toNat (BitVec.ofInt (64 : Nat) (IntKind.wrap IntKind.u64 (↑(BitVec.toNat (BitVec.ofInt (64 : Nat) (Int.fdiv x0 (2 : Int)) &&& BitVec.ofInt (64 : Nat) (6148914691236517205 : Int))) : Int)) ||| BitVec.ofInt (64 : Nat) (IntKind.wrap IntKind.u64 (IntKind.wrap IntKind.u64 (↑(BitVec.toNat (BitVec.ofInt (64 : Nat) x0 &&& BitVec.ofInt (64 : Nat) (6148914691236517205 : Int))) : Int) * (2 : Int))))) : Int)) (4 : Int)) &&& BitVec.ofInt (64 : Nat) (3689348814741910323 : Int))) : Int)) ||| BitVec.ofInt (64 : Nat) (IntKind.wrap IntKind.u64 (IntKind.wrap IntKind.u64 (↑(BitVec.toNat (BitVec.ofInt (64 : Nat) (IntKind.wrap IntKind.u64 (↑(BitVec.toNat (BitVec.ofInt (64 : Nat) (IntKind.wrap IntKind.u64 (↑(BitVec.toNat (BitVec.ofInt (64 : Nat) (Int.fdiv x0 (2 : Int)) &&& BitVec.ofInt (64 : Nat) (6148914691236517205 : Int))) : Int)) ||| BitVec.ofInt (64 : Nat) (IntKind.wrap IntKind.u64 (IntKind.wrap IntKind.u64 (↑(BitVec.toNat (BitVec.ofInt (64 : Nat) x0 &&& BitVec.ofInt (64 : Nat) (6148914691236517205 : Int))) : Int) * (2 : Int))))) : Int)) &&& BitVec.ofInt (64 : Nat) (3689348814741910323 : Int))) : Int) * (4 : Int))))) : Int)) (16 : Int)) &&& BitVec.ofInt (64 : Nat) (1085102592571150095 : Int))) : Int)) ||| BitVec.ofInt (64 : Nat) (IntKind.wrap IntKind.u64 (IntKind.wrap IntKind.u64 (↑(BitVec.toNat (BitVec.ofInt (64 : Nat) (IntKind.wrap IntKind.u64 (↑(BitVec.toNat (BitVec.ofInt (64 : Nat) (IntKind.wrap IntKind.u64 (↑(BitVec.toNat (BitVec.ofInt (64 : Nat) (Int.fdiv (IntKind.wrap IntKind.u64 (↑(BitVec.toNat (BitVec.ofInt (64 : Nat) (IntKind.wrap IntKind.u64 (↑(BitVec.toNat (BitVec.ofInt (64 : Nat) (Int.fdiv x0 (2 : Int)) &&& BitVec.ofInt (64 : Nat) (6148914691236517205 : Int))) : Int)) ||| BitVec.ofInt (64 : Nat) (IntKind.wrap IntKind.u64 (IntKind.wrap IntKind.u64 (↑(BitVec.toNat (BitVec.ofInt (64 : Nat) x0 &&& BitVec.ofInt (64 : Nat) (6148914691236517205 : Int))) : Int) * (2 : Int))))) : Int)) (4 : Int)) &&& BitVec.ofInt (64 : Nat) (3689348814741910323 : Int))) : Int)) ||| BitVec.ofInt (64 : Nat) (IntKind.wrap IntKind.u64 (IntKind.wrap IntKind.u64 (↑(BitVec.toNat (BitVec.ofInt (64 : Nat) (IntKind.wrap IntKind.u64 (↑(BitVec.toNat (BitVec.ofInt (64 : Nat) (IntKind.wrap IntKind.u64 (↑(BitVec.toNat (BitVec.ofInt (64 : Nat) (Int.fdiv x0 (2 : Int)) &&& BitVec.ofInt (64 : Nat) (6148914691236517205 : Int))) : Int)) ||| BitVec.ofInt (64 : Nat) (IntKind.wrap IntKind.u64 (IntKind.wrap IntKind.u64 (↑(BitVec.toNat (BitVec.ofInt (64 : Nat) x0 &&& BitVec.ofInt (64 : Nat) (6148914691236517205 : Int))) : Int) * (2 : Int))))) : Int)) &&& BitVec.ofInt (64 : Nat) (3689348814741910323 : Int))) : Int) * (4 : Int))))) : Int)) &&& BitVec.ofInt (64 : Nat) (1085102592571150095 : Int))) : Int) * (16 : Int))))) : Int))) fun y0 =>
  some (y0)

theorem F33_eq (N : Nat) (x0 : Int) : (fnEv (mkE Try.prog ownT (tab33 N) []) Try.f33 (J33 x0)).run D33 = F33 N x0 := by kernel_rfl

noncomputable def T33 (N : Nat) : Pk → Tr Pk := tell I33 (F33 N) O33

theorem T33_ok (N : Nat) : FOK Try.prog 33 (T33 N) :=
  tell_ok (E := (mkE Try.prog ownT (tab33 N) [])) (mkE_ok mix (tab33_ok N)) Try.func33 (show Try.f33.body = some (bod Try.f33) by kernel_rfl) (by decide +kernel) I33_ok D33_ok (args := A33) (fun _ => by kernel_rfl) (fun _ => by show 1 ≤ Try.f33.ntmps; exact of_decide_eq_true (by kernel_rfl)) (cutsIn_ok trivial) (fun x => match x with | x0 => F33_eq N x0)

/-! ## f9: mirador/bitio.Reverse -/

noncomputable def I9 : Pk → Option (Int × Int)
  | ⟨[.agg [.v (.int .i64 x0), .v (.int .i64 x1)]], []⟩ => some (x0, x1)
  | _ => none

noncomputable def J9 (x : Int × Int) : Pk := ⟨[.agg [.v (.int .i64 (x.1)), .v (.int .i64 (x.2))]], []⟩

theorem I9_ok : ∀ pk x, I9 pk = some x → pk = J9 x := by
  intro pk x h
  unfold I9 at h
  split at h <;> first | (cases h; rfl) | cases h

noncomputable def A9 : List TV := []

noncomputable def tab9 (N : Nat) : List (Nat × (Pk → Tr Pk)) := [(32, T32 N), (34, T34 N), (33, T33 N)]

theorem tab9_ok (N : Nat) : TabOK Try.prog (tab9 N) := ⟨T32_ok N, ⟨T34_ok N, ⟨T33_ok N, trivial⟩⟩⟩

noncomputable def O9 (r : Int) : Tr (Pk) := .ret ⟨[.v (.int .i64 (r))], []⟩

noncomputable def D9 : Pk → Option (Int)
  | ⟨[.v (.int .i64 x0)], []⟩ => some (x0)
  | _ => none

theorem D9_ok : ∀ y r, D9 y = some r → ∀ z, (O9 r).to z → y = z := by
  intro y r h
  unfold D9 at h
  split at h <;> first | (cases h; intro z hz; exact Option.some.inj hz) | cases h

noncomputable def F9 (N : Nat) : (Int × Int) → Option (Int)
  | (x0, x1) =>
  Option.bind (F32 N x1) fun y0 =>
  Option.bind (F34 N (y0, x0)) fun y1 =>
  Option.bind (F33 N (IntKind.wrap IntKind.u64 y1)) fun y2 =>
  if (decide (IntKind.wrap IntKind.i64 ((64 : Int) - y0) < (0 : Int))) = true then
    none
  else
    some (IntKind.wrap IntKind.i64 (Int.fdiv y2 ((2 : Int) ^ min (Int.toNat (IntKind.wrap IntKind.i64 ((64 : Int) - y0))) (64 : Nat))))

theorem F9_eq (N : Nat) (x0 : Int) (x1 : Int) : (fnEv (mkE Try.prog ownT (tab9 N) []) Try.f9 (J9 (x0, x1))).run D9 = F9 N (x0, x1) := by kernel_rfl

noncomputable def T9 (N : Nat) : Pk → Tr Pk := tell I9 (F9 N) O9

theorem T9_ok (N : Nat) : FOK Try.prog 9 (T9 N) :=
  tell_ok (E := (mkE Try.prog ownT (tab9 N) [])) (mkE_ok mix (tab9_ok N)) Try.func9 (show Try.f9.body = some (bod Try.f9) by kernel_rfl) (by decide +kernel) I9_ok D9_ok (args := A9) (fun _ => by kernel_rfl) (fun _ => by show 1 ≤ Try.f9.ntmps; exact of_decide_eq_true (by kernel_rfl)) (cutsIn_ok trivial) (fun x => match x with | (x0, x1) => F9_eq N x0 x1)

/-! ## f17: (*mirador/bitio.Writer).Code -/

noncomputable def I17 : Pk → Option (Int × Int × Int × Int × (List Int))
  | ⟨[.adr 0 [], .agg [.v (.int .i64 x0), .v (.int .i64 x1)]], [some (.var (.agg [.sl 1 none, .v (.int .i64 x2), .v (.int .i64 x3)])), some (.row (.int .u8) 5 x4)]⟩ => some (x0, x1, x2, x3, x4)
  | _ => none

noncomputable def J17 (x : Int × Int × Int × Int × (List Int)) : Pk := ⟨[.adr 0 [], .agg [.v (.int .i64 (x.1)), .v (.int .i64 (x.2.1))]], [some (.var (.agg [.sl 1 none, .v (.int .i64 (x.2.2.1)), .v (.int .i64 (x.2.2.2.1))])), some (.row (.int .u8) 5 (x.2.2.2.2))]⟩

theorem I17_ok : ∀ pk x, I17 pk = some x → pk = J17 x := by
  intro pk x h
  unfold I17 at h
  split at h <;> first | (cases h; rfl) | cases h

noncomputable def A17 : List TV := [.adr 0 []]

noncomputable def tab17 (N : Nat) : List (Nat × (Pk → Tr Pk)) := [(9, T9 N), (10, T10 N)]

theorem tab17_ok (N : Nat) : TabOK Try.prog (tab17 N) := ⟨T9_ok N, ⟨T10_ok N, trivial⟩⟩

noncomputable def O17 (r : Int × Int × (List Int)) : Tr (Pk) := .ret ⟨[.tup []], [some (.var (.agg [.sl 1 (none), .v (.int .i64 (r.1)), .v (.int .i64 (r.2.1))])), some (.row (Ty.int IntKind.u8) 5 (r.2.2))]⟩

noncomputable def D17 : Pk → Option (Int × Int × (List Int))
  | ⟨[.tup []], [some (.var (.agg [.sl 1 (none), .v (.int .i64 x0), .v (.int .i64 x1)])), some (.row (Ty.int IntKind.u8) 5 x2)]⟩ => some ((x0, x1, x2))
  | _ => none

theorem D17_ok : ∀ y r, D17 y = some r → ∀ z, (O17 r).to z → y = z := by
  intro y r h
  unfold D17 at h
  split at h <;> first | (cases h; intro z hz; exact Option.some.inj hz) | cases h

noncomputable def F17 (N : Nat) : (Int × Int × Int × Int × (List Int)) → Option (Int × Int × (List Int))
  | (x0, x1, x2, x3, x4) =>
  Option.bind (F9 N (x0, x1)) fun y0 =>
  Option.bind (F10 N (x1, y0, x2, x3, x4)) fun y1 =>
  some ((Prod.fst y1, Prod.fst (Prod.snd y1), Prod.snd (Prod.snd y1)))

theorem F17_eq (N : Nat) (x0 : Int) (x1 : Int) (x2 : Int) (x3 : Int) (x4 : (List Int)) : (fnEv (mkE Try.prog ownT (tab17 N) []) Try.f17 (J17 (x0, x1, x2, x3, x4))).run D17 = F17 N (x0, x1, x2, x3, x4) := by kernel_rfl

noncomputable def T17 (N : Nat) : Pk → Tr Pk := tell I17 (F17 N) O17

theorem T17_ok (N : Nat) : FOK Try.prog 17 (T17 N) :=
  tell_ok (E := (mkE Try.prog ownT (tab17 N) [])) (mkE_ok mix (tab17_ok N)) Try.func17 (show Try.f17.body = some (bod Try.f17) by kernel_rfl) (by decide +kernel) I17_ok D17_ok (args := A17) (fun _ => by kernel_rfl) (fun _ => by show 2 ≤ Try.f17.ntmps; exact of_decide_eq_true (by kernel_rfl)) (cutsIn_ok trivial) (fun x => match x with | (x0, x1, x2, x3, x4) => F17_eq N x0 x1 x2 x3 x4)

/-! ## f11: mirador/bitio.New -/

noncomputable def I11 : Pk → Option (ByteArray)
  | ⟨[.v (.string x0)], []⟩ => some x0
  | _ => none

noncomputable def J11 (x : ByteArray) : Pk := ⟨[.v (.string (x))], []⟩

theorem I11_ok : ∀ pk x, I11 pk = some x → pk = J11 x := by
  intro pk x h
  unfold I11 at h
  split at h <;> first | (cases h; rfl) | cases h

noncomputable def A11 : List TV := []

noncomputable def tab11 (N : Nat) : List (Nat × (Pk → Tr Pk)) := []

theorem tab11_ok (N : Nat) : TabOK Try.prog (tab11 N) := trivial

noncomputable def O11 (r : ByteArray × Int × Int) : Tr (Pk) := .ret ⟨[.adr 0 []], [some (.var (.agg [.v (.string (r.1)), .v (.int .i64 (r.2.1)), .v (.int .i64 (r.2.2))]))]⟩

noncomputable def D11 : Pk → Option (ByteArray × Int × Int)
  | ⟨[.adr 0 []], [some (.var (.agg [.v (.string x0), .v (.int .i64 x1), .v (.int .i64 x2)]))]⟩ => some ((x0, x1, x2))
  | _ => none

theorem D11_ok : ∀ y r, D11 y = some r → ∀ z, (O11 r).to z → y = z := by
  intro y r h
  unfold D11 at h
  split at h <;> first | (cases h; intro z hz; exact Option.some.inj hz) | cases h

noncomputable def F11 (N : Nat) : (ByteArray) → Option (ByteArray × Int × Int)
  | x0 =>
  some ((x0, (0 : Int), (0 : Int)))

theorem F11_eq (N : Nat) (x0 : ByteArray) : (fnEv (mkE Try.prog ownT (tab11 N) []) Try.f11 (J11 x0)).run D11 = F11 N x0 := by kernel_rfl

noncomputable def T11 (N : Nat) : Pk → Tr Pk := tell I11 (F11 N) O11

theorem T11_ok (N : Nat) : FOK Try.prog 11 (T11 N) :=
  tell_ok (E := (mkE Try.prog ownT (tab11 N) [])) (mkE_ok mix (tab11_ok N)) Try.func11 (show Try.f11.body = some (bod Try.f11) by kernel_rfl) (by decide +kernel) I11_ok D11_ok (args := A11) (fun _ => by kernel_rfl) (fun _ => by show 1 ≤ Try.f11.ntmps; exact of_decide_eq_true (by kernel_rfl)) (cutsIn_ok trivial) (fun x => match x with | x0 => F11_eq N x0)

/-! ## f12: (*mirador/bitio.Writer).String -/

noncomputable def I12 : Pk → Option (((List Int) × (Int × (Int × Unit))))
  | ⟨[.radr (.cons (.sl (.int .u8)) (.cons (.int .i64) (.cons (.int .i64) .unit))) [x0] [.i 0 3]], []⟩ => some x0
  | _ => none

noncomputable def J12 (x : ((List Int) × (Int × (Int × Unit)))) : Pk := ⟨[.radr (.cons (.sl (.int .u8)) (.cons (.int .i64) (.cons (.int .i64) .unit))) [(x)] [.i 0 3]], []⟩

theorem I12_ok : ∀ pk x, I12 pk = some x → pk = J12 x := by
  intro pk x h
  unfold I12 at h
  split at h <;> first | (cases h; rfl) | cases h

noncomputable def A12 : List TV := []

noncomputable def tab12 (N : Nat) : List (Nat × (Pk → Tr Pk)) := []

theorem tab12_ok (N : Nat) : TabOK Try.prog (tab12 N) := trivial

noncomputable def O12 (r : ByteArray) : Tr (Pk) := .ret ⟨[.v (.string (r))], []⟩

noncomputable def D12 : Pk → Option (ByteArray)
  | ⟨[.v (.string x0)], []⟩ => some (x0)
  | _ => none

theorem D12_ok : ∀ y r, D12 y = some r → ∀ z, (O12 r).to z → y = z := by
  intro y r h
  unfold D12 at h
  split at h <;> first | (cases h; intro z hz; exact Option.some.inj hz) | cases h

noncomputable def F12 (N : Nat) : (((List Int) × (Int × (Int × Unit)))) → Option (ByteArray)
  | x0 =>
  if (decide (Prod.fst (Prod.snd (Prod.snd x0)) > (0 : Int))) = true then
    if (decide ((↑(ByteArray.size (stringOf (Prod.fst x0)) + ByteArray.size (stringOf [IntKind.wrap IntKind.u8 (Prod.fst (Prod.snd x0))])) : Int) > (9223372036854775807 : Int))) = true then
      none
    else
      some (stringOf (Prod.fst x0) ++ stringOf [IntKind.wrap IntKind.u8 (Prod.fst (Prod.snd x0))])
  else
    some (stringOf (Prod.fst x0))

theorem F12_eq (N : Nat) (x0 : ((List Int) × (Int × (Int × Unit)))) : (fnEv (mkE Try.prog ownT (tab12 N) []) Try.f12 (J12 x0)).run D12 = F12 N x0 := by kernel_rfl

noncomputable def T12 (N : Nat) : Pk → Tr Pk := tell I12 (F12 N) O12

theorem T12_ok (N : Nat) : FOK Try.prog 12 (T12 N) :=
  tell_ok (E := (mkE Try.prog ownT (tab12 N) [])) (mkE_ok mix (tab12_ok N)) Try.func12 (show Try.f12.body = some (bod Try.f12) by kernel_rfl) (by decide +kernel) I12_ok D12_ok (args := A12) (fun _ => by kernel_rfl) (fun _ => by show 1 ≤ Try.f12.ntmps; exact of_decide_eq_true (by kernel_rfl)) (cutsIn_ok trivial) (fun x => match x with | x0 => F12_eq N x0)

/-! ## f14: (*mirador/bitio.Writer).Len -/

noncomputable def I14 : Pk → Option (((List Int) × (Int × (Int × Unit))))
  | ⟨[.radr (.cons (.sl (.int .u8)) (.cons (.int .i64) (.cons (.int .i64) .unit))) [x0] [.i 0 3]], []⟩ => some x0
  | _ => none

noncomputable def J14 (x : ((List Int) × (Int × (Int × Unit)))) : Pk := ⟨[.radr (.cons (.sl (.int .u8)) (.cons (.int .i64) (.cons (.int .i64) .unit))) [(x)] [.i 0 3]], []⟩

theorem I14_ok : ∀ pk x, I14 pk = some x → pk = J14 x := by
  intro pk x h
  unfold I14 at h
  split at h <;> first | (cases h; rfl) | cases h

noncomputable def A14 : List TV := []

noncomputable def tab14 (N : Nat) : List (Nat × (Pk → Tr Pk)) := []

theorem tab14_ok (N : Nat) : TabOK Try.prog (tab14 N) := trivial

noncomputable def O14 (r : Int) : Tr (Pk) := .ret ⟨[.v (.int .i64 (r))], []⟩

noncomputable def D14 : Pk → Option (Int)
  | ⟨[.v (.int .i64 x0)], []⟩ => some (x0)
  | _ => none

theorem D14_ok : ∀ y r, D14 y = some r → ∀ z, (O14 r).to z → y = z := by
  intro y r h
  unfold D14 at h
  split at h <;> first | (cases h; intro z hz; exact Option.some.inj hz) | cases h

noncomputable def F14 (N : Nat) : (((List Int) × (Int × (Int × Unit)))) → Option (Int)
  | x0 =>
  some (IntKind.wrap IntKind.i64 (IntKind.wrap IntKind.i64 ((8 : Int) * (↑(List.length (Prod.fst x0)) : Int)) + Prod.fst (Prod.snd (Prod.snd x0))))

theorem F14_eq (N : Nat) (x0 : ((List Int) × (Int × (Int × Unit)))) : (fnEv (mkE Try.prog ownT (tab14 N) []) Try.f14 (J14 x0)).run D14 = F14 N x0 := by kernel_rfl

noncomputable def T14 (N : Nat) : Pk → Tr Pk := tell I14 (F14 N) O14

theorem T14_ok (N : Nat) : FOK Try.prog 14 (T14 N) :=
  tell_ok (E := (mkE Try.prog ownT (tab14 N) [])) (mkE_ok mix (tab14_ok N)) Try.func14 (show Try.f14.body = some (bod Try.f14) by kernel_rfl) (by decide +kernel) I14_ok D14_ok (args := A14) (fun _ => by kernel_rfl) (fun _ => by show 1 ≤ Try.f14.ntmps; exact of_decide_eq_true (by kernel_rfl)) (cutsIn_ok trivial) (fun x => match x with | x0 => F14_eq N x0)

/-! ## f30: (*mirador/bitio.Reader).Left -/

noncomputable def I30 : Pk → Option ((ByteArray × (Int × (Int × Unit))))
  | ⟨[.radr (.cons .str (.cons (.int .i64) (.cons (.int .i64) .unit))) [x0] [.i 0 3]], []⟩ => some x0
  | _ => none

noncomputable def J30 (x : (ByteArray × (Int × (Int × Unit)))) : Pk := ⟨[.radr (.cons .str (.cons (.int .i64) (.cons (.int .i64) .unit))) [(x)] [.i 0 3]], []⟩

theorem I30_ok : ∀ pk x, I30 pk = some x → pk = J30 x := by
  intro pk x h
  unfold I30 at h
  split at h <;> first | (cases h; rfl) | cases h

noncomputable def A30 : List TV := []

noncomputable def tab30 (N : Nat) : List (Nat × (Pk → Tr Pk)) := []

theorem tab30_ok (N : Nat) : TabOK Try.prog (tab30 N) := trivial

noncomputable def O30 (r : Int) : Tr (Pk) := .ret ⟨[.v (.int .i64 (r))], []⟩

noncomputable def D30 : Pk → Option (Int)
  | ⟨[.v (.int .i64 x0)], []⟩ => some (x0)
  | _ => none

theorem D30_ok : ∀ y r, D30 y = some r → ∀ z, (O30 r).to z → y = z := by
  intro y r h
  unfold D30 at h
  split at h <;> first | (cases h; intro z hz; exact Option.some.inj hz) | cases h

noncomputable def F30 (N : Nat) : ((ByteArray × (Int × (Int × Unit)))) → Option (Int)
  | x0 =>
  some (IntKind.wrap IntKind.i64 (IntKind.wrap IntKind.i64 ((8 : Int) * (↑(ByteArray.size (Prod.fst x0)) : Int)) - Prod.fst (Prod.snd x0)))

theorem F30_eq (N : Nat) (x0 : (ByteArray × (Int × (Int × Unit)))) : (fnEv (mkE Try.prog ownT (tab30 N) []) Try.f30 (J30 x0)).run D30 = F30 N x0 := by kernel_rfl

noncomputable def T30 (N : Nat) : Pk → Tr Pk := tell I30 (F30 N) O30

theorem T30_ok (N : Nat) : FOK Try.prog 30 (T30 N) :=
  tell_ok (E := (mkE Try.prog ownT (tab30 N) [])) (mkE_ok mix (tab30_ok N)) Try.func30 (show Try.f30.body = some (bod Try.f30) by kernel_rfl) (by decide +kernel) I30_ok D30_ok (args := A30) (fun _ => by kernel_rfl) (fun _ => by show 1 ≤ Try.f30.ntmps; exact of_decide_eq_true (by kernel_rfl)) (cutsIn_ok trivial) (fun x => match x with | x0 => F30_eq N x0)

/-! ## f35: (*mirador/bitio.Reader).has -/

noncomputable def I35 : Pk → Option (Int × ByteArray × Int × Int)
  | ⟨[.adr 0 [], .v (.int .i64 x0)], [some (.var (.agg [.v (.string x1), .v (.int .i64 x2), .v (.int .i64 x3)]))]⟩ => some (x0, x1, x2, x3)
  | _ => none

noncomputable def J35 (x : Int × ByteArray × Int × Int) : Pk := ⟨[.adr 0 [], .v (.int .i64 (x.1))], [some (.var (.agg [.v (.string (x.2.1)), .v (.int .i64 (x.2.2.1)), .v (.int .i64 (x.2.2.2))]))]⟩

theorem I35_ok : ∀ pk x, I35 pk = some x → pk = J35 x := by
  intro pk x h
  unfold I35 at h
  split at h <;> first | (cases h; rfl) | cases h

noncomputable def A35 : List TV := [.adr 0 []]

noncomputable def tab35 (N : Nat) : List (Nat × (Pk → Tr Pk)) := [(30, T30 N)]

theorem tab35_ok (N : Nat) : TabOK Try.prog (tab35 N) := ⟨T30_ok N, trivial⟩

noncomputable def O35 (r : Bool × ByteArray × Int × Int) : Tr (Pk) := .ret ⟨[.v (.bool (r.1))], [some (.var (.agg [.v (.string (r.2.1)), .v (.int .i64 (r.2.2.1)), .v (.int .i64 (r.2.2.2))]))]⟩

noncomputable def D35 : Pk → Option (Bool × ByteArray × Int × Int)
  | ⟨[.v (.bool x0)], [some (.var (.agg [.v (.string x1), .v (.int .i64 x2), .v (.int .i64 x3)]))]⟩ => some ((x0, x1, x2, x3))
  | _ => none

theorem D35_ok : ∀ y r, D35 y = some r → ∀ z, (O35 r).to z → y = z := by
  intro y r h
  unfold D35 at h
  split at h <;> first | (cases h; intro z hz; exact Option.some.inj hz) | cases h

noncomputable def F35 (N : Nat) : (Int × ByteArray × Int × Int) → Option (Bool × ByteArray × Int × Int)
  | (x0, x1, x2, x3) =>
  if (x3 == (0 : Int)) = true then
    Option.bind (F30 N (x1, x2, x3, ())) fun y0 =>
    if (decide (x0 > y0)) = true then
      some ((false, x1, x2, (2 : Int)))
    else
      some ((x3 == (0 : Int), x1, x2, x3))
  else
    some ((x3 == (0 : Int), x1, x2, x3))

theorem F35_eq (N : Nat) (x0 : Int) (x1 : ByteArray) (x2 : Int) (x3 : Int) : (fnEv (mkE Try.prog ownT (tab35 N) []) Try.f35 (J35 (x0, x1, x2, x3))).run D35 = F35 N (x0, x1, x2, x3) := by kernel_rfl

noncomputable def T35 (N : Nat) : Pk → Tr Pk := tell I35 (F35 N) O35

theorem T35_ok (N : Nat) : FOK Try.prog 35 (T35 N) :=
  tell_ok (E := (mkE Try.prog ownT (tab35 N) [])) (mkE_ok mix (tab35_ok N)) Try.func35 (show Try.f35.body = some (bod Try.f35) by kernel_rfl) (by decide +kernel) I35_ok D35_ok (args := A35) (fun _ => by kernel_rfl) (fun _ => by show 2 ≤ Try.f35.ntmps; exact of_decide_eq_true (by kernel_rfl)) (cutsIn_ok trivial) (fun x => match x with | (x0, x1, x2, x3) => F35_eq N x0 x1 x2 x3)

/-! ## f13: (*mirador/bitio.Reader).Bits -/

noncomputable def I13 : Pk → Option (Int × ByteArray × Int × Int)
  | ⟨[.adr 0 [], .v (.int .i64 x0)], [some (.var (.agg [.v (.string x1), .v (.int .i64 x2), .v (.int .i64 x3)]))]⟩ => some (x0, x1, x2, x3)
  | _ => none

noncomputable def J13 (x : Int × ByteArray × Int × Int) : Pk := ⟨[.adr 0 [], .v (.int .i64 (x.1))], [some (.var (.agg [.v (.string (x.2.1)), .v (.int .i64 (x.2.2.1)), .v (.int .i64 (x.2.2.2))]))]⟩

theorem I13_ok : ∀ pk x, I13 pk = some x → pk = J13 x := by
  intro pk x h
  unfold I13 at h
  split at h <;> first | (cases h; rfl) | cases h

noncomputable def A13 : List TV := [.adr 0 []]

noncomputable def tab13 (N : Nat) : List (Nat × (Pk → Tr Pk)) := [(32, T32 N), (35, T35 N)]

theorem tab13_ok (N : Nat) : TabOK Try.prog (tab13 N) := ⟨T32_ok N, ⟨T35_ok N, trivial⟩⟩

def X13_250 : Ex → List Nat
  | .ret => [4]
  | .exit 0 => [0, 1, 5]
  | _ => []

noncomputable def I13_250 : Pk → Option (Int × Int × Int × Int × ByteArray × Int × Int)
  | ⟨[.v (.int .i64 x0), .v (.int .i64 x1), .v (.int .i64 x2), .v (.int .i64 x3), .adr 0 []], [some (.var (.agg [.v (.string x4), .v (.int .i64 x5), .v (.int .i64 x6)]))]⟩ => some (x0, x1, x2, x3, x4, x5, x6)
  | _ => none

noncomputable def J13_250 (x : Int × Int × Int × Int × ByteArray × Int × Int) : Pk := ⟨[.v (.int .i64 (x.1)), .v (.int .i64 (x.2.1)), .v (.int .i64 (x.2.2.1)), .v (.int .i64 (x.2.2.2.1)), .adr 0 []], [some (.var (.agg [.v (.string (x.2.2.2.2.1)), .v (.int .i64 (x.2.2.2.2.2.1)), .v (.int .i64 (x.2.2.2.2.2.2))]))]⟩

theorem I13_250_ok : ∀ pk x, I13_250 pk = some x → pk = J13_250 x := by
  intro pk x h
  unfold I13_250 at h
  split at h <;> first | (cases h; rfl) | cases h

noncomputable def O13_250 (r : Int × Int × ByteArray × Int × Int) : Tr (Ex × Pk) := .ret (.exit 0, ⟨[.adr 0 [], .v (.int .i64 (r.1)), .v (.int .i64 (r.2.1))], [some (.var (.agg [.v (.string (r.2.2.1)), .v (.int .i64 (r.2.2.2.1)), .v (.int .i64 (r.2.2.2.2))]))]⟩)

noncomputable def D13_250 : Ex × Pk → Option (Int × Int × ByteArray × Int × Int)
  | (.exit 0, ⟨[.adr 0 [], .v (.int .i64 x0), .v (.int .i64 x1)], [some (.var (.agg [.v (.string x2), .v (.int .i64 x3), .v (.int .i64 x4)]))]⟩) => some ((x0, x1, x2, x3, x4))
  | _ => none

theorem D13_250_ok : ∀ y r, D13_250 y = some r → ∀ z, (O13_250 r).to z → y = z := by
  intro y r h
  unfold D13_250 at h
  split at h <;> first | (cases h; intro z hz; exact Option.some.inj hz) | cases h

noncomputable def B13_250 (N : Nat) (f : (Int × Int × Int × Int × ByteArray × Int × Int) → Option (Int × Int × ByteArray × Int × Int)) : (Int × Int × Int × Int × ByteArray × Int × Int) → Option (Int × Int × ByteArray × Int × Int)
  | (x0, x1, x2, x3, x4, x5, x6) =>
  if (decide (x1 < x2)) = true then
    if (decide ((0 : Int) ≤ IntKind.wrap IntKind.i64 (Int.tdiv (IntKind.wrap IntKind.i64 (x5 + x1)) (8 : Int)))) = true then
      Option.bind (x4[Int.toNat (IntKind.wrap IntKind.i64 (Int.tdiv (IntKind.wrap IntKind.i64 (x5 + x1)) (8 : Int)))]?) fun y0 =>
      if (decide (Int.tmod (IntKind.wrap IntKind.i64 (x5 + x1)) (8 : Int) < (0 : Int))) = true then
        none
      else
        if (decide (x1 < (0 : Int))) = true then
          none
        else
          Option.bind (f (IntKind.wrap IntKind.i64 (↑(BitVec.toNat (BitVec.ofInt (64 : Nat) x0 ||| BitVec.ofInt (64 : Nat) (IntKind.wrap IntKind.i64 (IntKind.wrap IntKind.i64 (↑(BitVec.toNat (BitVec.ofInt (64 : Nat) (Int.fdiv (IntKind.wrap IntKind.i64 (↑(UInt8.toNat y0) : Int)) ((2 : Int) ^ min (Int.toNat (Int.tmod (IntKind.wrap IntKind.i64 (x5 + x1)) (8 : Int))) (64 : Nat))) &&& BitVec.ofInt (64 : Nat) (1 : Int))) : Int) * (2 : Int) ^ min (Int.toNat x1) (64 : Nat))))) : Int), IntKind.wrap IntKind.i64 (x1 + (1 : Int)), x2, x3, x4, x5, x6)) fun r => some r
    else
      none
  else
    some ((x3, x0, x4, x5, x6))

noncomputable def F13_250 (N : Nat) : Nat → (Int × Int × Int × Int × ByteArray × Int × Int) → Option (Int × Int × ByteArray × Int × Int)
  | 0, _ => none
  | k + 1, x => B13_250 N (F13_250 N k) x

noncomputable def C13_250 (N k : Nat) : Cut := ⟨[5, 15, 14, 1, 0], X13_250, tellX I13_250 (F13_250 N k) O13_250⟩

theorem B13_250_eq (N : Nat) (f : (Int × Int × Int × Int × ByteArray × Int × Int) → Option (Int × Int × ByteArray × Int × Int)) (x0 : Int) (x1 : Int) (x2 : Int) (x3 : Int) (x4 : ByteArray) (x5 : Int) (x6 : Int) : (roundEv (mkE Try.prog ownT (tab13 N) []) Try.f13.ntmps A13 (loopAt (bod Try.f13) 250) 250 ⟨[5, 15, 14, 1, 0], X13_250, tellX I13_250 f O13_250⟩ (J13_250 (x0, x1, x2, x3, x4, x5, x6))).run D13_250 = B13_250 N f (x0, x1, x2, x3, x4, x5, x6) := by kernel_rfl

theorem C13_250_ok (N k : Nat) : ∀ c', At (bod Try.f13) 250 c' → CutOK Try.prog Try.f13.ntmps (idsL A13) c' (C13_250 N k) :=
  loop_ok (E := (mkE Try.prog ownT (tab13 N) [])) (mkE_ok mix (tab13_ok N)) (cutsIn_ok trivial) (fuel := 200) (by decide +kernel) (by kernel_rfl) I13_250_ok D13_250_ok (B13_250 N) (F13_250 N) (fun _ => rfl) (fun _ _ => rfl) (fun f x => match x with | (x0, x1, x2, x3, x4, x5, x6) => B13_250_eq N f x0 x1 x2 x3 x4 x5 x6) k

noncomputable def O13 (r : Int × ByteArray × Int × Int) : Tr (Pk) := .ret ⟨[.v (.int .i64 (r.1))], [some (.var (.agg [.v (.string (r.2.1)), .v (.int .i64 (r.2.2.1)), .v (.int .i64 (r.2.2.2))]))]⟩

noncomputable def D13 : Pk → Option (Int × ByteArray × Int × Int)
  | ⟨[.v (.int .i64 x0)], [some (.var (.agg [.v (.string x1), .v (.int .i64 x2), .v (.int .i64 x3)]))]⟩ => some ((x0, x1, x2, x3))
  | _ => none

theorem D13_ok : ∀ y r, D13 y = some r → ∀ z, (O13 r).to z → y = z := by
  intro y r h
  unfold D13 at h
  split at h <;> first | (cases h; intro z hz; exact Option.some.inj hz) | cases h

noncomputable def F13 (N : Nat) : (Int × ByteArray × Int × Int) → Option (Int × ByteArray × Int × Int)
  | (x0, x1, x2, x3) =>
  Option.bind (F32 N x0) fun y0 =>
  Option.bind (F35 N (y0, x1, x2, x3)) fun y1 =>
  if (!Prod.fst y1) = true then
    some (((0 : Int), Prod.fst (Prod.snd y1), Prod.fst (Prod.snd (Prod.snd y1)), Prod.snd (Prod.snd (Prod.snd y1))))
  else
    Option.bind (F13_250 N N ((0 : Int), (0 : Int), y0, y0, Prod.fst (Prod.snd y1), Prod.fst (Prod.snd (Prod.snd y1)), Prod.snd (Prod.snd (Prod.snd y1)))) fun y2 =>
    some ((Prod.fst (Prod.snd y2), Prod.fst (Prod.snd (Prod.snd y2)), IntKind.wrap IntKind.i64 (Prod.fst (Prod.snd (Prod.snd (Prod.snd y2))) + Prod.fst y2), Prod.snd (Prod.snd (Prod.snd (Prod.snd y2)))))

theorem F13_eq (N : Nat) (x0 : Int) (x1 : ByteArray) (x2 : Int) (x3 : Int) : (fnEv (mkE Try.prog ownT (tab13 N) [(250, C13_250 N N)]) Try.f13 (J13 (x0, x1, x2, x3))).run D13 = F13 N (x0, x1, x2, x3) := by kernel_rfl

noncomputable def T13 (N : Nat) : Pk → Tr Pk := tell I13 (F13 N) O13

theorem T13_ok (N : Nat) : FOK Try.prog 13 (T13 N) :=
  tell_ok (E := (mkE Try.prog ownT (tab13 N) [(250, C13_250 N N)])) (mkE_ok mix (tab13_ok N)) Try.func13 (show Try.f13.body = some (bod Try.f13) by kernel_rfl) (by decide +kernel) I13_ok D13_ok (args := A13) (fun _ => by kernel_rfl) (fun _ => by show 2 ≤ Try.f13.ntmps; exact of_decide_eq_true (by kernel_rfl)) (cutsIn_ok ⟨C13_250_ok N N, trivial⟩) (fun x => match x with | (x0, x1, x2, x3) => F13_eq N x0 x1 x2 x3)

/-! ## f31: (*mirador/bitio.Reader).Err -/

noncomputable def I31 : Pk → Option ((ByteArray × (Int × (Int × Unit))))
  | ⟨[.radr (.cons .str (.cons (.int .i64) (.cons (.int .i64) .unit))) [x0] [.i 0 3]], []⟩ => some x0
  | _ => none

noncomputable def J31 (x : (ByteArray × (Int × (Int × Unit)))) : Pk := ⟨[.radr (.cons .str (.cons (.int .i64) (.cons (.int .i64) .unit))) [(x)] [.i 0 3]], []⟩

theorem I31_ok : ∀ pk x, I31 pk = some x → pk = J31 x := by
  intro pk x h
  unfold I31 at h
  split at h <;> first | (cases h; rfl) | cases h

noncomputable def A31 : List TV := []

noncomputable def tab31 (N : Nat) : List (Nat × (Pk → Tr Pk)) := []

theorem tab31_ok (N : Nat) : TabOK Try.prog (tab31 N) := trivial

noncomputable def O31 (r : Int) : Tr (Pk) := .ret ⟨[.v (.int .i64 (r))], []⟩

noncomputable def D31 : Pk → Option (Int)
  | ⟨[.v (.int .i64 x0)], []⟩ => some (x0)
  | _ => none

theorem D31_ok : ∀ y r, D31 y = some r → ∀ z, (O31 r).to z → y = z := by
  intro y r h
  unfold D31 at h
  split at h <;> first | (cases h; intro z hz; exact Option.some.inj hz) | cases h

noncomputable def F31 (N : Nat) : ((ByteArray × (Int × (Int × Unit)))) → Option (Int)
  | x0 =>
  some (Prod.fst (Prod.snd (Prod.snd x0)))

theorem F31_eq (N : Nat) (x0 : (ByteArray × (Int × (Int × Unit)))) : (fnEv (mkE Try.prog ownT (tab31 N) []) Try.f31 (J31 x0)).run D31 = F31 N x0 := by kernel_rfl

noncomputable def T31 (N : Nat) : Pk → Tr Pk := tell I31 (F31 N) O31

theorem T31_ok (N : Nat) : FOK Try.prog 31 (T31 N) :=
  tell_ok (E := (mkE Try.prog ownT (tab31 N) [])) (mkE_ok mix (tab31_ok N)) Try.func31 (show Try.f31.body = some (bod Try.f31) by kernel_rfl) (by decide +kernel) I31_ok D31_ok (args := A31) (fun _ => by kernel_rfl) (fun _ => by show 1 ≤ Try.f31.ntmps; exact of_decide_eq_true (by kernel_rfl)) (cutsIn_ok trivial) (fun x => match x with | x0 => F31_eq N x0)

/-! ## f8: mirador/miradorlaw02.works -/

noncomputable def I8 : Pk → Option (Unit)
  | ⟨[], []⟩ => some ()
  | _ => none

noncomputable def J8 (x : Unit) : Pk := ⟨[], []⟩

theorem I8_ok : ∀ pk x, I8 pk = some x → pk = J8 x := by
  intro pk x h
  unfold I8 at h
  split at h <;> first | (cases h; rfl) | cases h

noncomputable def A8 : List TV := []

noncomputable def tab8 (N : Nat) : List (Nat × (Pk → Tr Pk)) := [(10, T10 N), (17, T17 N), (11, T11 N), (12, T12 N), (14, T14 N), (13, T13 N), (30, T30 N), (31, T31 N)]

theorem tab8_ok (N : Nat) : TabOK Try.prog (tab8 N) := ⟨T10_ok N, ⟨T17_ok N, ⟨T11_ok N, ⟨T12_ok N, ⟨T14_ok N, ⟨T13_ok N, ⟨T30_ok N, ⟨T31_ok N, trivial⟩⟩⟩⟩⟩⟩⟩⟩

noncomputable def O8 (r : Bool) : Tr (Pk) := .ret ⟨[.v (.bool (r))], []⟩

noncomputable def D8 : Pk → Option (Bool)
  | ⟨[.v (.bool x0)], []⟩ => some (x0)
  | _ => none

theorem D8_ok : ∀ y r, D8 y = some r → ∀ z, (O8 r).to z → y = z := by
  intro y r h
  unfold D8 at h
  split at h <;> first | (cases h; intro z hz; exact Option.some.inj hz) | cases h

noncomputable def F8 (N : Nat) : (Unit) → Option (Bool)
  | () =>
  Option.bind (F10 N ((3 : Int), (5 : Int), (0 : Int), (0 : Int), [])) fun y0 =>
  Option.bind (F10 N ((2 : Int), (1 : Int), Prod.fst y0, Prod.fst (Prod.snd y0), Prod.snd (Prod.snd y0))) fun y1 =>
  Option.bind (F17 N ((6 : Int), (3 : Int), (0 : Int), (0 : Int), [])) fun y2 =>
  Option.bind (F11 N (ByteArray.mk #[(13 : UInt8)])) fun y3 =>
  Option.bind (F12 N (Prod.snd (Prod.snd y1), Prod.fst y1, Prod.fst (Prod.snd y1), ())) fun y4 =>
  if (ByteArray.toList y4 == [Subtype.val (Subtype.mk (ByteArray.get! (ByteArray.mk #[(13 : UInt8)]) (0 : Nat)) (And.left (Iff.mp List.forall_mem_cons (List.attach._proof_1 [ByteArray.get! (ByteArray.mk #[(13 : UInt8)]) (0 : Nat)]))))]) = true then
    Option.bind (F14 N (Prod.snd (Prod.snd y1), Prod.fst y1, Prod.fst (Prod.snd y1), ())) fun y5 =>
    if (y5 == (5 : Int)) = true then
      Option.bind (F12 N (Prod.snd (Prod.snd y2), Prod.fst y2, Prod.fst (Prod.snd y2), ())) fun y6 =>
      if (ByteArray.toList y6 == [Subtype.val (Subtype.mk (ByteArray.get! (ByteArray.mk #[(3 : UInt8)]) (0 : Nat)) (And.left (Iff.mp List.forall_mem_cons (List.attach._proof_1 [ByteArray.get! (ByteArray.mk #[(3 : UInt8)]) (0 : Nat)]))))]) = true then
        Option.bind (F13 N ((3 : Int), Prod.fst y3, Prod.fst (Prod.snd y3), Prod.snd (Prod.snd y3))) fun y7 =>
        if (Prod.fst y7 == (5 : Int)) = true then
          Option.bind (F13 N ((2 : Int), Prod.fst (Prod.snd y7), Prod.fst (Prod.snd (Prod.snd y7)), Prod.snd (Prod.snd (Prod.snd y7)))) fun y8 =>
          if (Prod.fst y8 == (1 : Int)) = true then
            Option.bind (F30 N (Prod.fst (Prod.snd y8), Prod.fst (Prod.snd (Prod.snd y8)), Prod.snd (Prod.snd (Prod.snd y8)), ())) fun y9 =>
            if (y9 == (3 : Int)) = true then
              Option.bind (F13 N ((4 : Int), Prod.fst (Prod.snd y8), Prod.fst (Prod.snd (Prod.snd y8)), Prod.snd (Prod.snd (Prod.snd y8)))) fun y10 =>
              if (Prod.fst y10 == (0 : Int)) = true then
                Option.bind (F31 N (Prod.fst (Prod.snd y10), Prod.fst (Prod.snd (Prod.snd y10)), Prod.snd (Prod.snd (Prod.snd y10)), ())) fun y11 =>
                some (y11 == (2 : Int))
              else
                some (false)
            else
              some (false)
          else
            some (false)
        else
          some (false)
      else
        some (false)
    else
      some (false)
  else
    some (false)

theorem F8_eq (N : Nat)  : (fnEv (mkE Try.prog ownT (tab8 N) []) Try.f8 (J8 ())).run D8 = F8 N () := by kernel_rfl

noncomputable def T8 (N : Nat) : Pk → Tr Pk := tell I8 (F8 N) O8

theorem T8_ok (N : Nat) : FOK Try.prog 8 (T8 N) :=
  tell_ok (E := (mkE Try.prog ownT (tab8 N) [])) (mkE_ok mix (tab8_ok N)) Try.func8 (show Try.f8.body = some (bod Try.f8) by kernel_rfl) (by decide +kernel) I8_ok D8_ok (args := A8) (fun _ => by kernel_rfl) (fun _ => by show 0 ≤ Try.f8.ntmps; exact of_decide_eq_true (by kernel_rfl)) (cutsIn_ok trivial) (fun x => match x with | () => F8_eq N )

/-! ## f3: mirador/miradorlaw02.BitioReverse -/

noncomputable def I3 : Pk → Option (Int × Int × Int)
  | ⟨[.agg [.v (.int .i64 x0), .v (.int .i64 x1)], .v (.int .i64 x2)], []⟩ => some (x0, x1, x2)
  | _ => none

noncomputable def J3 (x : Int × Int × Int) : Pk := ⟨[.agg [.v (.int .i64 (x.1)), .v (.int .i64 (x.2.1))], .v (.int .i64 (x.2.2))], []⟩

theorem I3_ok : ∀ pk x, I3 pk = some x → pk = J3 x := by
  intro pk x h
  unfold I3 at h
  split at h <;> first | (cases h; rfl) | cases h

noncomputable def A3 : List TV := []

noncomputable def tab3 (N : Nat) : List (Nat × (Pk → Tr Pk)) := [(8, T8 N), (9, T9 N)]

theorem tab3_ok (N : Nat) : TabOK Try.prog (tab3 N) := ⟨T8_ok N, ⟨T9_ok N, trivial⟩⟩

noncomputable def O3 (r : Bool) : Tr (Pk) := .ret ⟨[.v (.bool (r))], []⟩

noncomputable def D3 : Pk → Option (Bool)
  | ⟨[.v (.bool x0)], []⟩ => some (x0)
  | _ => none

theorem D3_ok : ∀ y r, D3 y = some r → ∀ z, (O3 r).to z → y = z := by
  intro y r h
  unfold D3 at h
  split at h <;> first | (cases h; intro z hz; exact Option.some.inj hz) | cases h

noncomputable def F3 (N : Nat) : (Int × Int × Int) → Option (Bool)
  | (x0, x1, x2) =>
  Option.bind (F8 N ()) fun y0 =>
  if (!y0) = true then
    some (false)
  else
    Option.bind (F9 N (x0, x1)) fun y1 =>
    Option.bind (F9 N (y1, x1)) fun y2 =>
    if (decide ((if (32 : Int) < if (0 : Int) > x1 then (0 : Int) else x1 then (32 : Int) else if (0 : Int) > x1 then (0 : Int) else x1) < (0 : Int))) = true then
      none
    else
      if (y2 != IntKind.wrap IntKind.i64 (↑(BitVec.toNat (BitVec.ofInt (64 : Nat) x0 &&& BitVec.ofInt (64 : Nat) (IntKind.wrap IntKind.i64 (IntKind.wrap IntKind.i64 ((1 : Int) * (2 : Int) ^ min (Int.toNat (if (32 : Int) < if (0 : Int) > x1 then (0 : Int) else x1 then (32 : Int) else if (0 : Int) > x1 then (0 : Int) else x1)) (64 : Nat)) - (1 : Int))))) : Int)) = true then
        some (false)
      else
        if (decide (y1 < (0 : Int))) = true then
          some (false)
        else
          if (decide ((if (32 : Int) < if (0 : Int) > x1 then (0 : Int) else x1 then (32 : Int) else if (0 : Int) > x1 then (0 : Int) else x1) < (0 : Int))) = true then
            none
          else
            if (decide (y1 ≥ IntKind.wrap IntKind.i64 ((1 : Int) * (2 : Int) ^ min (Int.toNat (if (32 : Int) < if (0 : Int) > x1 then (0 : Int) else x1 then (32 : Int) else if (0 : Int) > x1 then (0 : Int) else x1)) (64 : Nat)))) = true then
              some (false)
            else
              if (decide (x2 < (0 : Int))) = true then
                some (y0)
              else
                if (decide (x2 ≥ if (32 : Int) < if (0 : Int) > x1 then (0 : Int) else x1 then (32 : Int) else if (0 : Int) > x1 then (0 : Int) else x1)) = true then
                  some (y0)
                else
                  if (y0) = true then
                    if (decide (x2 < (0 : Int))) = true then
                      none
                    else
                      if (decide (IntKind.wrap IntKind.i64 (IntKind.wrap IntKind.i64 ((if (32 : Int) < if (0 : Int) > x1 then (0 : Int) else x1 then (32 : Int) else if (0 : Int) > x1 then (0 : Int) else x1) - (1 : Int)) - x2) < (0 : Int))) = true then
                        none
                      else
                        some (IntKind.wrap IntKind.i64 (↑(BitVec.toNat (BitVec.ofInt (64 : Nat) (Int.fdiv y1 ((2 : Int) ^ min (Int.toNat x2) (64 : Nat))) &&& BitVec.ofInt (64 : Nat) (1 : Int))) : Int) == IntKind.wrap IntKind.i64 (↑(BitVec.toNat (BitVec.ofInt (64 : Nat) (Int.fdiv x0 ((2 : Int) ^ min (Int.toNat (IntKind.wrap IntKind.i64 (IntKind.wrap IntKind.i64 ((if (32 : Int) < if (0 : Int) > x1 then (0 : Int) else x1 then (32 : Int) else if (0 : Int) > x1 then (0 : Int) else x1) - (1 : Int)) - x2))) (64 : Nat))) &&& BitVec.ofInt (64 : Nat) (1 : Int))) : Int))
                  else
                    some (false)

theorem F3_eq (N : Nat) (x0 : Int) (x1 : Int) (x2 : Int) : (fnEv (mkE Try.prog ownT (tab3 N) []) Try.f3 (J3 (x0, x1, x2))).run D3 = F3 N (x0, x1, x2) := by kernel_rfl

noncomputable def T3 (N : Nat) : Pk → Tr Pk := tell I3 (F3 N) O3

theorem T3_ok (N : Nat) : FOK Try.prog 3 (T3 N) :=
  tell_ok (E := (mkE Try.prog ownT (tab3 N) [])) (mkE_ok mix (tab3_ok N)) Try.func3 (show Try.f3.body = some (bod Try.f3) by kernel_rfl) (by decide +kernel) I3_ok D3_ok (args := A3) (fun _ => by kernel_rfl) (fun _ => by show 2 ≤ Try.f3.ntmps; exact of_decide_eq_true (by kernel_rfl)) (cutsIn_ok trivial) (fun x => match x with | (x0, x1, x2) => F3_eq N x0 x1 x2)

/-! ## f4: mirador/miradorlaw02.BitioSplit -/

noncomputable def I4 : Pk → Option (Int × Int × Int × Int)
  | ⟨[.v (.int .i64 x0), .v (.int .i64 x1), .v (.int .i64 x2), .v (.int .i64 x3)], []⟩ => some (x0, x1, x2, x3)
  | _ => none

noncomputable def J4 (x : Int × Int × Int × Int) : Pk := ⟨[.v (.int .i64 (x.1)), .v (.int .i64 (x.2.1)), .v (.int .i64 (x.2.2.1)), .v (.int .i64 (x.2.2.2))], []⟩

theorem I4_ok : ∀ pk x, I4 pk = some x → pk = J4 x := by
  intro pk x h
  unfold I4 at h
  split at h <;> first | (cases h; rfl) | cases h

noncomputable def A4 : List TV := []

noncomputable def tab4 (N : Nat) : List (Nat × (Pk → Tr Pk)) := [(8, T8 N), (10, T10 N), (12, T12 N), (11, T11 N), (13, T13 N), (14, T14 N)]

theorem tab4_ok (N : Nat) : TabOK Try.prog (tab4 N) := ⟨T8_ok N, ⟨T10_ok N, ⟨T12_ok N, ⟨T11_ok N, ⟨T13_ok N, ⟨T14_ok N, trivial⟩⟩⟩⟩⟩⟩

noncomputable def O4 (r : Bool) : Tr (Pk) := .ret ⟨[.v (.bool (r))], []⟩

noncomputable def D4 : Pk → Option (Bool)
  | ⟨[.v (.bool x0)], []⟩ => some (x0)
  | _ => none

theorem D4_ok : ∀ y r, D4 y = some r → ∀ z, (O4 r).to z → y = z := by
  intro y r h
  unfold D4 at h
  split at h <;> first | (cases h; intro z hz; exact Option.some.inj hz) | cases h

noncomputable def F4 (N : Nat) : (Int × Int × Int × Int) → Option (Bool)
  | (x0, x1, x2, x3) =>
  Option.bind (F8 N ()) fun y0 =>
  if (!y0) = true then
    some (false)
  else
    if (decide (x1 < (0 : Int))) = true then
      some (y0)
    else
      if (decide (x2 < (0 : Int))) = true then
        some (y0)
      else
        if (decide (x1 > (32 : Int))) = true then
          some (y0)
        else
          if (decide (x2 > IntKind.wrap IntKind.i64 ((32 : Int) - x1))) = true then
            some (y0)
          else
            Option.bind (F10 N (x3, (0 : Int), (0 : Int), (0 : Int), [])) fun y1 =>
            Option.bind (F10 N (x3, (0 : Int), (0 : Int), (0 : Int), [])) fun y2 =>
            Option.bind (F10 N (x1, x0, Prod.fst y1, Prod.fst (Prod.snd y1), Prod.snd (Prod.snd y1))) fun y3 =>
            if (decide (x1 < (0 : Int))) = true then
              none
            else
              Option.bind (F10 N (x2, Int.fdiv x0 ((2 : Int) ^ min (Int.toNat x1) (64 : Nat)), Prod.fst y3, Prod.fst (Prod.snd y3), Prod.snd (Prod.snd y3))) fun y4 =>
              Option.bind (F10 N (IntKind.wrap IntKind.i64 (x1 + x2), x0, Prod.fst y2, Prod.fst (Prod.snd y2), Prod.snd (Prod.snd y2))) fun y5 =>
              Option.bind (F12 N (Prod.snd (Prod.snd y4), Prod.fst y4, Prod.fst (Prod.snd y4), ())) fun y6 =>
              Option.bind (F11 N y6) fun y7 =>
              Option.bind (F13 N (x3, Prod.fst y7, Prod.fst (Prod.snd y7), Prod.snd (Prod.snd y7))) fun y8 =>
              Option.bind (F13 N (x1, Prod.fst (Prod.snd y8), Prod.fst (Prod.snd (Prod.snd y8)), Prod.snd (Prod.snd (Prod.snd y8)))) fun y9 =>
              Option.bind (F13 N (x2, Prod.fst (Prod.snd y9), Prod.fst (Prod.snd (Prod.snd y9)), Prod.snd (Prod.snd (Prod.snd y9)))) fun y10 =>
              if (y0) = true then
                Option.bind (F12 N (Prod.snd (Prod.snd y4), Prod.fst y4, Prod.fst (Prod.snd y4), ())) fun y11 =>
                Option.bind (F12 N (Prod.snd (Prod.snd y5), Prod.fst y5, Prod.fst (Prod.snd y5), ())) fun y12 =>
                if (ByteArray.toList y11 == ByteArray.toList y12) = true then
                  Option.bind (F14 N (Prod.snd (Prod.snd y4), Prod.fst y4, Prod.fst (Prod.snd y4), ())) fun y13 =>
                  Option.bind (F14 N (Prod.snd (Prod.snd y5), Prod.fst y5, Prod.fst (Prod.snd y5), ())) fun y14 =>
                  if (y13 == y14) = true then
                    if (decide (x1 < (0 : Int))) = true then
                      none
                    else
                      if (decide (IntKind.wrap IntKind.i64 (x1 + x2) < (0 : Int))) = true then
                        none
                      else
                        some (IntKind.wrap IntKind.i64 (↑(BitVec.toNat (BitVec.ofInt (64 : Nat) (Prod.fst y9) ||| BitVec.ofInt (64 : Nat) (IntKind.wrap IntKind.i64 (Prod.fst y10 * (2 : Int) ^ min (Int.toNat x1) (64 : Nat))))) : Int) == IntKind.wrap IntKind.i64 (↑(BitVec.toNat (BitVec.ofInt (64 : Nat) x0 &&& BitVec.ofInt (64 : Nat) (IntKind.wrap IntKind.i64 (IntKind.wrap IntKind.i64 ((1 : Int) * (2 : Int) ^ min (Int.toNat (IntKind.wrap IntKind.i64 (x1 + x2))) (64 : Nat)) - (1 : Int))))) : Int))
                  else
                    some (false)
                else
                  some (false)
              else
                some (false)

theorem F4_eq (N : Nat) (x0 : Int) (x1 : Int) (x2 : Int) (x3 : Int) : (fnEv (mkE Try.prog ownT (tab4 N) []) Try.f4 (J4 (x0, x1, x2, x3))).run D4 = F4 N (x0, x1, x2, x3) := by kernel_rfl

noncomputable def T4 (N : Nat) : Pk → Tr Pk := tell I4 (F4 N) O4

theorem T4_ok (N : Nat) : FOK Try.prog 4 (T4 N) :=
  tell_ok (E := (mkE Try.prog ownT (tab4 N) [])) (mkE_ok mix (tab4_ok N)) Try.func4 (show Try.f4.body = some (bod Try.f4) by kernel_rfl) (by decide +kernel) I4_ok D4_ok (args := A4) (fun _ => by kernel_rfl) (fun _ => by show 4 ≤ Try.f4.ntmps; exact of_decide_eq_true (by kernel_rfl)) (cutsIn_ok trivial) (fun x => match x with | (x0, x1, x2, x3) => F4_eq N x0 x1 x2 x3)

/-! ## f15: mirador/miradorlaw02.over -/

noncomputable def I15 : Pk → Option ((List (Int × (Int × (Int × (ByteArray × Unit))))))
  | ⟨[.ro (.cons (.int .i64) (.cons (.int .i64) (.cons (.int .i64) (.cons .str .unit)))) x0], []⟩ => some x0
  | _ => none

noncomputable def J15 (x : (List (Int × (Int × (Int × (ByteArray × Unit)))))) : Pk := ⟨[.ro (.cons (.int .i64) (.cons (.int .i64) (.cons (.int .i64) (.cons .str .unit)))) (x)], []⟩

theorem I15_ok : ∀ pk x, I15 pk = some x → pk = J15 x := by
  intro pk x h
  unfold I15 at h
  split at h <;> first | (cases h; rfl) | cases h

noncomputable def A15 : List TV := []

noncomputable def tab15 (N : Nat) : List (Nat × (Pk → Tr Pk)) := []

theorem tab15_ok (N : Nat) : TabOK Try.prog (tab15 N) := trivial

def X15_58 : Ex → List Nat
  | .ret => [2]
  | .exit 0 => []
  | _ => []

noncomputable def I15_58 : Pk → Option ((List (Int × (Int × (Int × (ByteArray × Unit))))) × Int)
  | ⟨[.ro (Ty.cons (Ty.int IntKind.i64) (Ty.cons (Ty.int IntKind.i64) (Ty.cons (Ty.int IntKind.i64) (Ty.cons Ty.str Ty.unit)))) x0, .v (.int .i64 x1)], []⟩ => some (x0, x1)
  | _ => none

noncomputable def J15_58 (x : (List (Int × (Int × (Int × (ByteArray × Unit))))) × Int) : Pk := ⟨[.ro (Ty.cons (Ty.int IntKind.i64) (Ty.cons (Ty.int IntKind.i64) (Ty.cons (Ty.int IntKind.i64) (Ty.cons Ty.str Ty.unit)))) (x.1), .v (.int .i64 (x.2))], []⟩

theorem I15_58_ok : ∀ pk x, I15_58 pk = some x → pk = J15_58 x := by
  intro pk x h
  unfold I15_58 at h
  split at h <;> first | (cases h; rfl) | cases h

noncomputable def O15_58 (r : ((Bool) ⊕ (Unit))) : Tr (Ex × Pk) := .sum _ _ r (fun u => .ret (.ret, ⟨[.v (.bool (u))], []⟩)) (fun v => .ret (.exit 0, ⟨[], []⟩))

noncomputable def D15_58 : Ex × Pk → Option (((Bool) ⊕ (Unit)))
  | (.ret, ⟨[.v (.bool x0)], []⟩) => some (.inl (x0))
  | (.exit 0, ⟨[], []⟩) => some (.inr (()))
  | _ => none

theorem D15_58_ok : ∀ y r, D15_58 y = some r → ∀ z, (O15_58 r).to z → y = z := by
  intro y r h
  unfold D15_58 at h
  split at h <;> first | (cases h; intro z hz; exact Option.some.inj hz) | cases h

noncomputable def B15_58 (N : Nat) (f : ((List (Int × (Int × (Int × (ByteArray × Unit))))) × Int) → Option (((Bool) ⊕ (Unit)))) : ((List (Int × (Int × (Int × (ByteArray × Unit))))) × Int) → Option (((Bool) ⊕ (Unit)))
  | (x0, x1) =>
  if (decide (x1 < (↑(List.length x0) : Int))) = true then
    if (within x1 (List.length x0)) = true then
      Option.bind (x0[Int.toNat x1]?) fun y0 =>
      if (decide ((↑(ByteArray.size (Prod.fst (Prod.snd (Prod.snd (Prod.snd y0))))) : Int) > (60 : Int))) = true then
        some (.inl (true))
      else
        Option.bind (f (x0, IntKind.wrap IntKind.i64 (x1 + (1 : Int)))) fun r => match r with | .inl (y) => some (.inl (y)) | .inr (y) => some (.inr (y))
    else
      none
  else
    some (.inr (()))

noncomputable def F15_58 (N : Nat) : Nat → ((List (Int × (Int × (Int × (ByteArray × Unit))))) × Int) → Option (((Bool) ⊕ (Unit)))
  | 0, _ => none
  | k + 1, x => B15_58 N (F15_58 N k) x

noncomputable def C15_58 (N k : Nat) : Cut := ⟨[0, 3], X15_58, tellX I15_58 (F15_58 N k) O15_58⟩

theorem B15_58_eq (N : Nat) (f : ((List (Int × (Int × (Int × (ByteArray × Unit))))) × Int) → Option (((Bool) ⊕ (Unit)))) (x0 : (List (Int × (Int × (Int × (ByteArray × Unit)))))) (x1 : Int) : (roundEv (mkE Try.prog ownT (tab15 N) []) Try.f15.ntmps A15 (loopAt (bod Try.f15) 58) 58 ⟨[0, 3], X15_58, tellX I15_58 f O15_58⟩ (J15_58 (x0, x1))).run D15_58 = B15_58 N f (x0, x1) := by kernel_rfl

theorem C15_58_ok (N k : Nat) : ∀ c', At (bod Try.f15) 58 c' → CutOK Try.prog Try.f15.ntmps (idsL A15) c' (C15_58 N k) :=
  loop_ok (E := (mkE Try.prog ownT (tab15 N) [])) (mkE_ok mix (tab15_ok N)) (cutsIn_ok trivial) (fuel := 200) (by decide +kernel) (by kernel_rfl) I15_58_ok D15_58_ok (B15_58 N) (F15_58 N) (fun _ => rfl) (fun _ _ => rfl) (fun f x => match x with | (x0, x1) => B15_58_eq N f x0 x1) k

noncomputable def O15 (r : Bool) : Tr (Pk) := .ret ⟨[.v (.bool (r))], []⟩

noncomputable def D15 : Pk → Option (Bool)
  | ⟨[.v (.bool x0)], []⟩ => some (x0)
  | _ => none

theorem D15_ok : ∀ y r, D15 y = some r → ∀ z, (O15 r).to z → y = z := by
  intro y r h
  unfold D15 at h
  split at h <;> first | (cases h; intro z hz; exact Option.some.inj hz) | cases h

noncomputable def F15 (N : Nat) : ((List (Int × (Int × (Int × (ByteArray × Unit)))))) → Option (Bool)
  | x0 =>
  if (decide ((↑(List.length x0) : Int) > (60 : Int))) = true then
    some (true)
  else
    Option.bind (F15_58 N N (x0, (0 : Int))) fun y0 =>
    match y0 with
    | .inl y1 =>
      some (y1)
    | .inr y1 =>
      some (false)

theorem F15_eq (N : Nat) (x0 : (List (Int × (Int × (Int × (ByteArray × Unit)))))) : (fnEv (mkE Try.prog ownT (tab15 N) [(58, C15_58 N N)]) Try.f15 (J15 x0)).run D15 = F15 N x0 := by kernel_rfl

noncomputable def T15 (N : Nat) : Pk → Tr Pk := tell I15 (F15 N) O15

theorem T15_ok (N : Nat) : FOK Try.prog 15 (T15 N) :=
  tell_ok (E := (mkE Try.prog ownT (tab15 N) [(58, C15_58 N N)])) (mkE_ok mix (tab15_ok N)) Try.func15 (show Try.f15.body = some (bod Try.f15) by kernel_rfl) (by decide +kernel) I15_ok D15_ok (args := A15) (fun _ => by kernel_rfl) (fun _ => by show 1 ≤ Try.f15.ntmps; exact of_decide_eq_true (by kernel_rfl)) (cutsIn_ok ⟨C15_58_ok N N, trivial⟩) (fun x => match x with | x0 => F15_eq N x0)

/-! ## f36: mirador/miradorref02.Count -/

noncomputable def I36 : Pk → Option (Int)
  | ⟨[.v (.int .i64 x0)], []⟩ => some x0
  | _ => none

noncomputable def J36 (x : Int) : Pk := ⟨[.v (.int .i64 (x))], []⟩

theorem I36_ok : ∀ pk x, I36 pk = some x → pk = J36 x := by
  intro pk x h
  unfold I36 at h
  split at h <;> first | (cases h; rfl) | cases h

noncomputable def A36 : List TV := []

noncomputable def tab36 (N : Nat) : List (Nat × (Pk → Tr Pk)) := []

theorem tab36_ok (N : Nat) : TabOK Try.prog (tab36 N) := trivial

noncomputable def O36 (r : Int) : Tr (Pk) := .ret ⟨[.v (.int .i64 (r))], []⟩

noncomputable def D36 : Pk → Option (Int)
  | ⟨[.v (.int .i64 x0)], []⟩ => some (x0)
  | _ => none

theorem D36_ok : ∀ y r, D36 y = some r → ∀ z, (O36 r).to z → y = z := by
  intro y r h
  unfold D36 at h
  split at h <;> first | (cases h; intro z hz; exact Option.some.inj hz) | cases h

noncomputable def F36 (N : Nat) : (Int) → Option (Int)
  | x0 =>
  some (if (32 : Int) < if (0 : Int) > x0 then (0 : Int) else x0 then (32 : Int) else if (0 : Int) > x0 then (0 : Int) else x0)

theorem F36_eq (N : Nat) (x0 : Int) : (fnEv (mkE Try.prog ownT (tab36 N) []) Try.f36 (J36 x0)).run D36 = F36 N x0 := by kernel_rfl

noncomputable def T36 (N : Nat) : Pk → Tr Pk := tell I36 (F36 N) O36

theorem T36_ok (N : Nat) : FOK Try.prog 36 (T36 N) :=
  tell_ok (E := (mkE Try.prog ownT (tab36 N) [])) (mkE_ok mix (tab36_ok N)) Try.func36 (show Try.f36.body = some (bod Try.f36) by kernel_rfl) (by decide +kernel) I36_ok D36_ok (args := A36) (fun _ => by kernel_rfl) (fun _ => by show 1 ≤ Try.f36.ntmps; exact of_decide_eq_true (by kernel_rfl)) (cutsIn_ok trivial) (fun x => match x with | x0 => F36_eq N x0)

/-! ## f16: mirador/miradorref02.Of -/

noncomputable def I16 : Pk → Option (Int × Int)
  | ⟨[.v (.int .i64 x0), .v (.int .i64 x1)], []⟩ => some (x0, x1)
  | _ => none

noncomputable def J16 (x : Int × Int) : Pk := ⟨[.v (.int .i64 (x.1)), .v (.int .i64 (x.2))], []⟩

theorem I16_ok : ∀ pk x, I16 pk = some x → pk = J16 x := by
  intro pk x h
  unfold I16 at h
  split at h <;> first | (cases h; rfl) | cases h

noncomputable def A16 : List TV := []

noncomputable def tab16 (N : Nat) : List (Nat × (Pk → Tr Pk)) := [(36, T36 N)]

theorem tab16_ok (N : Nat) : TabOK Try.prog (tab16 N) := ⟨T36_ok N, trivial⟩

def X16_58 : Ex → List Nat
  | .ret => [4]
  | .exit 0 => [5]
  | _ => []

noncomputable def I16_58 : Pk → Option (Int × Int × Int × (List Bool))
  | ⟨[.sl 0 (none), .v (.int .i64 x0), .v (.int .i64 x1), .v (.int .i64 x2)], [some (.row (Ty.bool) 4 x3)]⟩ => some (x0, x1, x2, x3)
  | _ => none

noncomputable def J16_58 (x : Int × Int × Int × (List Bool)) : Pk := ⟨[.sl 0 (none), .v (.int .i64 (x.1)), .v (.int .i64 (x.2.1)), .v (.int .i64 (x.2.2.1))], [some (.row (Ty.bool) 4 (x.2.2.2))]⟩

theorem I16_58_ok : ∀ pk x, I16_58 pk = some x → pk = J16_58 x := by
  intro pk x h
  unfold I16_58 at h
  split at h <;> first | (cases h; rfl) | cases h

noncomputable def O16_58 (r : (List Bool)) : Tr (Ex × Pk) := .ret (.exit 0, ⟨[.sl 0 (none)], [some (.row (Ty.bool) 4 (r))]⟩)

noncomputable def D16_58 : Ex × Pk → Option ((List Bool))
  | (.exit 0, ⟨[.sl 0 (none)], [some (.row (Ty.bool) 4 x0)]⟩) => some (x0)
  | _ => none

theorem D16_58_ok : ∀ y r, D16_58 y = some r → ∀ z, (O16_58 r).to z → y = z := by
  intro y r h
  unfold D16_58 at h
  split at h <;> first | (cases h; intro z hz; exact Option.some.inj hz) | cases h

noncomputable def B16_58 (N : Nat) (f : (Int × Int × Int × (List Bool)) → Option ((List Bool))) : (Int × Int × Int × (List Bool)) → Option ((List Bool))
  | (x0, x1, x2, x3) =>
  Option.bind (F36 N x2) fun y0 =>
  if (decide (x1 < y0)) = true then
    if (decide ((List.length x3 + List.length [IntKind.wrap IntKind.i64 (↑(BitVec.toNat (BitVec.ofInt (64 : Nat) x0 &&& BitVec.ofInt (64 : Nat) (1 : Int))) : Int) == (1 : Int)]) * (1 : Nat) ≤ (140737488355328 : Nat) ∧ List.length x3 + List.length [IntKind.wrap IntKind.i64 (↑(BitVec.toNat (BitVec.ofInt (64 : Nat) x0 &&& BitVec.ofInt (64 : Nat) (1 : Int))) : Int) == (1 : Int)] ≤ (140737488355328 : Nat))) = true then
      Option.bind (f (Int.fdiv x0 (2 : Int), IntKind.wrap IntKind.i64 (x1 + (1 : Int)), x2, x3 ++ [IntKind.wrap IntKind.i64 (↑(BitVec.toNat (BitVec.ofInt (64 : Nat) x0 &&& BitVec.ofInt (64 : Nat) (1 : Int))) : Int) == (1 : Int)])) fun r => some r
    else
      none
  else
    some (x3)

noncomputable def F16_58 (N : Nat) : Nat → (Int × Int × Int × (List Bool)) → Option ((List Bool))
  | 0, _ => none
  | k + 1, x => B16_58 N (F16_58 N k) x

noncomputable def C16_58 (N k : Nat) : Cut := ⟨[5, 1, 6, 0], X16_58, tellX I16_58 (F16_58 N k) O16_58⟩

theorem B16_58_eq (N : Nat) (f : (Int × Int × Int × (List Bool)) → Option ((List Bool))) (x0 : Int) (x1 : Int) (x2 : Int) (x3 : (List Bool)) : (roundEv (mkE Try.prog ownT (tab16 N) []) Try.f16.ntmps A16 (loopAt (bod Try.f16) 58) 58 ⟨[5, 1, 6, 0], X16_58, tellX I16_58 f O16_58⟩ (J16_58 (x0, x1, x2, x3))).run D16_58 = B16_58 N f (x0, x1, x2, x3) := by kernel_rfl

theorem C16_58_ok (N k : Nat) : ∀ c', At (bod Try.f16) 58 c' → CutOK Try.prog Try.f16.ntmps (idsL A16) c' (C16_58 N k) :=
  loop_ok (E := (mkE Try.prog ownT (tab16 N) [])) (mkE_ok mix (tab16_ok N)) (cutsIn_ok trivial) (fuel := 200) (by decide +kernel) (by kernel_rfl) I16_58_ok D16_58_ok (B16_58 N) (F16_58 N) (fun _ => rfl) (fun _ _ => rfl) (fun f x => match x with | (x0, x1, x2, x3) => B16_58_eq N f x0 x1 x2 x3) k

noncomputable def O16 (r : (List Bool)) : Tr (Pk) := .ret ⟨[.sl 0 (none)], [some (.row (Ty.bool) 4 (r))]⟩

noncomputable def D16 : Pk → Option ((List Bool))
  | ⟨[.sl 0 (none)], [some (.row (Ty.bool) 4 x0)]⟩ => some (x0)
  | _ => none

theorem D16_ok : ∀ y r, D16 y = some r → ∀ z, (O16 r).to z → y = z := by
  intro y r h
  unfold D16 at h
  split at h <;> first | (cases h; intro z hz; exact Option.some.inj hz) | cases h

noncomputable def F16 (N : Nat) : (Int × Int) → Option ((List Bool))
  | (x0, x1) =>
  Option.bind (F16_58 N N (x1, (0 : Int), x0, [])) fun y0 =>
  some (y0)

theorem F16_eq (N : Nat) (x0 : Int) (x1 : Int) : (fnEv (mkE Try.prog ownT (tab16 N) [(58, C16_58 N N)]) Try.f16 (J16 (x0, x1))).run D16 = F16 N (x0, x1) := by kernel_rfl

noncomputable def T16 (N : Nat) : Pk → Tr Pk := tell I16 (F16 N) O16

theorem T16_ok (N : Nat) : FOK Try.prog 16 (T16 N) :=
  tell_ok (E := (mkE Try.prog ownT (tab16 N) [(58, C16_58 N N)])) (mkE_ok mix (tab16_ok N)) Try.func16 (show Try.f16.body = some (bod Try.f16) by kernel_rfl) (by decide +kernel) I16_ok D16_ok (args := A16) (fun _ => by kernel_rfl) (fun _ => by show 2 ≤ Try.f16.ntmps; exact of_decide_eq_true (by kernel_rfl)) (cutsIn_ok ⟨C16_58_ok N N, trivial⟩) (fun x => match x with | (x0, x1) => F16_eq N x0 x1)

/-! ## f37: mirador/miradorref02.Number -/

noncomputable def I37 : Pk → Option ((List Bool))
  | ⟨[.ro .bool x0], []⟩ => some x0
  | _ => none

noncomputable def J37 (x : (List Bool)) : Pk := ⟨[.ro .bool (x)], []⟩

theorem I37_ok : ∀ pk x, I37 pk = some x → pk = J37 x := by
  intro pk x h
  unfold I37 at h
  split at h <;> first | (cases h; rfl) | cases h

noncomputable def A37 : List TV := []

noncomputable def tab37 (N : Nat) : List (Nat × (Pk → Tr Pk)) := []

theorem tab37_ok (N : Nat) : TabOK Try.prog (tab37 N) := trivial

def X37_58 : Ex → List Nat
  | .ret => [2]
  | .exit 0 => [3]
  | _ => []

noncomputable def I37_58 : Pk → Option (Int × Int × (List Bool))
  | ⟨[.v (.int .i64 x0), .v (.int .i64 x1), .ro (Ty.bool) x2], []⟩ => some (x0, x1, x2)
  | _ => none

noncomputable def J37_58 (x : Int × Int × (List Bool)) : Pk := ⟨[.v (.int .i64 (x.1)), .v (.int .i64 (x.2.1)), .ro (Ty.bool) (x.2.2)], []⟩

theorem I37_58_ok : ∀ pk x, I37_58 pk = some x → pk = J37_58 x := by
  intro pk x h
  unfold I37_58 at h
  split at h <;> first | (cases h; rfl) | cases h

noncomputable def O37_58 (r : Int) : Tr (Ex × Pk) := .ret (.exit 0, ⟨[.v (.int .i64 (r))], []⟩)

noncomputable def D37_58 : Ex × Pk → Option (Int)
  | (.exit 0, ⟨[.v (.int .i64 x0)], []⟩) => some (x0)
  | _ => none

theorem D37_58_ok : ∀ y r, D37_58 y = some r → ∀ z, (O37_58 r).to z → y = z := by
  intro y r h
  unfold D37_58 at h
  split at h <;> first | (cases h; intro z hz; exact Option.some.inj hz) | cases h

noncomputable def B37_58 (N : Nat) (f : (Int × Int × (List Bool)) → Option (Int)) : (Int × Int × (List Bool)) → Option (Int)
  | (x0, x1, x2) =>
  if (decide (x1 ≥ (0 : Int))) = true then
    if (within x1 (List.length x2)) = true then
      Option.bind (x2[Int.toNat x1]?) fun y0 =>
      if (y0) = true then
        Option.bind (f (IntKind.wrap IntKind.i64 (IntKind.wrap IntKind.i64 (x0 * (2 : Int)) + (1 : Int)), IntKind.wrap IntKind.i64 (x1 - (1 : Int)), x2)) fun r => some r
      else
        Option.bind (f (IntKind.wrap IntKind.i64 (x0 * (2 : Int)), IntKind.wrap IntKind.i64 (x1 - (1 : Int)), x2)) fun r => some r
    else
      none
  else
    some (x0)

noncomputable def F37_58 (N : Nat) : Nat → (Int × Int × (List Bool)) → Option (Int)
  | 0, _ => none
  | k + 1, x => B37_58 N (F37_58 N k) x

noncomputable def C37_58 (N k : Nat) : Cut := ⟨[3, 4, 0], X37_58, tellX I37_58 (F37_58 N k) O37_58⟩

theorem B37_58_eq (N : Nat) (f : (Int × Int × (List Bool)) → Option (Int)) (x0 : Int) (x1 : Int) (x2 : (List Bool)) : (roundEv (mkE Try.prog ownT (tab37 N) []) Try.f37.ntmps A37 (loopAt (bod Try.f37) 58) 58 ⟨[3, 4, 0], X37_58, tellX I37_58 f O37_58⟩ (J37_58 (x0, x1, x2))).run D37_58 = B37_58 N f (x0, x1, x2) := by kernel_rfl

theorem C37_58_ok (N k : Nat) : ∀ c', At (bod Try.f37) 58 c' → CutOK Try.prog Try.f37.ntmps (idsL A37) c' (C37_58 N k) :=
  loop_ok (E := (mkE Try.prog ownT (tab37 N) [])) (mkE_ok mix (tab37_ok N)) (cutsIn_ok trivial) (fuel := 200) (by decide +kernel) (by kernel_rfl) I37_58_ok D37_58_ok (B37_58 N) (F37_58 N) (fun _ => rfl) (fun _ _ => rfl) (fun f x => match x with | (x0, x1, x2) => B37_58_eq N f x0 x1 x2) k

noncomputable def O37 (r : Int) : Tr (Pk) := .ret ⟨[.v (.int .i64 (r))], []⟩

noncomputable def D37 : Pk → Option (Int)
  | ⟨[.v (.int .i64 x0)], []⟩ => some (x0)
  | _ => none

theorem D37_ok : ∀ y r, D37 y = some r → ∀ z, (O37 r).to z → y = z := by
  intro y r h
  unfold D37 at h
  split at h <;> first | (cases h; intro z hz; exact Option.some.inj hz) | cases h

noncomputable def F37 (N : Nat) : ((List Bool)) → Option (Int)
  | x0 =>
  Option.bind (F37_58 N N ((0 : Int), IntKind.wrap IntKind.i64 ((↑(List.length x0) : Int) - (1 : Int)), x0)) fun y0 =>
  some (y0)

theorem F37_eq (N : Nat) (x0 : (List Bool)) : (fnEv (mkE Try.prog ownT (tab37 N) [(58, C37_58 N N)]) Try.f37 (J37 x0)).run D37 = F37 N x0 := by kernel_rfl

noncomputable def T37 (N : Nat) : Pk → Tr Pk := tell I37 (F37 N) O37

theorem T37_ok (N : Nat) : FOK Try.prog 37 (T37 N) :=
  tell_ok (E := (mkE Try.prog ownT (tab37 N) [(58, C37_58 N N)])) (mkE_ok mix (tab37_ok N)) Try.func37 (show Try.f37.body = some (bod Try.f37) by kernel_rfl) (by decide +kernel) I37_ok D37_ok (args := A37) (fun _ => by kernel_rfl) (fun _ => by show 1 ≤ Try.f37.ntmps; exact of_decide_eq_true (by kernel_rfl)) (cutsIn_ok ⟨C37_58_ok N N, trivial⟩) (fun x => match x with | x0 => F37_eq N x0)

/-! ## f18: mirador/miradorref02.Reverse -/

noncomputable def I18 : Pk → Option (Int × Int)
  | ⟨[.agg [.v (.int .i64 x0), .v (.int .i64 x1)]], []⟩ => some (x0, x1)
  | _ => none

noncomputable def J18 (x : Int × Int) : Pk := ⟨[.agg [.v (.int .i64 (x.1)), .v (.int .i64 (x.2))]], []⟩

theorem I18_ok : ∀ pk x, I18 pk = some x → pk = J18 x := by
  intro pk x h
  unfold I18 at h
  split at h <;> first | (cases h; rfl) | cases h

noncomputable def A18 : List TV := []

noncomputable def tab18 (N : Nat) : List (Nat × (Pk → Tr Pk)) := [(16, T16 N), (37, T37 N)]

theorem tab18_ok (N : Nat) : TabOK Try.prog (tab18 N) := ⟨T16_ok N, ⟨T37_ok N, trivial⟩⟩

def X18_122 : Ex → List Nat
  | .ret => [2]
  | .exit 0 => [4]
  | _ => []

noncomputable def I18_122 : Pk → Option (Int × (List Bool) × (List Bool))
  | ⟨[.sl 0 (none), .v (.int .i64 x0), .sl 1 (none)], [some (.row (Ty.bool) 4 x1), some (.row (Ty.bool) 4 x2)]⟩ => some (x0, x1, x2)
  | _ => none

noncomputable def J18_122 (x : Int × (List Bool) × (List Bool)) : Pk := ⟨[.sl 0 (none), .v (.int .i64 (x.1)), .sl 1 (none)], [some (.row (Ty.bool) 4 (x.2.1)), some (.row (Ty.bool) 4 (x.2.2))]⟩

theorem I18_122_ok : ∀ pk x, I18_122 pk = some x → pk = J18_122 x := by
  intro pk x h
  unfold I18_122 at h
  split at h <;> first | (cases h; rfl) | cases h

noncomputable def O18_122 (r : (List Bool)) : Tr (Ex × Pk) := .ret (.exit 0, ⟨[.sl 0 (none)], [some (.row (Ty.bool) 4 (r))]⟩)

noncomputable def D18_122 : Ex × Pk → Option ((List Bool))
  | (.exit 0, ⟨[.sl 0 (none)], [some (.row (Ty.bool) 4 x0)]⟩) => some (x0)
  | _ => none

theorem D18_122_ok : ∀ y r, D18_122 y = some r → ∀ z, (O18_122 r).to z → y = z := by
  intro y r h
  unfold D18_122 at h
  split at h <;> first | (cases h; intro z hz; exact Option.some.inj hz) | cases h

noncomputable def B18_122 (N : Nat) (f : (Int × (List Bool) × (List Bool)) → Option ((List Bool))) : (Int × (List Bool) × (List Bool)) → Option ((List Bool))
  | (x0, x1, x2) =>
  if (decide (x0 ≥ (0 : Int))) = true then
    if (within x0 (List.length x2)) = true then
      Option.bind (x2[Int.toNat x0]?) fun y0 =>
      if (decide ((List.length x1 + List.length [y0]) * (1 : Nat) ≤ (140737488355328 : Nat) ∧ List.length x1 + List.length [y0] ≤ (140737488355328 : Nat))) = true then
        Option.bind (f (IntKind.wrap IntKind.i64 (x0 - (1 : Int)), x1 ++ [y0], x2)) fun r => some r
      else
        none
    else
      none
  else
    some (x1)

noncomputable def F18_122 (N : Nat) : Nat → (Int × (List Bool) × (List Bool)) → Option ((List Bool))
  | 0, _ => none
  | k + 1, x => B18_122 N (F18_122 N k) x

noncomputable def C18_122 (N k : Nat) : Cut := ⟨[4, 5, 3], X18_122, tellX I18_122 (F18_122 N k) O18_122⟩

theorem B18_122_eq (N : Nat) (f : (Int × (List Bool) × (List Bool)) → Option ((List Bool))) (x0 : Int) (x1 : (List Bool)) (x2 : (List Bool)) : (roundEv (mkE Try.prog ownT (tab18 N) []) Try.f18.ntmps A18 (loopAt (bod Try.f18) 122) 122 ⟨[4, 5, 3], X18_122, tellX I18_122 f O18_122⟩ (J18_122 (x0, x1, x2))).run D18_122 = B18_122 N f (x0, x1, x2) := by kernel_rfl

theorem C18_122_ok (N k : Nat) : ∀ c', At (bod Try.f18) 122 c' → CutOK Try.prog Try.f18.ntmps (idsL A18) c' (C18_122 N k) :=
  loop_ok (E := (mkE Try.prog ownT (tab18 N) [])) (mkE_ok mix (tab18_ok N)) (cutsIn_ok trivial) (fuel := 200) (by decide +kernel) (by kernel_rfl) I18_122_ok D18_122_ok (B18_122 N) (F18_122 N) (fun _ => rfl) (fun _ _ => rfl) (fun f x => match x with | (x0, x1, x2) => B18_122_eq N f x0 x1 x2) k

noncomputable def O18 (r : Int) : Tr (Pk) := .ret ⟨[.v (.int .i64 (r))], []⟩

noncomputable def D18 : Pk → Option (Int)
  | ⟨[.v (.int .i64 x0)], []⟩ => some (x0)
  | _ => none

theorem D18_ok : ∀ y r, D18 y = some r → ∀ z, (O18 r).to z → y = z := by
  intro y r h
  unfold D18 at h
  split at h <;> first | (cases h; intro z hz; exact Option.some.inj hz) | cases h

noncomputable def F18 (N : Nat) : (Int × Int) → Option (Int)
  | (x0, x1) =>
  Option.bind (F16 N (x1, x0)) fun y0 =>
  Option.bind (F18_122 N N (IntKind.wrap IntKind.i64 ((↑(List.length y0) : Int) - (1 : Int)), [], y0)) fun y1 =>
  Option.bind (F37 N y1) fun y2 =>
  some (y2)

theorem F18_eq (N : Nat) (x0 : Int) (x1 : Int) : (fnEv (mkE Try.prog ownT (tab18 N) [(122, C18_122 N N)]) Try.f18 (J18 (x0, x1))).run D18 = F18 N (x0, x1) := by kernel_rfl

noncomputable def T18 (N : Nat) : Pk → Tr Pk := tell I18 (F18 N) O18

theorem T18_ok (N : Nat) : FOK Try.prog 18 (T18 N) :=
  tell_ok (E := (mkE Try.prog ownT (tab18 N) [(122, C18_122 N N)])) (mkE_ok mix (tab18_ok N)) Try.func18 (show Try.f18.body = some (bod Try.f18) by kernel_rfl) (by decide +kernel) I18_ok D18_ok (args := A18) (fun _ => by kernel_rfl) (fun _ => by show 1 ≤ Try.f18.ntmps; exact of_decide_eq_true (by kernel_rfl)) (cutsIn_ok ⟨C18_122_ok N N, trivial⟩) (fun x => match x with | (x0, x1) => F18_eq N x0 x1)

/-! ## f19: (*mirador/bitio.Writer).Align -/

noncomputable def I19 : Pk → Option (Int × Int × (List Int))
  | ⟨[.adr 0 []], [some (.var (.agg [.sl 1 none, .v (.int .i64 x0), .v (.int .i64 x1)])), some (.row (.int .u8) 5 x2)]⟩ => some (x0, x1, x2)
  | _ => none

noncomputable def J19 (x : Int × Int × (List Int)) : Pk := ⟨[.adr 0 []], [some (.var (.agg [.sl 1 none, .v (.int .i64 (x.1)), .v (.int .i64 (x.2.1))])), some (.row (.int .u8) 5 (x.2.2))]⟩

theorem I19_ok : ∀ pk x, I19 pk = some x → pk = J19 x := by
  intro pk x h
  unfold I19 at h
  split at h <;> first | (cases h; rfl) | cases h

noncomputable def A19 : List TV := [.adr 0 []]

noncomputable def tab19 (N : Nat) : List (Nat × (Pk → Tr Pk)) := [(10, T10 N)]

theorem tab19_ok (N : Nat) : TabOK Try.prog (tab19 N) := ⟨T10_ok N, trivial⟩

noncomputable def O19 (r : Int × Int × (List Int)) : Tr (Pk) := .ret ⟨[.tup []], [some (.var (.agg [.sl 1 (none), .v (.int .i64 (r.1)), .v (.int .i64 (r.2.1))])), some (.row (Ty.int IntKind.u8) 5 (r.2.2))]⟩

noncomputable def D19 : Pk → Option (Int × Int × (List Int))
  | ⟨[.tup []], [some (.var (.agg [.sl 1 (none), .v (.int .i64 x0), .v (.int .i64 x1)])), some (.row (Ty.int IntKind.u8) 5 x2)]⟩ => some ((x0, x1, x2))
  | _ => none

theorem D19_ok : ∀ y r, D19 y = some r → ∀ z, (O19 r).to z → y = z := by
  intro y r h
  unfold D19 at h
  split at h <;> first | (cases h; intro z hz; exact Option.some.inj hz) | cases h

noncomputable def F19 (N : Nat) : (Int × Int × (List Int)) → Option (Int × Int × (List Int))
  | (x0, x1, x2) =>
  Option.bind (F10 N (Int.tmod (IntKind.wrap IntKind.i64 ((8 : Int) - x1)) (8 : Int), (0 : Int), x0, x1, x2)) fun y0 =>
  some ((Prod.fst y0, Prod.fst (Prod.snd y0), Prod.snd (Prod.snd y0)))

theorem F19_eq (N : Nat) (x0 : Int) (x1 : Int) (x2 : (List Int)) : (fnEv (mkE Try.prog ownT (tab19 N) []) Try.f19 (J19 (x0, x1, x2))).run D19 = F19 N (x0, x1, x2) := by kernel_rfl

noncomputable def T19 (N : Nat) : Pk → Tr Pk := tell I19 (F19 N) O19

theorem T19_ok (N : Nat) : FOK Try.prog 19 (T19 N) :=
  tell_ok (E := (mkE Try.prog ownT (tab19 N) [])) (mkE_ok mix (tab19_ok N)) Try.func19 (show Try.f19.body = some (bod Try.f19) by kernel_rfl) (by decide +kernel) I19_ok D19_ok (args := A19) (fun _ => by kernel_rfl) (fun _ => by show 1 ≤ Try.f19.ntmps; exact of_decide_eq_true (by kernel_rfl)) (cutsIn_ok trivial) (fun x => match x with | (x0, x1, x2) => F19_eq N x0 x1 x2)

/-! ## f20: mirador/miradorref02.Align -/

noncomputable def I20 : Pk → Option ((List Bool))
  | ⟨[.sl 0 none], [some (.row .bool 4 x0)]⟩ => some x0
  | _ => none

noncomputable def J20 (x : (List Bool)) : Pk := ⟨[.sl 0 none], [some (.row .bool 4 (x))]⟩

theorem I20_ok : ∀ pk x, I20 pk = some x → pk = J20 x := by
  intro pk x h
  unfold I20 at h
  split at h <;> first | (cases h; rfl) | cases h

noncomputable def A20 : List TV := []

noncomputable def tab20 (N : Nat) : List (Nat × (Pk → Tr Pk)) := []

theorem tab20_ok (N : Nat) : TabOK Try.prog (tab20 N) := trivial

def X20_12 : Ex → List Nat
  | .ret => [2]
  | .exit 0 => [0]
  | _ => []

noncomputable def I20_12 : Pk → Option ((List Bool))
  | ⟨[.sl 0 (none)], [some (.row (Ty.bool) 4 x0)]⟩ => some x0
  | _ => none

noncomputable def J20_12 (x : (List Bool)) : Pk := ⟨[.sl 0 (none)], [some (.row (Ty.bool) 4 (x))]⟩

theorem I20_12_ok : ∀ pk x, I20_12 pk = some x → pk = J20_12 x := by
  intro pk x h
  unfold I20_12 at h
  split at h <;> first | (cases h; rfl) | cases h

noncomputable def O20_12 (r : (List Bool)) : Tr (Ex × Pk) := .ret (.exit 0, ⟨[.sl 0 (none)], [some (.row (Ty.bool) 4 (r))]⟩)

noncomputable def D20_12 : Ex × Pk → Option ((List Bool))
  | (.exit 0, ⟨[.sl 0 (none)], [some (.row (Ty.bool) 4 x0)]⟩) => some (x0)
  | _ => none

theorem D20_12_ok : ∀ y r, D20_12 y = some r → ∀ z, (O20_12 r).to z → y = z := by
  intro y r h
  unfold D20_12 at h
  split at h <;> first | (cases h; intro z hz; exact Option.some.inj hz) | cases h

noncomputable def B20_12 (N : Nat) (f : ((List Bool)) → Option ((List Bool))) : ((List Bool)) → Option ((List Bool))
  | x0 =>
  if (Int.tmod (↑(List.length x0) : Int) (8 : Int) != (0 : Int)) = true then
    if (decide ((List.length x0 + (1 : Nat)) * (1 : Nat) ≤ (140737488355328 : Nat) ∧ List.length x0 + (1 : Nat) ≤ (140737488355328 : Nat))) = true then
      Option.bind (f (x0 ++ [false])) fun r => some r
    else
      none
  else
    some (x0)

noncomputable def F20_12 (N : Nat) : Nat → ((List Bool)) → Option ((List Bool))
  | 0, _ => none
  | k + 1, x => B20_12 N (F20_12 N k) x

noncomputable def C20_12 (N k : Nat) : Cut := ⟨[0], X20_12, tellX I20_12 (F20_12 N k) O20_12⟩

theorem B20_12_eq (N : Nat) (f : ((List Bool)) → Option ((List Bool))) (x0 : (List Bool)) : (roundEv (mkE Try.prog ownT (tab20 N) []) Try.f20.ntmps A20 (loopAt (bod Try.f20) 12) 12 ⟨[0], X20_12, tellX I20_12 f O20_12⟩ (J20_12 x0)).run D20_12 = B20_12 N f x0 := by kernel_rfl

theorem C20_12_ok (N k : Nat) : ∀ c', At (bod Try.f20) 12 c' → CutOK Try.prog Try.f20.ntmps (idsL A20) c' (C20_12 N k) :=
  loop_ok (E := (mkE Try.prog ownT (tab20 N) [])) (mkE_ok mix (tab20_ok N)) (cutsIn_ok trivial) (fuel := 200) (by decide +kernel) (by kernel_rfl) I20_12_ok D20_12_ok (B20_12 N) (F20_12 N) (fun _ => rfl) (fun _ _ => rfl) (fun f x => match x with | x0 => B20_12_eq N f x0) k

noncomputable def O20 (r : (List Bool)) : Tr (Pk) := .ret ⟨[.sl 0 (none)], [some (.row (Ty.bool) 4 (r))]⟩

noncomputable def D20 : Pk → Option ((List Bool))
  | ⟨[.sl 0 (none)], [some (.row (Ty.bool) 4 x0)]⟩ => some (x0)
  | _ => none

theorem D20_ok : ∀ y r, D20 y = some r → ∀ z, (O20 r).to z → y = z := by
  intro y r h
  unfold D20 at h
  split at h <;> first | (cases h; intro z hz; exact Option.some.inj hz) | cases h

noncomputable def F20 (N : Nat) : ((List Bool)) → Option ((List Bool))
  | x0 =>
  Option.bind (F20_12 N N x0) fun y0 =>
  some (y0)

theorem F20_eq (N : Nat) (x0 : (List Bool)) : (fnEv (mkE Try.prog ownT (tab20 N) [(12, C20_12 N N)]) Try.f20 (J20 x0)).run D20 = F20 N x0 := by kernel_rfl

noncomputable def T20 (N : Nat) : Pk → Tr Pk := tell I20 (F20 N) O20

theorem T20_ok (N : Nat) : FOK Try.prog 20 (T20 N) :=
  tell_ok (E := (mkE Try.prog ownT (tab20 N) [(12, C20_12 N N)])) (mkE_ok mix (tab20_ok N)) Try.func20 (show Try.f20.body = some (bod Try.f20) by kernel_rfl) (by decide +kernel) I20_ok D20_ok (args := A20) (fun _ => by kernel_rfl) (fun _ => by show 1 ≤ Try.f20.ntmps; exact of_decide_eq_true (by kernel_rfl)) (cutsIn_ok ⟨C20_12_ok N N, trivial⟩) (fun x => match x with | x0 => F20_eq N x0)

/-! ## f21: (*mirador/bitio.Writer).Bytes -/

noncomputable def I21 : Pk → Option (ByteArray × Int × Int × (List Int))
  | ⟨[.adr 0 [], .v (.string x0)], [some (.var (.agg [.sl 1 none, .v (.int .i64 x1), .v (.int .i64 x2)])), some (.row (.int .u8) 5 x3)]⟩ => some (x0, x1, x2, x3)
  | _ => none

noncomputable def J21 (x : ByteArray × Int × Int × (List Int)) : Pk := ⟨[.adr 0 [], .v (.string (x.1))], [some (.var (.agg [.sl 1 none, .v (.int .i64 (x.2.1)), .v (.int .i64 (x.2.2.1))])), some (.row (.int .u8) 5 (x.2.2.2))]⟩

theorem I21_ok : ∀ pk x, I21 pk = some x → pk = J21 x := by
  intro pk x h
  unfold I21 at h
  split at h <;> first | (cases h; rfl) | cases h

noncomputable def A21 : List TV := [.adr 0 []]

noncomputable def tab21 (N : Nat) : List (Nat × (Pk → Tr Pk)) := [(19, T19 N)]

theorem tab21_ok (N : Nat) : TabOK Try.prog (tab21 N) := ⟨T19_ok N, trivial⟩

noncomputable def O21 (r : Int × Int × (List Int)) : Tr (Pk) := .ret ⟨[.tup []], [some (.var (.agg [.sl 1 (none), .v (.int .i64 (r.1)), .v (.int .i64 (r.2.1))])), some (.row (Ty.int IntKind.u8) 5 (r.2.2))]⟩

noncomputable def D21 : Pk → Option (Int × Int × (List Int))
  | ⟨[.tup []], [some (.var (.agg [.sl 1 (none), .v (.int .i64 x0), .v (.int .i64 x1)])), some (.row (Ty.int IntKind.u8) 5 x2)]⟩ => some ((x0, x1, x2))
  | _ => none

theorem D21_ok : ∀ y r, D21 y = some r → ∀ z, (O21 r).to z → y = z := by
  intro y r h
  unfold D21 at h
  split at h <;> first | (cases h; intro z hz; exact Option.some.inj hz) | cases h

noncomputable def F21 (N : Nat) : (ByteArray × Int × Int × (List Int)) → Option (Int × Int × (List Int))
  | (x0, x1, x2, x3) =>
  Option.bind (F19 N (x1, x2, x3)) fun y0 =>
  if (decide ((List.length (Prod.snd (Prod.snd y0)) + List.length (bytesOf x0)) * (1 : Nat) ≤ (140737488355328 : Nat) ∧ List.length (Prod.snd (Prod.snd y0)) + List.length (bytesOf x0) ≤ (140737488355328 : Nat))) = true then
    some ((Prod.fst y0, Prod.fst (Prod.snd y0), Prod.snd (Prod.snd y0) ++ bytesOf x0))
  else
    none

theorem F21_eq (N : Nat) (x0 : ByteArray) (x1 : Int) (x2 : Int) (x3 : (List Int)) : (fnEv (mkE Try.prog ownT (tab21 N) []) Try.f21 (J21 (x0, x1, x2, x3))).run D21 = F21 N (x0, x1, x2, x3) := by kernel_rfl

noncomputable def T21 (N : Nat) : Pk → Tr Pk := tell I21 (F21 N) O21

theorem T21_ok (N : Nat) : FOK Try.prog 21 (T21 N) :=
  tell_ok (E := (mkE Try.prog ownT (tab21 N) [])) (mkE_ok mix (tab21_ok N)) Try.func21 (show Try.f21.body = some (bod Try.f21) by kernel_rfl) (by decide +kernel) I21_ok D21_ok (args := A21) (fun _ => by kernel_rfl) (fun _ => by show 2 ≤ Try.f21.ntmps; exact of_decide_eq_true (by kernel_rfl)) (cutsIn_ok trivial) (fun x => match x with | (x0, x1, x2, x3) => F21_eq N x0 x1 x2 x3)

/-! ## f22: mirador/miradorref02.All -/

noncomputable def I22 : Pk → Option (ByteArray)
  | ⟨[.v (.string x0)], []⟩ => some x0
  | _ => none

noncomputable def J22 (x : ByteArray) : Pk := ⟨[.v (.string (x))], []⟩

theorem I22_ok : ∀ pk x, I22 pk = some x → pk = J22 x := by
  intro pk x h
  unfold I22 at h
  split at h <;> first | (cases h; rfl) | cases h

noncomputable def A22 : List TV := []

noncomputable def tab22 (N : Nat) : List (Nat × (Pk → Tr Pk)) := [(16, T16 N)]

theorem tab22_ok (N : Nat) : TabOK Try.prog (tab22 N) := ⟨T16_ok N, trivial⟩

def X22_58 : Ex → List Nat
  | .ret => [2]
  | .exit 0 => [3]
  | _ => []

noncomputable def I22_58 : Pk → Option (Int × ByteArray × (List Bool))
  | ⟨[.sl 0 (none), .v (.int .i64 x0), .v (.string x1)], [some (.row (Ty.bool) 4 x2)]⟩ => some (x0, x1, x2)
  | _ => none

noncomputable def J22_58 (x : Int × ByteArray × (List Bool)) : Pk := ⟨[.sl 0 (none), .v (.int .i64 (x.1)), .v (.string (x.2.1))], [some (.row (Ty.bool) 4 (x.2.2))]⟩

theorem I22_58_ok : ∀ pk x, I22_58 pk = some x → pk = J22_58 x := by
  intro pk x h
  unfold I22_58 at h
  split at h <;> first | (cases h; rfl) | cases h

noncomputable def O22_58 (r : (List Bool)) : Tr (Ex × Pk) := .ret (.exit 0, ⟨[.sl 0 (none)], [some (.row (Ty.bool) 4 (r))]⟩)

noncomputable def D22_58 : Ex × Pk → Option ((List Bool))
  | (.exit 0, ⟨[.sl 0 (none)], [some (.row (Ty.bool) 4 x0)]⟩) => some (x0)
  | _ => none

theorem D22_58_ok : ∀ y r, D22_58 y = some r → ∀ z, (O22_58 r).to z → y = z := by
  intro y r h
  unfold D22_58 at h
  split at h <;> first | (cases h; intro z hz; exact Option.some.inj hz) | cases h

noncomputable def B22_58 (N : Nat) (f : (Int × ByteArray × (List Bool)) → Option ((List Bool))) : (Int × ByteArray × (List Bool)) → Option ((List Bool))
  | (x0, x1, x2) =>
  if (decide (x0 < (↑(ByteArray.size x1) : Int))) = true then
    if (decide ((0 : Int) ≤ x0)) = true then
      Option.bind (x1[Int.toNat x0]?) fun y0 =>
      Option.bind (F16 N ((8 : Int), IntKind.wrap IntKind.i64 (↑(UInt8.toNat y0) : Int))) fun y1 =>
      if (decide ((List.length x2 + List.length y1) * (1 : Nat) ≤ (140737488355328 : Nat) ∧ List.length x2 + List.length y1 ≤ (140737488355328 : Nat))) = true then
        Option.bind (f (IntKind.wrap IntKind.i64 (x0 + (1 : Int)), x1, x2 ++ y1)) fun r => some r
      else
        none
    else
      none
  else
    some (x2)

noncomputable def F22_58 (N : Nat) : Nat → (Int × ByteArray × (List Bool)) → Option ((List Bool))
  | 0, _ => none
  | k + 1, x => B22_58 N (F22_58 N k) x

noncomputable def C22_58 (N k : Nat) : Cut := ⟨[3, 4, 0], X22_58, tellX I22_58 (F22_58 N k) O22_58⟩

theorem B22_58_eq (N : Nat) (f : (Int × ByteArray × (List Bool)) → Option ((List Bool))) (x0 : Int) (x1 : ByteArray) (x2 : (List Bool)) : (roundEv (mkE Try.prog ownT (tab22 N) []) Try.f22.ntmps A22 (loopAt (bod Try.f22) 58) 58 ⟨[3, 4, 0], X22_58, tellX I22_58 f O22_58⟩ (J22_58 (x0, x1, x2))).run D22_58 = B22_58 N f (x0, x1, x2) := by kernel_rfl

theorem C22_58_ok (N k : Nat) : ∀ c', At (bod Try.f22) 58 c' → CutOK Try.prog Try.f22.ntmps (idsL A22) c' (C22_58 N k) :=
  loop_ok (E := (mkE Try.prog ownT (tab22 N) [])) (mkE_ok mix (tab22_ok N)) (cutsIn_ok trivial) (fuel := 200) (by decide +kernel) (by kernel_rfl) I22_58_ok D22_58_ok (B22_58 N) (F22_58 N) (fun _ => rfl) (fun _ _ => rfl) (fun f x => match x with | (x0, x1, x2) => B22_58_eq N f x0 x1 x2) k

noncomputable def O22 (r : (List Bool)) : Tr (Pk) := .ret ⟨[.sl 0 (none)], [some (.row (Ty.bool) 4 (r))]⟩

noncomputable def D22 : Pk → Option ((List Bool))
  | ⟨[.sl 0 (none)], [some (.row (Ty.bool) 4 x0)]⟩ => some (x0)
  | _ => none

theorem D22_ok : ∀ y r, D22 y = some r → ∀ z, (O22 r).to z → y = z := by
  intro y r h
  unfold D22 at h
  split at h <;> first | (cases h; intro z hz; exact Option.some.inj hz) | cases h

noncomputable def F22 (N : Nat) : (ByteArray) → Option ((List Bool))
  | x0 =>
  Option.bind (F22_58 N N ((0 : Int), x0, [])) fun y0 =>
  some (y0)

theorem F22_eq (N : Nat) (x0 : ByteArray) : (fnEv (mkE Try.prog ownT (tab22 N) [(58, C22_58 N N)]) Try.f22 (J22 x0)).run D22 = F22 N x0 := by kernel_rfl

noncomputable def T22 (N : Nat) : Pk → Tr Pk := tell I22 (F22 N) O22

theorem T22_ok (N : Nat) : FOK Try.prog 22 (T22 N) :=
  tell_ok (E := (mkE Try.prog ownT (tab22 N) [(58, C22_58 N N)])) (mkE_ok mix (tab22_ok N)) Try.func22 (show Try.f22.body = some (bod Try.f22) by kernel_rfl) (by decide +kernel) I22_ok D22_ok (args := A22) (fun _ => by kernel_rfl) (fun _ => by show 1 ≤ Try.f22.ntmps; exact of_decide_eq_true (by kernel_rfl)) (cutsIn_ok ⟨C22_58_ok N N, trivial⟩) (fun x => match x with | x0 => F22_eq N x0)

/-! ## f23: mirador/miradorref02.Text -/

noncomputable def I23 : Pk → Option ((List Bool))
  | ⟨[.ro .bool x0], []⟩ => some x0
  | _ => none

noncomputable def J23 (x : (List Bool)) : Pk := ⟨[.ro .bool (x)], []⟩

theorem I23_ok : ∀ pk x, I23 pk = some x → pk = J23 x := by
  intro pk x h
  unfold I23 at h
  split at h <;> first | (cases h; rfl) | cases h

noncomputable def A23 : List TV := []

noncomputable def tab23 (N : Nat) : List (Nat × (Pk → Tr Pk)) := [(20, T20 N), (37, T37 N)]

theorem tab23_ok (N : Nat) : TabOK Try.prog (tab23 N) := ⟨T20_ok N, ⟨T37_ok N, trivial⟩⟩

def X23_506 : Ex → List Nat
  | .ret => [2]
  | .exit 0 => [4]
  | _ => []

noncomputable def I23_506 : Pk → Option (ByteArray × Int × (List Bool))
  | ⟨[.v (.string x0), .v (.int .i64 x1), .sl 0 (none)], [some (.row (Ty.bool) 4 x2)]⟩ => some (x0, x1, x2)
  | _ => none

noncomputable def J23_506 (x : ByteArray × Int × (List Bool)) : Pk := ⟨[.v (.string (x.1)), .v (.int .i64 (x.2.1)), .sl 0 (none)], [some (.row (Ty.bool) 4 (x.2.2))]⟩

theorem I23_506_ok : ∀ pk x, I23_506 pk = some x → pk = J23_506 x := by
  intro pk x h
  unfold I23_506 at h
  split at h <;> first | (cases h; rfl) | cases h

noncomputable def O23_506 (r : ByteArray) : Tr (Ex × Pk) := .ret (.exit 0, ⟨[.v (.string (r))], []⟩)

noncomputable def D23_506 : Ex × Pk → Option (ByteArray)
  | (.exit 0, ⟨[.v (.string x0)], []⟩) => some (x0)
  | _ => none

theorem D23_506_ok : ∀ y r, D23_506 y = some r → ∀ z, (O23_506 r).to z → y = z := by
  intro y r h
  unfold D23_506 at h
  split at h <;> first | (cases h; intro z hz; exact Option.some.inj hz) | cases h

noncomputable def B23_506 (N : Nat) (f : (ByteArray × Int × (List Bool)) → Option (ByteArray)) : (ByteArray × Int × (List Bool)) → Option (ByteArray)
  | (x0, x1, x2) =>
  if (decide (x1 < (↑(List.length x2) : Int))) = true then
    if (decide ((0 : Int) ≤ IntKind.wrap IntKind.i64 (x1 + (8 : Int)) ∧ IntKind.wrap IntKind.i64 (x1 + (8 : Int)) ≤ (↑(List.length x2) : Int))) = true then
      if (decide ((0 : Int) ≤ x1 ∧ x1 ≤ (↑(Int.toNat (IntKind.wrap IntKind.i64 (x1 + (8 : Int)))) : Int))) = true then
        Option.bind (F37 N (List.take (Int.toNat (IntKind.wrap IntKind.i64 (x1 + (8 : Int))) - Int.toNat x1) (List.drop (Int.toNat x1) x2))) fun y0 =>
        if (decide ((↑(ByteArray.size x0 + ByteArray.size (stringOf [IntKind.wrap IntKind.u8 y0])) : Int) > (9223372036854775807 : Int))) = true then
          none
        else
          Option.bind (f (x0 ++ stringOf [IntKind.wrap IntKind.u8 y0], IntKind.wrap IntKind.i64 (x1 + (8 : Int)), x2)) fun r => some r
      else
        none
    else
      none
  else
    some (x0)

noncomputable def F23_506 (N : Nat) : Nat → (ByteArray × Int × (List Bool)) → Option (ByteArray)
  | 0, _ => none
  | k + 1, x => B23_506 N (F23_506 N k) x

noncomputable def C23_506 (N k : Nat) : Cut := ⟨[4, 5, 3], X23_506, tellX I23_506 (F23_506 N k) O23_506⟩

theorem B23_506_eq (N : Nat) (f : (ByteArray × Int × (List Bool)) → Option (ByteArray)) (x0 : ByteArray) (x1 : Int) (x2 : (List Bool)) : (roundEv (mkE Try.prog ownT (tab23 N) []) Try.f23.ntmps A23 (loopAt (bod Try.f23) 506) 506 ⟨[4, 5, 3], X23_506, tellX I23_506 f O23_506⟩ (J23_506 (x0, x1, x2))).run D23_506 = B23_506 N f (x0, x1, x2) := by kernel_rfl

theorem C23_506_ok (N k : Nat) : ∀ c', At (bod Try.f23) 506 c' → CutOK Try.prog Try.f23.ntmps (idsL A23) c' (C23_506 N k) :=
  loop_ok (E := (mkE Try.prog ownT (tab23 N) [])) (mkE_ok mix (tab23_ok N)) (cutsIn_ok trivial) (fuel := 200) (by decide +kernel) (by kernel_rfl) I23_506_ok D23_506_ok (B23_506 N) (F23_506 N) (fun _ => rfl) (fun _ _ => rfl) (fun f x => match x with | (x0, x1, x2) => B23_506_eq N f x0 x1 x2) k

noncomputable def O23 (r : ByteArray) : Tr (Pk) := .ret ⟨[.v (.string (r))], []⟩

noncomputable def D23 : Pk → Option (ByteArray)
  | ⟨[.v (.string x0)], []⟩ => some (x0)
  | _ => none

theorem D23_ok : ∀ y r, D23 y = some r → ∀ z, (O23 r).to z → y = z := by
  intro y r h
  unfold D23 at h
  split at h <;> first | (cases h; intro z hz; exact Option.some.inj hz) | cases h

noncomputable def F23 (N : Nat) : ((List Bool)) → Option (ByteArray)
  | x0 =>
  if (decide (((0 : Nat) + List.length x0) * (1 : Nat) ≤ (140737488355328 : Nat) ∧ (0 : Nat) + List.length x0 ≤ (140737488355328 : Nat))) = true then
    Option.bind (F20 N x0) fun y0 =>
    Option.bind (F23_506 N N (ByteArray.mk #[], (0 : Int), y0)) fun y1 =>
    some (y1)
  else
    none

theorem F23_eq (N : Nat) (x0 : (List Bool)) : (fnEv (mkE Try.prog ownT (tab23 N) [(506, C23_506 N N)]) Try.f23 (J23 x0)).run D23 = F23 N x0 := by kernel_rfl

noncomputable def T23 (N : Nat) : Pk → Tr Pk := tell I23 (F23 N) O23

theorem T23_ok (N : Nat) : FOK Try.prog 23 (T23 N) :=
  tell_ok (E := (mkE Try.prog ownT (tab23 N) [(506, C23_506 N N)])) (mkE_ok mix (tab23_ok N)) Try.func23 (show Try.f23.body = some (bod Try.f23) by kernel_rfl) (by decide +kernel) I23_ok D23_ok (args := A23) (fun _ => by kernel_rfl) (fun _ => by show 1 ≤ Try.f23.ntmps; exact of_decide_eq_true (by kernel_rfl)) (cutsIn_ok ⟨C23_506_ok N N, trivial⟩) (fun x => match x with | x0 => F23_eq N x0)

/-! ## f5: mirador/miradorlaw02.BitioWrites -/

noncomputable def I5 : Pk → Option ((List (Int × (Int × (Int × (ByteArray × Unit))))))
  | ⟨[.ro (.cons (.int .i64) (.cons (.int .i64) (.cons (.int .i64) (.cons .str .unit)))) x0], []⟩ => some x0
  | _ => none

noncomputable def J5 (x : (List (Int × (Int × (Int × (ByteArray × Unit)))))) : Pk := ⟨[.ro (.cons (.int .i64) (.cons (.int .i64) (.cons (.int .i64) (.cons .str .unit)))) (x)], []⟩

theorem I5_ok : ∀ pk x, I5 pk = some x → pk = J5 x := by
  intro pk x h
  unfold I5 at h
  split at h <;> first | (cases h; rfl) | cases h

noncomputable def A5 : List TV := []

noncomputable def tab5 (N : Nat) : List (Nat × (Pk → Tr Pk)) := [(8, T8 N), (15, T15 N), (10, T10 N), (16, T16 N), (17, T17 N), (18, T18 N), (9, T9 N), (19, T19 N), (20, T20 N), (21, T21 N), (22, T22 N), (14, T14 N), (12, T12 N), (23, T23 N)]

theorem tab5_ok (N : Nat) : TabOK Try.prog (tab5 N) := ⟨T8_ok N, ⟨T15_ok N, ⟨T10_ok N, ⟨T16_ok N, ⟨T17_ok N, ⟨T18_ok N, ⟨T9_ok N, ⟨T19_ok N, ⟨T20_ok N, ⟨T21_ok N, ⟨T22_ok N, ⟨T14_ok N, ⟨T12_ok N, ⟨T23_ok N, trivial⟩⟩⟩⟩⟩⟩⟩⟩⟩⟩⟩⟩⟩⟩

def X5_2042 : Ex → List Nat
  | .ret => [2]
  | .exit 0 => [3]
  | _ => []

noncomputable def I5_2042 : Pk → Option (Bool × (List (Int × (Int × (Int × (ByteArray × Unit))))) × Int × (List Bool) × Int × Int × (List Int))
  | ⟨[.sl 0 (none), .v (.bool x0), .ro (Ty.cons (Ty.int IntKind.i64) (Ty.cons (Ty.int IntKind.i64) (Ty.cons (Ty.int IntKind.i64) (Ty.cons Ty.str Ty.unit)))) x1, .adr 1 [], .v (.int .i64 x2)], [some (.row (Ty.bool) 4 x3), some (.var (.agg [.sl 2 (none), .v (.int .i64 x4), .v (.int .i64 x5)])), some (.row (Ty.int IntKind.u8) 5 x6)]⟩ => some (x0, x1, x2, x3, x4, x5, x6)
  | _ => none

noncomputable def J5_2042 (x : Bool × (List (Int × (Int × (Int × (ByteArray × Unit))))) × Int × (List Bool) × Int × Int × (List Int)) : Pk := ⟨[.sl 0 (none), .v (.bool (x.1)), .ro (Ty.cons (Ty.int IntKind.i64) (Ty.cons (Ty.int IntKind.i64) (Ty.cons (Ty.int IntKind.i64) (Ty.cons Ty.str Ty.unit)))) (x.2.1), .adr 1 [], .v (.int .i64 (x.2.2.1))], [some (.row (Ty.bool) 4 (x.2.2.2.1)), some (.var (.agg [.sl 2 (none), .v (.int .i64 (x.2.2.2.2.1)), .v (.int .i64 (x.2.2.2.2.2.1))])), some (.row (Ty.int IntKind.u8) 5 (x.2.2.2.2.2.2))]⟩

theorem I5_2042_ok : ∀ pk x, I5_2042 pk = some x → pk = J5_2042 x := by
  intro pk x h
  unfold I5_2042 at h
  split at h <;> first | (cases h; rfl) | cases h

noncomputable def O5_2042 (r : ((Bool) ⊕ (Bool))) : Tr (Ex × Pk) := .sum _ _ r (fun u => .ret (.ret, ⟨[.v (.bool (u))], []⟩)) (fun v => .ret (.exit 0, ⟨[.v (.bool (v))], []⟩))

noncomputable def D5_2042 : Ex × Pk → Option (((Bool) ⊕ (Bool)))
  | (.ret, ⟨[.v (.bool x0)], []⟩) => some (.inl (x0))
  | (.exit 0, ⟨[.v (.bool x0)], []⟩) => some (.inr (x0))
  | _ => none

theorem D5_2042_ok : ∀ y r, D5_2042 y = some r → ∀ z, (O5_2042 r).to z → y = z := by
  intro y r h
  unfold D5_2042 at h
  split at h <;> first | (cases h; intro z hz; exact Option.some.inj hz) | cases h

noncomputable def B5_2042 (N : Nat) (f : (Bool × (List (Int × (Int × (Int × (ByteArray × Unit))))) × Int × (List Bool) × Int × Int × (List Int)) → Option (((Bool) ⊕ (Bool)))) : (Bool × (List (Int × (Int × (Int × (ByteArray × Unit))))) × Int × (List Bool) × Int × Int × (List Int)) → Option (((Bool) ⊕ (Bool)))
  | (x0, x1, x2, x3, x4, x5, x6) =>
  if (decide (x2 < (↑(List.length x1) : Int))) = true then
    if (within x2 (List.length x1)) = true then
      Option.bind (x1[Int.toNat x2]?) fun y0 =>
      if (Int.tmod (Prod.fst y0) (4 : Int) == (0 : Int)) = true then
        Option.bind (F10 N (Prod.fst (Prod.snd y0), Prod.fst (Prod.snd (Prod.snd y0)), x4, x5, x6)) fun y1 =>
        Option.bind (F16 N (Prod.fst (Prod.snd y0), Prod.fst (Prod.snd (Prod.snd y0)))) fun y2 =>
        if (decide ((List.length x3 + List.length y2) * (1 : Nat) ≤ (140737488355328 : Nat) ∧ List.length x3 + List.length y2 ≤ (140737488355328 : Nat))) = true then
          Option.bind (F14 N (Prod.snd (Prod.snd y1), Prod.fst y1, Prod.fst (Prod.snd y1), ())) fun y3 =>
          if (y3 != (↑(List.length (x3 ++ y2)) : Int)) = true then
            some (.inl (false))
          else
            Option.bind (F12 N (Prod.snd (Prod.snd y1), Prod.fst y1, Prod.fst (Prod.snd y1), ())) fun y4 =>
            Option.bind (F23 N (x3 ++ y2)) fun y5 =>
            if (!ByteArray.toList y4 == ByteArray.toList y5) = true then
              some (.inl (false))
            else
              Option.bind (f (x0, x1, IntKind.wrap IntKind.i64 (x2 + (1 : Int)), x3 ++ y2, Prod.fst y1, Prod.fst (Prod.snd y1), Prod.snd (Prod.snd y1))) fun r => match r with | .inl (y) => some (.inl (y)) | .inr (y) => some (.inr (y))
        else
          none
      else
        if (Int.tmod (Prod.fst y0) (4 : Int) == (1 : Int)) = true then
          Option.bind (F17 N (Prod.fst (Prod.snd (Prod.snd y0)), Prod.fst (Prod.snd y0), x4, x5, x6)) fun y6 =>
          Option.bind (F18 N (Prod.fst (Prod.snd (Prod.snd y0)), Prod.fst (Prod.snd y0))) fun y7 =>
          Option.bind (F16 N (Prod.fst (Prod.snd y0), y7)) fun y8 =>
          if (decide ((List.length x3 + List.length y8) * (1 : Nat) ≤ (140737488355328 : Nat) ∧ List.length x3 + List.length y8 ≤ (140737488355328 : Nat))) = true then
            Option.bind (F9 N (Prod.fst (Prod.snd (Prod.snd y0)), Prod.fst (Prod.snd y0))) fun y9 =>
            Option.bind (F18 N (Prod.fst (Prod.snd (Prod.snd y0)), Prod.fst (Prod.snd y0))) fun y10 =>
            if (y9 != y10) = true then
              some (.inl (false))
            else
              Option.bind (F14 N (Prod.snd (Prod.snd y6), Prod.fst y6, Prod.fst (Prod.snd y6), ())) fun y11 =>
              if (y11 != (↑(List.length (x3 ++ y8)) : Int)) = true then
                some (.inl (false))
              else
                Option.bind (F12 N (Prod.snd (Prod.snd y6), Prod.fst y6, Prod.fst (Prod.snd y6), ())) fun y12 =>
                Option.bind (F23 N (x3 ++ y8)) fun y13 =>
                if (!ByteArray.toList y12 == ByteArray.toList y13) = true then
                  some (.inl (false))
                else
                  Option.bind (f (x0, x1, IntKind.wrap IntKind.i64 (x2 + (1 : Int)), x3 ++ y8, Prod.fst y6, Prod.fst (Prod.snd y6), Prod.snd (Prod.snd y6))) fun r => match r with | .inl (y) => some (.inl (y)) | .inr (y) => some (.inr (y))
          else
            none
        else
          if (Int.tmod (Prod.fst y0) (4 : Int) == (2 : Int)) = true then
            Option.bind (F19 N (x4, x5, x6)) fun y14 =>
            Option.bind (F20 N x3) fun y15 =>
            Option.bind (F14 N (Prod.snd (Prod.snd y14), Prod.fst y14, Prod.fst (Prod.snd y14), ())) fun y16 =>
            if (y16 != (↑(List.length y15) : Int)) = true then
              some (.inl (false))
            else
              Option.bind (F12 N (Prod.snd (Prod.snd y14), Prod.fst y14, Prod.fst (Prod.snd y14), ())) fun y17 =>
              Option.bind (F23 N y15) fun y18 =>
              if (!ByteArray.toList y17 == ByteArray.toList y18) = true then
                some (.inl (false))
              else
                Option.bind (f (x0, x1, IntKind.wrap IntKind.i64 (x2 + (1 : Int)), y15, Prod.fst y14, Prod.fst (Prod.snd y14), Prod.snd (Prod.snd y14))) fun r => match r with | .inl (y) => some (.inl (y)) | .inr (y) => some (.inr (y))
          else
            if (Int.tmod (Prod.fst y0) (4 : Int) == (3 : Int)) = true then
              Option.bind (F21 N (Prod.fst (Prod.snd (Prod.snd (Prod.snd y0))), x4, x5, x6)) fun y19 =>
              Option.bind (F20 N x3) fun y20 =>
              Option.bind (F22 N (Prod.fst (Prod.snd (Prod.snd (Prod.snd y0))))) fun y21 =>
              if (decide ((List.length y20 + List.length y21) * (1 : Nat) ≤ (140737488355328 : Nat) ∧ List.length y20 + List.length y21 ≤ (140737488355328 : Nat))) = true then
                Option.bind (F14 N (Prod.snd (Prod.snd y19), Prod.fst y19, Prod.fst (Prod.snd y19), ())) fun y22 =>
                if (y22 != (↑(List.length (y20 ++ y21)) : Int)) = true then
                  some (.inl (false))
                else
                  Option.bind (F12 N (Prod.snd (Prod.snd y19), Prod.fst y19, Prod.fst (Prod.snd y19), ())) fun y23 =>
                  Option.bind (F23 N (y20 ++ y21)) fun y24 =>
                  if (!ByteArray.toList y23 == ByteArray.toList y24) = true then
                    some (.inl (false))
                  else
                    Option.bind (f (x0, x1, IntKind.wrap IntKind.i64 (x2 + (1 : Int)), y20 ++ y21, Prod.fst y19, Prod.fst (Prod.snd y19), Prod.snd (Prod.snd y19))) fun r => match r with | .inl (y) => some (.inl (y)) | .inr (y) => some (.inr (y))
              else
                none
            else
              Option.bind (F14 N (x6, x4, x5, ())) fun y25 =>
              if (y25 != (↑(List.length x3) : Int)) = true then
                some (.inl (false))
              else
                Option.bind (F12 N (x6, x4, x5, ())) fun y26 =>
                Option.bind (F23 N x3) fun y27 =>
                if (!ByteArray.toList y26 == ByteArray.toList y27) = true then
                  some (.inl (false))
                else
                  Option.bind (f (x0, x1, IntKind.wrap IntKind.i64 (x2 + (1 : Int)), x3, x4, x5, x6)) fun r => match r with | .inl (y) => some (.inl (y)) | .inr (y) => some (.inr (y))
    else
      none
  else
    some (.inr (x0))

noncomputable def F5_2042 (N : Nat) : Nat → (Bool × (List (Int × (Int × (Int × (ByteArray × Unit))))) × Int × (List Bool) × Int × Int × (List Int)) → Option (((Bool) ⊕ (Bool)))
  | 0, _ => none
  | k + 1, x => B5_2042 N (F5_2042 N k) x

noncomputable def C5_2042 (N k : Nat) : Cut := ⟨[6, 3, 0, 5, 7], X5_2042, tellX I5_2042 (F5_2042 N k) O5_2042⟩

theorem B5_2042_eq (N : Nat) (f : (Bool × (List (Int × (Int × (Int × (ByteArray × Unit))))) × Int × (List Bool) × Int × Int × (List Int)) → Option (((Bool) ⊕ (Bool)))) (x0 : Bool) (x1 : (List (Int × (Int × (Int × (ByteArray × Unit)))))) (x2 : Int) (x3 : (List Bool)) (x4 : Int) (x5 : Int) (x6 : (List Int)) : (roundEv (mkE Try.prog ownT (tab5 N) []) Try.f5.ntmps A5 (loopAt (bod Try.f5) 2042) 2042 ⟨[6, 3, 0, 5, 7], X5_2042, tellX I5_2042 f O5_2042⟩ (J5_2042 (x0, x1, x2, x3, x4, x5, x6))).run D5_2042 = B5_2042 N f (x0, x1, x2, x3, x4, x5, x6) := by kernel_rfl

theorem C5_2042_ok (N k : Nat) : ∀ c', At (bod Try.f5) 2042 c' → CutOK Try.prog Try.f5.ntmps (idsL A5) c' (C5_2042 N k) :=
  loop_ok (E := (mkE Try.prog ownT (tab5 N) [])) (mkE_ok mix (tab5_ok N)) (cutsIn_ok trivial) (fuel := 200) (by decide +kernel) (by kernel_rfl) I5_2042_ok D5_2042_ok (B5_2042 N) (F5_2042 N) (fun _ => rfl) (fun _ _ => rfl) (fun f x => match x with | (x0, x1, x2, x3, x4, x5, x6) => B5_2042_eq N f x0 x1 x2 x3 x4 x5 x6) k

noncomputable def O5 (r : Bool) : Tr (Pk) := .ret ⟨[.v (.bool (r))], []⟩

noncomputable def D5 : Pk → Option (Bool)
  | ⟨[.v (.bool x0)], []⟩ => some (x0)
  | _ => none

theorem D5_ok : ∀ y r, D5 y = some r → ∀ z, (O5 r).to z → y = z := by
  intro y r h
  unfold D5 at h
  split at h <;> first | (cases h; intro z hz; exact Option.some.inj hz) | cases h

noncomputable def F5 (N : Nat) : ((List (Int × (Int × (Int × (ByteArray × Unit)))))) → Option (Bool)
  | x0 =>
  Option.bind (F8 N ()) fun y0 =>
  if (!y0) = true then
    some (false)
  else
    Option.bind (F15 N x0) fun y1 =>
    if (y1) = true then
      some (y0)
    else
      Option.bind (F5_2042 N N (y0, x0, (0 : Int), [], (0 : Int), (0 : Int), [])) fun y2 =>
      match y2 with
      | .inl y3 =>
        some (y3)
      | .inr y3 =>
        some (y3)

theorem F5_eq (N : Nat) (x0 : (List (Int × (Int × (Int × (ByteArray × Unit)))))) : (fnEv (mkE Try.prog ownT (tab5 N) [(2042, C5_2042 N N)]) Try.f5 (J5 x0)).run D5 = F5 N x0 := by kernel_rfl

noncomputable def T5 (N : Nat) : Pk → Tr Pk := tell I5 (F5 N) O5

theorem T5_ok (N : Nat) : FOK Try.prog 5 (T5 N) :=
  tell_ok (E := (mkE Try.prog ownT (tab5 N) [(2042, C5_2042 N N)])) (mkE_ok mix (tab5_ok N)) Try.func5 (show Try.f5.body = some (bod Try.f5) by kernel_rfl) (by decide +kernel) I5_ok D5_ok (args := A5) (fun _ => by kernel_rfl) (fun _ => by show 1 ≤ Try.f5.ntmps; exact of_decide_eq_true (by kernel_rfl)) (cutsIn_ok ⟨C5_2042_ok N N, trivial⟩) (fun x => match x with | x0 => F5_eq N x0)

/-! ## f24: (*mirador/miradorref02.Reader).Bits -/

noncomputable def I24 : Pk → Option (Int × Int × Int × (List Bool))
  | ⟨[.adr 0 [], .v (.int .i64 x0)], [some (.var (.agg [.sl 1 none, .v (.int .i64 x1), .v (.int .i64 x2)])), some (.row .bool 4 x3)]⟩ => some (x0, x1, x2, x3)
  | _ => none

noncomputable def J24 (x : Int × Int × Int × (List Bool)) : Pk := ⟨[.adr 0 [], .v (.int .i64 (x.1))], [some (.var (.agg [.sl 1 none, .v (.int .i64 (x.2.1)), .v (.int .i64 (x.2.2.1))])), some (.row .bool 4 (x.2.2.2))]⟩

theorem I24_ok : ∀ pk x, I24 pk = some x → pk = J24 x := by
  intro pk x h
  unfold I24 at h
  split at h <;> first | (cases h; rfl) | cases h

noncomputable def A24 : List TV := [.adr 0 []]

noncomputable def tab24 (N : Nat) : List (Nat × (Pk → Tr Pk)) := [(36, T36 N), (37, T37 N)]

theorem tab24_ok (N : Nat) : TabOK Try.prog (tab24 N) := ⟨T36_ok N, ⟨T37_ok N, trivial⟩⟩

noncomputable def O24 (r : Int × Int × Int × (List Bool)) : Tr (Pk) := .ret ⟨[.v (.int .i64 (r.1))], [some (.var (.agg [.sl 1 (none), .v (.int .i64 (r.2.1)), .v (.int .i64 (r.2.2.1))])), some (.row (Ty.bool) 4 (r.2.2.2))]⟩

noncomputable def D24 : Pk → Option (Int × Int × Int × (List Bool))
  | ⟨[.v (.int .i64 x0)], [some (.var (.agg [.sl 1 (none), .v (.int .i64 x1), .v (.int .i64 x2)])), some (.row (Ty.bool) 4 x3)]⟩ => some ((x0, x1, x2, x3))
  | _ => none

theorem D24_ok : ∀ y r, D24 y = some r → ∀ z, (O24 r).to z → y = z := by
  intro y r h
  unfold D24 at h
  split at h <;> first | (cases h; intro z hz; exact Option.some.inj hz) | cases h

noncomputable def F24 (N : Nat) : (Int × Int × Int × (List Bool)) → Option (Int × Int × Int × (List Bool))
  | (x0, x1, x2, x3) =>
  Option.bind (F36 N x0) fun y0 =>
  if (x2 == (0 : Int)) = true then
    if (decide (y0 > IntKind.wrap IntKind.i64 ((↑(List.length x3) : Int) - x1))) = true then
      some (((0 : Int), x1, (2 : Int), x3))
    else
      if (x2 != (0 : Int)) = true then
        some (((0 : Int), x1, x2, x3))
      else
        if (decide ((0 : Int) ≤ IntKind.wrap IntKind.i64 (x1 + y0) ∧ IntKind.wrap IntKind.i64 (x1 + y0) ≤ (↑(List.length x3) : Int))) = true then
          if (decide ((0 : Int) ≤ IntKind.wrap IntKind.i64 (IntKind.wrap IntKind.i64 (x1 + y0) - y0) ∧ IntKind.wrap IntKind.i64 (IntKind.wrap IntKind.i64 (x1 + y0) - y0) ≤ (↑(Int.toNat (IntKind.wrap IntKind.i64 (x1 + y0))) : Int))) = true then
            Option.bind (F37 N (List.take (Int.toNat (IntKind.wrap IntKind.i64 (x1 + y0)) - Int.toNat (IntKind.wrap IntKind.i64 (IntKind.wrap IntKind.i64 (x1 + y0) - y0))) (List.drop (Int.toNat (IntKind.wrap IntKind.i64 (IntKind.wrap IntKind.i64 (x1 + y0) - y0))) x3))) fun y1 =>
            some ((y1, IntKind.wrap IntKind.i64 (x1 + y0), x2, x3))
          else
            none
        else
          none
  else
    if (x2 != (0 : Int)) = true then
      some (((0 : Int), x1, x2, x3))
    else
      if (decide ((0 : Int) ≤ IntKind.wrap IntKind.i64 (x1 + y0) ∧ IntKind.wrap IntKind.i64 (x1 + y0) ≤ (↑(List.length x3) : Int))) = true then
        if (decide ((0 : Int) ≤ IntKind.wrap IntKind.i64 (IntKind.wrap IntKind.i64 (x1 + y0) - y0) ∧ IntKind.wrap IntKind.i64 (IntKind.wrap IntKind.i64 (x1 + y0) - y0) ≤ (↑(Int.toNat (IntKind.wrap IntKind.i64 (x1 + y0))) : Int))) = true then
          Option.bind (F37 N (List.take (Int.toNat (IntKind.wrap IntKind.i64 (x1 + y0)) - Int.toNat (IntKind.wrap IntKind.i64 (IntKind.wrap IntKind.i64 (x1 + y0) - y0))) (List.drop (Int.toNat (IntKind.wrap IntKind.i64 (IntKind.wrap IntKind.i64 (x1 + y0) - y0))) x3))) fun y2 =>
          some ((y2, IntKind.wrap IntKind.i64 (x1 + y0), x2, x3))
        else
          none
      else
        none

theorem F24_eq (N : Nat) (x0 : Int) (x1 : Int) (x2 : Int) (x3 : (List Bool)) : (fnEv (mkE Try.prog ownT (tab24 N) []) Try.f24 (J24 (x0, x1, x2, x3))).run D24 = F24 N (x0, x1, x2, x3) := by kernel_rfl

noncomputable def T24 (N : Nat) : Pk → Tr Pk := tell I24 (F24 N) O24

theorem T24_ok (N : Nat) : FOK Try.prog 24 (T24 N) :=
  tell_ok (E := (mkE Try.prog ownT (tab24 N) [])) (mkE_ok mix (tab24_ok N)) Try.func24 (show Try.f24.body = some (bod Try.f24) by kernel_rfl) (by decide +kernel) I24_ok D24_ok (args := A24) (fun _ => by kernel_rfl) (fun _ => by show 2 ≤ Try.f24.ntmps; exact of_decide_eq_true (by kernel_rfl)) (cutsIn_ok trivial) (fun x => match x with | (x0, x1, x2, x3) => F24_eq N x0 x1 x2 x3)

/-! ## f38: (*mirador/bitio.Reader).gap -/

noncomputable def I38 : Pk → Option ((ByteArray × (Int × (Int × Unit))))
  | ⟨[.radr (.cons .str (.cons (.int .i64) (.cons (.int .i64) .unit))) [x0] [.i 0 3]], []⟩ => some x0
  | _ => none

noncomputable def J38 (x : (ByteArray × (Int × (Int × Unit)))) : Pk := ⟨[.radr (.cons .str (.cons (.int .i64) (.cons (.int .i64) .unit))) [(x)] [.i 0 3]], []⟩

theorem I38_ok : ∀ pk x, I38 pk = some x → pk = J38 x := by
  intro pk x h
  unfold I38 at h
  split at h <;> first | (cases h; rfl) | cases h

noncomputable def A38 : List TV := []

noncomputable def tab38 (N : Nat) : List (Nat × (Pk → Tr Pk)) := []

theorem tab38_ok (N : Nat) : TabOK Try.prog (tab38 N) := trivial

noncomputable def O38 (r : Int) : Tr (Pk) := .ret ⟨[.v (.int .i64 (r))], []⟩

noncomputable def D38 : Pk → Option (Int)
  | ⟨[.v (.int .i64 x0)], []⟩ => some (x0)
  | _ => none

theorem D38_ok : ∀ y r, D38 y = some r → ∀ z, (O38 r).to z → y = z := by
  intro y r h
  unfold D38 at h
  split at h <;> first | (cases h; intro z hz; exact Option.some.inj hz) | cases h

noncomputable def F38 (N : Nat) : ((ByteArray × (Int × (Int × Unit)))) → Option (Int)
  | x0 =>
  some (Int.tmod (IntKind.wrap IntKind.i64 ((8 : Int) - Int.tmod (Prod.fst (Prod.snd x0)) (8 : Int))) (8 : Int))

theorem F38_eq (N : Nat) (x0 : (ByteArray × (Int × (Int × Unit)))) : (fnEv (mkE Try.prog ownT (tab38 N) []) Try.f38 (J38 x0)).run D38 = F38 N x0 := by kernel_rfl

noncomputable def T38 (N : Nat) : Pk → Tr Pk := tell I38 (F38 N) O38

theorem T38_ok (N : Nat) : FOK Try.prog 38 (T38 N) :=
  tell_ok (E := (mkE Try.prog ownT (tab38 N) [])) (mkE_ok mix (tab38_ok N)) Try.func38 (show Try.f38.body = some (bod Try.f38) by kernel_rfl) (by decide +kernel) I38_ok D38_ok (args := A38) (fun _ => by kernel_rfl) (fun _ => by show 1 ≤ Try.f38.ntmps; exact of_decide_eq_true (by kernel_rfl)) (cutsIn_ok trivial) (fun x => match x with | x0 => F38_eq N x0)

/-! ## f25: (*mirador/bitio.Reader).Align -/

noncomputable def I25 : Pk → Option (ByteArray × Int × Int)
  | ⟨[.adr 0 []], [some (.var (.agg [.v (.string x0), .v (.int .i64 x1), .v (.int .i64 x2)]))]⟩ => some (x0, x1, x2)
  | _ => none

noncomputable def J25 (x : ByteArray × Int × Int) : Pk := ⟨[.adr 0 []], [some (.var (.agg [.v (.string (x.1)), .v (.int .i64 (x.2.1)), .v (.int .i64 (x.2.2))]))]⟩

theorem I25_ok : ∀ pk x, I25 pk = some x → pk = J25 x := by
  intro pk x h
  unfold I25 at h
  split at h <;> first | (cases h; rfl) | cases h

noncomputable def A25 : List TV := [.adr 0 []]

noncomputable def tab25 (N : Nat) : List (Nat × (Pk → Tr Pk)) := [(38, T38 N), (13, T13 N)]

theorem tab25_ok (N : Nat) : TabOK Try.prog (tab25 N) := ⟨T38_ok N, ⟨T13_ok N, trivial⟩⟩

noncomputable def O25 (r : Int × ByteArray × Int × Int) : Tr (Pk) := .ret ⟨[.v (.int .i64 (r.1))], [some (.var (.agg [.v (.string (r.2.1)), .v (.int .i64 (r.2.2.1)), .v (.int .i64 (r.2.2.2))]))]⟩

noncomputable def D25 : Pk → Option (Int × ByteArray × Int × Int)
  | ⟨[.v (.int .i64 x0)], [some (.var (.agg [.v (.string x1), .v (.int .i64 x2), .v (.int .i64 x3)]))]⟩ => some ((x0, x1, x2, x3))
  | _ => none

theorem D25_ok : ∀ y r, D25 y = some r → ∀ z, (O25 r).to z → y = z := by
  intro y r h
  unfold D25 at h
  split at h <;> first | (cases h; intro z hz; exact Option.some.inj hz) | cases h

noncomputable def F25 (N : Nat) : (ByteArray × Int × Int) → Option (Int × ByteArray × Int × Int)
  | (x0, x1, x2) =>
  Option.bind (F38 N (x0, x1, x2, ())) fun y0 =>
  Option.bind (F13 N (y0, x0, x1, x2)) fun y1 =>
  some ((Prod.fst y1, Prod.fst (Prod.snd y1), Prod.fst (Prod.snd (Prod.snd y1)), Prod.snd (Prod.snd (Prod.snd y1))))

theorem F25_eq (N : Nat) (x0 : ByteArray) (x1 : Int) (x2 : Int) : (fnEv (mkE Try.prog ownT (tab25 N) []) Try.f25 (J25 (x0, x1, x2))).run D25 = F25 N (x0, x1, x2) := by kernel_rfl

noncomputable def T25 (N : Nat) : Pk → Tr Pk := tell I25 (F25 N) O25

theorem T25_ok (N : Nat) : FOK Try.prog 25 (T25 N) :=
  tell_ok (E := (mkE Try.prog ownT (tab25 N) [])) (mkE_ok mix (tab25_ok N)) Try.func25 (show Try.f25.body = some (bod Try.f25) by kernel_rfl) (by decide +kernel) I25_ok D25_ok (args := A25) (fun _ => by kernel_rfl) (fun _ => by show 1 ≤ Try.f25.ntmps; exact of_decide_eq_true (by kernel_rfl)) (cutsIn_ok trivial) (fun x => match x with | (x0, x1, x2) => F25_eq N x0 x1 x2)

/-! ## f39: (*mirador/miradorref02.Reader).gap -/

noncomputable def I39 : Pk → Option (((List Bool) × (Int × (Int × Unit))))
  | ⟨[.radr (.cons (.sl .bool) (.cons (.int .i64) (.cons (.int .i64) .unit))) [x0] [.i 0 3]], []⟩ => some x0
  | _ => none

noncomputable def J39 (x : ((List Bool) × (Int × (Int × Unit)))) : Pk := ⟨[.radr (.cons (.sl .bool) (.cons (.int .i64) (.cons (.int .i64) .unit))) [(x)] [.i 0 3]], []⟩

theorem I39_ok : ∀ pk x, I39 pk = some x → pk = J39 x := by
  intro pk x h
  unfold I39 at h
  split at h <;> first | (cases h; rfl) | cases h

noncomputable def A39 : List TV := []

noncomputable def tab39 (N : Nat) : List (Nat × (Pk → Tr Pk)) := []

theorem tab39_ok (N : Nat) : TabOK Try.prog (tab39 N) := trivial

noncomputable def O39 (r : Int) : Tr (Pk) := .ret ⟨[.v (.int .i64 (r))], []⟩

noncomputable def D39 : Pk → Option (Int)
  | ⟨[.v (.int .i64 x0)], []⟩ => some (x0)
  | _ => none

theorem D39_ok : ∀ y r, D39 y = some r → ∀ z, (O39 r).to z → y = z := by
  intro y r h
  unfold D39 at h
  split at h <;> first | (cases h; intro z hz; exact Option.some.inj hz) | cases h

noncomputable def F39 (N : Nat) : (((List Bool) × (Int × (Int × Unit)))) → Option (Int)
  | x0 =>
  some (Int.tmod (IntKind.wrap IntKind.i64 ((8 : Int) - Int.tmod (Prod.fst (Prod.snd x0)) (8 : Int))) (8 : Int))

theorem F39_eq (N : Nat) (x0 : ((List Bool) × (Int × (Int × Unit)))) : (fnEv (mkE Try.prog ownT (tab39 N) []) Try.f39 (J39 x0)).run D39 = F39 N x0 := by kernel_rfl

noncomputable def T39 (N : Nat) : Pk → Tr Pk := tell I39 (F39 N) O39

theorem T39_ok (N : Nat) : FOK Try.prog 39 (T39 N) :=
  tell_ok (E := (mkE Try.prog ownT (tab39 N) [])) (mkE_ok mix (tab39_ok N)) Try.func39 (show Try.f39.body = some (bod Try.f39) by kernel_rfl) (by decide +kernel) I39_ok D39_ok (args := A39) (fun _ => by kernel_rfl) (fun _ => by show 1 ≤ Try.f39.ntmps; exact of_decide_eq_true (by kernel_rfl)) (cutsIn_ok trivial) (fun x => match x with | x0 => F39_eq N x0)

/-! ## f26: (*mirador/miradorref02.Reader).Align -/

noncomputable def I26 : Pk → Option (Int × Int × (List Bool))
  | ⟨[.adr 0 []], [some (.var (.agg [.sl 1 none, .v (.int .i64 x0), .v (.int .i64 x1)])), some (.row .bool 4 x2)]⟩ => some (x0, x1, x2)
  | _ => none

noncomputable def J26 (x : Int × Int × (List Bool)) : Pk := ⟨[.adr 0 []], [some (.var (.agg [.sl 1 none, .v (.int .i64 (x.1)), .v (.int .i64 (x.2.1))])), some (.row .bool 4 (x.2.2))]⟩

theorem I26_ok : ∀ pk x, I26 pk = some x → pk = J26 x := by
  intro pk x h
  unfold I26 at h
  split at h <;> first | (cases h; rfl) | cases h

noncomputable def A26 : List TV := [.adr 0 []]

noncomputable def tab26 (N : Nat) : List (Nat × (Pk → Tr Pk)) := [(39, T39 N), (24, T24 N)]

theorem tab26_ok (N : Nat) : TabOK Try.prog (tab26 N) := ⟨T39_ok N, ⟨T24_ok N, trivial⟩⟩

noncomputable def O26 (r : Int × Int × Int × (List Bool)) : Tr (Pk) := .ret ⟨[.v (.int .i64 (r.1))], [some (.var (.agg [.sl 1 (none), .v (.int .i64 (r.2.1)), .v (.int .i64 (r.2.2.1))])), some (.row (Ty.bool) 4 (r.2.2.2))]⟩

noncomputable def D26 : Pk → Option (Int × Int × Int × (List Bool))
  | ⟨[.v (.int .i64 x0)], [some (.var (.agg [.sl 1 (none), .v (.int .i64 x1), .v (.int .i64 x2)])), some (.row (Ty.bool) 4 x3)]⟩ => some ((x0, x1, x2, x3))
  | _ => none

theorem D26_ok : ∀ y r, D26 y = some r → ∀ z, (O26 r).to z → y = z := by
  intro y r h
  unfold D26 at h
  split at h <;> first | (cases h; intro z hz; exact Option.some.inj hz) | cases h

noncomputable def F26 (N : Nat) : (Int × Int × (List Bool)) → Option (Int × Int × Int × (List Bool))
  | (x0, x1, x2) =>
  Option.bind (F39 N (x2, x0, x1, ())) fun y0 =>
  Option.bind (F24 N (y0, x0, x1, x2)) fun y1 =>
  some ((Prod.fst y1, Prod.fst (Prod.snd y1), Prod.fst (Prod.snd (Prod.snd y1)), Prod.snd (Prod.snd (Prod.snd y1))))

theorem F26_eq (N : Nat) (x0 : Int) (x1 : Int) (x2 : (List Bool)) : (fnEv (mkE Try.prog ownT (tab26 N) []) Try.f26 (J26 (x0, x1, x2))).run D26 = F26 N (x0, x1, x2) := by kernel_rfl

noncomputable def T26 (N : Nat) : Pk → Tr Pk := tell I26 (F26 N) O26

theorem T26_ok (N : Nat) : FOK Try.prog 26 (T26 N) :=
  tell_ok (E := (mkE Try.prog ownT (tab26 N) [])) (mkE_ok mix (tab26_ok N)) Try.func26 (show Try.f26.body = some (bod Try.f26) by kernel_rfl) (by decide +kernel) I26_ok D26_ok (args := A26) (fun _ => by kernel_rfl) (fun _ => by show 1 ≤ Try.f26.ntmps; exact of_decide_eq_true (by kernel_rfl)) (cutsIn_ok trivial) (fun x => match x with | (x0, x1, x2) => F26_eq N x0 x1 x2)

/-! ## f27: (*mirador/bitio.Reader).Bytes -/

noncomputable def I27 : Pk → Option (Int × ByteArray × Int × Int)
  | ⟨[.adr 0 [], .v (.int .i64 x0)], [some (.var (.agg [.v (.string x1), .v (.int .i64 x2), .v (.int .i64 x3)]))]⟩ => some (x0, x1, x2, x3)
  | _ => none

noncomputable def J27 (x : Int × ByteArray × Int × Int) : Pk := ⟨[.adr 0 [], .v (.int .i64 (x.1))], [some (.var (.agg [.v (.string (x.2.1)), .v (.int .i64 (x.2.2.1)), .v (.int .i64 (x.2.2.2))]))]⟩

theorem I27_ok : ∀ pk x, I27 pk = some x → pk = J27 x := by
  intro pk x h
  unfold I27 at h
  split at h <;> first | (cases h; rfl) | cases h

noncomputable def A27 : List TV := [.adr 0 []]

noncomputable def tab27 (N : Nat) : List (Nat × (Pk → Tr Pk)) := [(38, T38 N), (35, T35 N), (30, T30 N)]

theorem tab27_ok (N : Nat) : TabOK Try.prog (tab27 N) := ⟨T38_ok N, ⟨T35_ok N, ⟨T30_ok N, trivial⟩⟩⟩

noncomputable def O27 (r : ByteArray × ByteArray × Int × Int) : Tr (Pk) := .ret ⟨[.v (.string (r.1))], [some (.var (.agg [.v (.string (r.2.1)), .v (.int .i64 (r.2.2.1)), .v (.int .i64 (r.2.2.2))]))]⟩

noncomputable def D27 : Pk → Option (ByteArray × ByteArray × Int × Int)
  | ⟨[.v (.string x0)], [some (.var (.agg [.v (.string x1), .v (.int .i64 x2), .v (.int .i64 x3)]))]⟩ => some ((x0, x1, x2, x3))
  | _ => none

theorem D27_ok : ∀ y r, D27 y = some r → ∀ z, (O27 r).to z → y = z := by
  intro y r h
  unfold D27 at h
  split at h <;> first | (cases h; intro z hz; exact Option.some.inj hz) | cases h

noncomputable def F27 (N : Nat) : (Int × ByteArray × Int × Int) → Option (ByteArray × ByteArray × Int × Int)
  | (x0, x1, x2, x3) =>
  if (decide ((if (0 : Int) > x0 then (0 : Int) else x0) > (↑(ByteArray.size x1) : Int))) = true then
    Option.bind (F30 N (x1, x2, x3, ())) fun y0 =>
    Option.bind (F35 N (IntKind.wrap IntKind.i64 (y0 + (1 : Int)), x1, x2, x3)) fun y1 =>
    some ((ByteArray.mk #[], Prod.fst (Prod.snd y1), Prod.fst (Prod.snd (Prod.snd y1)), Prod.snd (Prod.snd (Prod.snd y1))))
  else
    Option.bind (F38 N (x1, x2, x3, ())) fun y2 =>
    Option.bind (F35 N (IntKind.wrap IntKind.i64 (y2 + IntKind.wrap IntKind.i64 ((8 : Int) * if (0 : Int) > x0 then (0 : Int) else x0)), x1, x2, x3)) fun y3 =>
    if (!Prod.fst y3) = true then
      Option.bind (F30 N (Prod.fst (Prod.snd y3), Prod.fst (Prod.snd (Prod.snd y3)), Prod.snd (Prod.snd (Prod.snd y3)), ())) fun y4 =>
      Option.bind (F35 N (IntKind.wrap IntKind.i64 (y4 + (1 : Int)), Prod.fst (Prod.snd y3), Prod.fst (Prod.snd (Prod.snd y3)), Prod.snd (Prod.snd (Prod.snd y3)))) fun y5 =>
      some ((ByteArray.mk #[], Prod.fst (Prod.snd y5), Prod.fst (Prod.snd (Prod.snd y5)), Prod.snd (Prod.snd (Prod.snd y5))))
    else
      Option.bind (F38 N (Prod.fst (Prod.snd y3), Prod.fst (Prod.snd (Prod.snd y3)), Prod.snd (Prod.snd (Prod.snd y3)), ())) fun y6 =>
      if (decide ((0 : Int) ≤ IntKind.wrap IntKind.i64 (IntKind.wrap IntKind.i64 (Int.tdiv (IntKind.wrap IntKind.i64 (Prod.fst (Prod.snd (Prod.snd y3)) + y6)) (8 : Int)) + if (0 : Int) > x0 then (0 : Int) else x0) ∧ IntKind.wrap IntKind.i64 (IntKind.wrap IntKind.i64 (Int.tdiv (IntKind.wrap IntKind.i64 (Prod.fst (Prod.snd (Prod.snd y3)) + y6)) (8 : Int)) + if (0 : Int) > x0 then (0 : Int) else x0) ≤ (↑(ByteArray.size (Prod.fst (Prod.snd y3))) : Int))) = true then
        if (decide ((0 : Int) ≤ IntKind.wrap IntKind.i64 (Int.tdiv (IntKind.wrap IntKind.i64 (Prod.fst (Prod.snd (Prod.snd y3)) + y6)) (8 : Int)) ∧ IntKind.wrap IntKind.i64 (Int.tdiv (IntKind.wrap IntKind.i64 (Prod.fst (Prod.snd (Prod.snd y3)) + y6)) (8 : Int)) ≤ (↑(Int.toNat (IntKind.wrap IntKind.i64 (IntKind.wrap IntKind.i64 (Int.tdiv (IntKind.wrap IntKind.i64 (Prod.fst (Prod.snd (Prod.snd y3)) + y6)) (8 : Int)) + if (0 : Int) > x0 then (0 : Int) else x0))) : Int))) = true then
          some ((ByteArray.extract (Prod.fst (Prod.snd y3)) (Int.toNat (IntKind.wrap IntKind.i64 (Int.tdiv (IntKind.wrap IntKind.i64 (Prod.fst (Prod.snd (Prod.snd y3)) + y6)) (8 : Int)))) (Int.toNat (IntKind.wrap IntKind.i64 (IntKind.wrap IntKind.i64 (Int.tdiv (IntKind.wrap IntKind.i64 (Prod.fst (Prod.snd (Prod.snd y3)) + y6)) (8 : Int)) + if (0 : Int) > x0 then (0 : Int) else x0))), Prod.fst (Prod.snd y3), IntKind.wrap IntKind.i64 ((8 : Int) * IntKind.wrap IntKind.i64 (IntKind.wrap IntKind.i64 (Int.tdiv (IntKind.wrap IntKind.i64 (Prod.fst (Prod.snd (Prod.snd y3)) + y6)) (8 : Int)) + if (0 : Int) > x0 then (0 : Int) else x0)), Prod.snd (Prod.snd (Prod.snd y3))))
        else
          none
      else
        none

theorem F27_eq (N : Nat) (x0 : Int) (x1 : ByteArray) (x2 : Int) (x3 : Int) : (fnEv (mkE Try.prog ownT (tab27 N) []) Try.f27 (J27 (x0, x1, x2, x3))).run D27 = F27 N (x0, x1, x2, x3) := by kernel_rfl

noncomputable def T27 (N : Nat) : Pk → Tr Pk := tell I27 (F27 N) O27

theorem T27_ok (N : Nat) : FOK Try.prog 27 (T27 N) :=
  tell_ok (E := (mkE Try.prog ownT (tab27 N) [])) (mkE_ok mix (tab27_ok N)) Try.func27 (show Try.f27.body = some (bod Try.f27) by kernel_rfl) (by decide +kernel) I27_ok D27_ok (args := A27) (fun _ => by kernel_rfl) (fun _ => by show 2 ≤ Try.f27.ntmps; exact of_decide_eq_true (by kernel_rfl)) (cutsIn_ok trivial) (fun x => match x with | (x0, x1, x2, x3) => F27_eq N x0 x1 x2 x3)

/-! ## f28: (*mirador/miradorref02.Reader).Bytes -/

noncomputable def I28 : Pk → Option (Int × Int × Int × (List Bool))
  | ⟨[.adr 0 [], .v (.int .i64 x0)], [some (.var (.agg [.sl 1 none, .v (.int .i64 x1), .v (.int .i64 x2)])), some (.row .bool 4 x3)]⟩ => some (x0, x1, x2, x3)
  | _ => none

noncomputable def J28 (x : Int × Int × Int × (List Bool)) : Pk := ⟨[.adr 0 [], .v (.int .i64 (x.1))], [some (.var (.agg [.sl 1 none, .v (.int .i64 (x.2.1)), .v (.int .i64 (x.2.2.1))])), some (.row .bool 4 (x.2.2.2))]⟩

theorem I28_ok : ∀ pk x, I28 pk = some x → pk = J28 x := by
  intro pk x h
  unfold I28 at h
  split at h <;> first | (cases h; rfl) | cases h

noncomputable def A28 : List TV := [.adr 0 []]

noncomputable def tab28 (N : Nat) : List (Nat × (Pk → Tr Pk)) := [(39, T39 N), (23, T23 N)]

theorem tab28_ok (N : Nat) : TabOK Try.prog (tab28 N) := ⟨T39_ok N, ⟨T23_ok N, trivial⟩⟩

noncomputable def O28 (r : ByteArray × Int × Int × (List Bool)) : Tr (Pk) := .ret ⟨[.v (.string (r.1))], [some (.var (.agg [.sl 1 (none), .v (.int .i64 (r.2.1)), .v (.int .i64 (r.2.2.1))])), some (.row (Ty.bool) 4 (r.2.2.2))]⟩

noncomputable def D28 : Pk → Option (ByteArray × Int × Int × (List Bool))
  | ⟨[.v (.string x0)], [some (.var (.agg [.sl 1 (none), .v (.int .i64 x1), .v (.int .i64 x2)])), some (.row (Ty.bool) 4 x3)]⟩ => some ((x0, x1, x2, x3))
  | _ => none

theorem D28_ok : ∀ y r, D28 y = some r → ∀ z, (O28 r).to z → y = z := by
  intro y r h
  unfold D28 at h
  split at h <;> first | (cases h; intro z hz; exact Option.some.inj hz) | cases h

noncomputable def F28 (N : Nat) : (Int × Int × Int × (List Bool)) → Option (ByteArray × Int × Int × (List Bool))
  | (x0, x1, x2, x3) =>
  if (x2 == (0 : Int)) = true then
    Option.bind (F39 N (x3, x1, x2, ())) fun y0 =>
    if (decide ((if (0 : Int) > x0 then (0 : Int) else x0) > IntKind.wrap IntKind.i64 (Int.tdiv (IntKind.wrap IntKind.i64 (IntKind.wrap IntKind.i64 ((↑(List.length x3) : Int) - x1) - y0)) (8 : Int)))) = true then
      some ((ByteArray.mk #[], x1, (2 : Int), x3))
    else
      if (x2 != (0 : Int)) = true then
        some ((ByteArray.mk #[], x1, x2, x3))
      else
        Option.bind (F39 N (x3, x1, x2, ())) fun y1 =>
        if (decide ((0 : Int) ≤ IntKind.wrap IntKind.i64 (IntKind.wrap IntKind.i64 (x1 + y1) + IntKind.wrap IntKind.i64 ((8 : Int) * if (0 : Int) > x0 then (0 : Int) else x0)) ∧ IntKind.wrap IntKind.i64 (IntKind.wrap IntKind.i64 (x1 + y1) + IntKind.wrap IntKind.i64 ((8 : Int) * if (0 : Int) > x0 then (0 : Int) else x0)) ≤ (↑(List.length x3) : Int))) = true then
          if (decide ((0 : Int) ≤ IntKind.wrap IntKind.i64 (IntKind.wrap IntKind.i64 (IntKind.wrap IntKind.i64 (x1 + y1) + IntKind.wrap IntKind.i64 ((8 : Int) * if (0 : Int) > x0 then (0 : Int) else x0)) - IntKind.wrap IntKind.i64 ((8 : Int) * if (0 : Int) > x0 then (0 : Int) else x0)) ∧ IntKind.wrap IntKind.i64 (IntKind.wrap IntKind.i64 (IntKind.wrap IntKind.i64 (x1 + y1) + IntKind.wrap IntKind.i64 ((8 : Int) * if (0 : Int) > x0 then (0 : Int) else x0)) - IntKind.wrap IntKind.i64 ((8 : Int) * if (0 : Int) > x0 then (0 : Int) else x0)) ≤ (↑(Int.toNat (IntKind.wrap IntKind.i64 (IntKind.wrap IntKind.i64 (x1 + y1) + IntKind.wrap IntKind.i64 ((8 : Int) * if (0 : Int) > x0 then (0 : Int) else x0)))) : Int))) = true then
            Option.bind (F23 N (List.take (Int.toNat (IntKind.wrap IntKind.i64 (IntKind.wrap IntKind.i64 (x1 + y1) + IntKind.wrap IntKind.i64 ((8 : Int) * if (0 : Int) > x0 then (0 : Int) else x0))) - Int.toNat (IntKind.wrap IntKind.i64 (IntKind.wrap IntKind.i64 (IntKind.wrap IntKind.i64 (x1 + y1) + IntKind.wrap IntKind.i64 ((8 : Int) * if (0 : Int) > x0 then (0 : Int) else x0)) - IntKind.wrap IntKind.i64 ((8 : Int) * if (0 : Int) > x0 then (0 : Int) else x0)))) (List.drop (Int.toNat (IntKind.wrap IntKind.i64 (IntKind.wrap IntKind.i64 (IntKind.wrap IntKind.i64 (x1 + y1) + IntKind.wrap IntKind.i64 ((8 : Int) * if (0 : Int) > x0 then (0 : Int) else x0)) - IntKind.wrap IntKind.i64 ((8 : Int) * if (0 : Int) > x0 then (0 : Int) else x0)))) x3))) fun y2 =>
            some ((y2, IntKind.wrap IntKind.i64 (IntKind.wrap IntKind.i64 (x1 + y1) + IntKind.wrap IntKind.i64 ((8 : Int) * if (0 : Int) > x0 then (0 : Int) else x0)), x2, x3))
          else
            none
        else
          none
  else
    if (x2 != (0 : Int)) = true then
      some ((ByteArray.mk #[], x1, x2, x3))
    else
      Option.bind (F39 N (x3, x1, x2, ())) fun y3 =>
      if (decide ((0 : Int) ≤ IntKind.wrap IntKind.i64 (IntKind.wrap IntKind.i64 (x1 + y3) + IntKind.wrap IntKind.i64 ((8 : Int) * if (0 : Int) > x0 then (0 : Int) else x0)) ∧ IntKind.wrap IntKind.i64 (IntKind.wrap IntKind.i64 (x1 + y3) + IntKind.wrap IntKind.i64 ((8 : Int) * if (0 : Int) > x0 then (0 : Int) else x0)) ≤ (↑(List.length x3) : Int))) = true then
        if (decide ((0 : Int) ≤ IntKind.wrap IntKind.i64 (IntKind.wrap IntKind.i64 (IntKind.wrap IntKind.i64 (x1 + y3) + IntKind.wrap IntKind.i64 ((8 : Int) * if (0 : Int) > x0 then (0 : Int) else x0)) - IntKind.wrap IntKind.i64 ((8 : Int) * if (0 : Int) > x0 then (0 : Int) else x0)) ∧ IntKind.wrap IntKind.i64 (IntKind.wrap IntKind.i64 (IntKind.wrap IntKind.i64 (x1 + y3) + IntKind.wrap IntKind.i64 ((8 : Int) * if (0 : Int) > x0 then (0 : Int) else x0)) - IntKind.wrap IntKind.i64 ((8 : Int) * if (0 : Int) > x0 then (0 : Int) else x0)) ≤ (↑(Int.toNat (IntKind.wrap IntKind.i64 (IntKind.wrap IntKind.i64 (x1 + y3) + IntKind.wrap IntKind.i64 ((8 : Int) * if (0 : Int) > x0 then (0 : Int) else x0)))) : Int))) = true then
          Option.bind (F23 N (List.take (Int.toNat (IntKind.wrap IntKind.i64 (IntKind.wrap IntKind.i64 (x1 + y3) + IntKind.wrap IntKind.i64 ((8 : Int) * if (0 : Int) > x0 then (0 : Int) else x0))) - Int.toNat (IntKind.wrap IntKind.i64 (IntKind.wrap IntKind.i64 (IntKind.wrap IntKind.i64 (x1 + y3) + IntKind.wrap IntKind.i64 ((8 : Int) * if (0 : Int) > x0 then (0 : Int) else x0)) - IntKind.wrap IntKind.i64 ((8 : Int) * if (0 : Int) > x0 then (0 : Int) else x0)))) (List.drop (Int.toNat (IntKind.wrap IntKind.i64 (IntKind.wrap IntKind.i64 (IntKind.wrap IntKind.i64 (x1 + y3) + IntKind.wrap IntKind.i64 ((8 : Int) * if (0 : Int) > x0 then (0 : Int) else x0)) - IntKind.wrap IntKind.i64 ((8 : Int) * if (0 : Int) > x0 then (0 : Int) else x0)))) x3))) fun y4 =>
          some ((y4, IntKind.wrap IntKind.i64 (IntKind.wrap IntKind.i64 (x1 + y3) + IntKind.wrap IntKind.i64 ((8 : Int) * if (0 : Int) > x0 then (0 : Int) else x0)), x2, x3))
        else
          none
      else
        none

theorem F28_eq (N : Nat) (x0 : Int) (x1 : Int) (x2 : Int) (x3 : (List Bool)) : (fnEv (mkE Try.prog ownT (tab28 N) []) Try.f28 (J28 (x0, x1, x2, x3))).run D28 = F28 N (x0, x1, x2, x3) := by kernel_rfl

noncomputable def T28 (N : Nat) : Pk → Tr Pk := tell I28 (F28 N) O28

theorem T28_ok (N : Nat) : FOK Try.prog 28 (T28 N) :=
  tell_ok (E := (mkE Try.prog ownT (tab28 N) [])) (mkE_ok mix (tab28_ok N)) Try.func28 (show Try.f28.body = some (bod Try.f28) by kernel_rfl) (by decide +kernel) I28_ok D28_ok (args := A28) (fun _ => by kernel_rfl) (fun _ => by show 2 ≤ Try.f28.ntmps; exact of_decide_eq_true (by kernel_rfl)) (cutsIn_ok trivial) (fun x => match x with | (x0, x1, x2, x3) => F28_eq N x0 x1 x2 x3)

/-! ## f29: (*mirador/bitio.Reader).At -/

noncomputable def I29 : Pk → Option ((ByteArray × (Int × (Int × Unit))))
  | ⟨[.radr (.cons .str (.cons (.int .i64) (.cons (.int .i64) .unit))) [x0] [.i 0 3]], []⟩ => some x0
  | _ => none

noncomputable def J29 (x : (ByteArray × (Int × (Int × Unit)))) : Pk := ⟨[.radr (.cons .str (.cons (.int .i64) (.cons (.int .i64) .unit))) [(x)] [.i 0 3]], []⟩

theorem I29_ok : ∀ pk x, I29 pk = some x → pk = J29 x := by
  intro pk x h
  unfold I29 at h
  split at h <;> first | (cases h; rfl) | cases h

noncomputable def A29 : List TV := []

noncomputable def tab29 (N : Nat) : List (Nat × (Pk → Tr Pk)) := []

theorem tab29_ok (N : Nat) : TabOK Try.prog (tab29 N) := trivial

noncomputable def O29 (r : Int) : Tr (Pk) := .ret ⟨[.v (.int .i64 (r))], []⟩

noncomputable def D29 : Pk → Option (Int)
  | ⟨[.v (.int .i64 x0)], []⟩ => some (x0)
  | _ => none

theorem D29_ok : ∀ y r, D29 y = some r → ∀ z, (O29 r).to z → y = z := by
  intro y r h
  unfold D29 at h
  split at h <;> first | (cases h; intro z hz; exact Option.some.inj hz) | cases h

noncomputable def F29 (N : Nat) : ((ByteArray × (Int × (Int × Unit)))) → Option (Int)
  | x0 =>
  some (Prod.fst (Prod.snd x0))

theorem F29_eq (N : Nat) (x0 : (ByteArray × (Int × (Int × Unit)))) : (fnEv (mkE Try.prog ownT (tab29 N) []) Try.f29 (J29 x0)).run D29 = F29 N x0 := by kernel_rfl

noncomputable def T29 (N : Nat) : Pk → Tr Pk := tell I29 (F29 N) O29

theorem T29_ok (N : Nat) : FOK Try.prog 29 (T29 N) :=
  tell_ok (E := (mkE Try.prog ownT (tab29 N) [])) (mkE_ok mix (tab29_ok N)) Try.func29 (show Try.f29.body = some (bod Try.f29) by kernel_rfl) (by decide +kernel) I29_ok D29_ok (args := A29) (fun _ => by kernel_rfl) (fun _ => by show 1 ≤ Try.f29.ntmps; exact of_decide_eq_true (by kernel_rfl)) (cutsIn_ok trivial) (fun x => match x with | x0 => F29_eq N x0)

/-! ## f6: mirador/miradorlaw02.BitioReads -/

noncomputable def I6 : Pk → Option (ByteArray × (List (Int × (Int × (Int × (ByteArray × Unit))))))
  | ⟨[.v (.string x0), .ro (.cons (.int .i64) (.cons (.int .i64) (.cons (.int .i64) (.cons .str .unit)))) x1], []⟩ => some (x0, x1)
  | _ => none

noncomputable def J6 (x : ByteArray × (List (Int × (Int × (Int × (ByteArray × Unit)))))) : Pk := ⟨[.v (.string (x.1)), .ro (.cons (.int .i64) (.cons (.int .i64) (.cons (.int .i64) (.cons .str .unit)))) (x.2)], []⟩

theorem I6_ok : ∀ pk x, I6 pk = some x → pk = J6 x := by
  intro pk x h
  unfold I6 at h
  split at h <;> first | (cases h; rfl) | cases h

noncomputable def A6 : List TV := []

noncomputable def tab6 (N : Nat) : List (Nat × (Pk → Tr Pk)) := [(8, T8 N), (15, T15 N), (11, T11 N), (22, T22 N), (13, T13 N), (24, T24 N), (25, T25 N), (26, T26 N), (27, T27 N), (28, T28 N), (29, T29 N), (30, T30 N), (31, T31 N)]

theorem tab6_ok (N : Nat) : TabOK Try.prog (tab6 N) := ⟨T8_ok N, ⟨T15_ok N, ⟨T11_ok N, ⟨T22_ok N, ⟨T13_ok N, ⟨T24_ok N, ⟨T25_ok N, ⟨T26_ok N, ⟨T27_ok N, ⟨T28_ok N, ⟨T29_ok N, ⟨T30_ok N, ⟨T31_ok N, trivial⟩⟩⟩⟩⟩⟩⟩⟩⟩⟩⟩⟩⟩

def X6_2042 : Ex → List Nat
  | .ret => [4]
  | .exit 0 => [5]
  | _ => []

noncomputable def I6_2042 : Pk → Option (Int × Bool × (List (Int × (Int × (Int × (ByteArray × Unit))))) × ByteArray × Int × Int × ByteArray × Int × Int × (List Bool))
  | ⟨[.v (.int .i64 x0), .v (.bool x1), .ro (Ty.cons (Ty.int IntKind.i64) (Ty.cons (Ty.int IntKind.i64) (Ty.cons (Ty.int IntKind.i64) (Ty.cons Ty.str Ty.unit)))) x2, .adr 0 [], .adr 1 [], .v (.string x3)], [some (.var (.agg [.sl 2 (none), .v (.int .i64 x4), .v (.int .i64 x5)])), some (.var (.agg [.v (.string x6), .v (.int .i64 x7), .v (.int .i64 x8)])), some (.row (Ty.bool) 4 x9)]⟩ => some (x0, x1, x2, x3, x4, x5, x6, x7, x8, x9)
  | _ => none

noncomputable def J6_2042 (x : Int × Bool × (List (Int × (Int × (Int × (ByteArray × Unit))))) × ByteArray × Int × Int × ByteArray × Int × Int × (List Bool)) : Pk := ⟨[.v (.int .i64 (x.1)), .v (.bool (x.2.1)), .ro (Ty.cons (Ty.int IntKind.i64) (Ty.cons (Ty.int IntKind.i64) (Ty.cons (Ty.int IntKind.i64) (Ty.cons Ty.str Ty.unit)))) (x.2.2.1), .adr 0 [], .adr 1 [], .v (.string (x.2.2.2.1))], [some (.var (.agg [.sl 2 (none), .v (.int .i64 (x.2.2.2.2.1)), .v (.int .i64 (x.2.2.2.2.2.1))])), some (.var (.agg [.v (.string (x.2.2.2.2.2.2.1)), .v (.int .i64 (x.2.2.2.2.2.2.2.1)), .v (.int .i64 (x.2.2.2.2.2.2.2.2.1))])), some (.row (Ty.bool) 4 (x.2.2.2.2.2.2.2.2.2))]⟩

theorem I6_2042_ok : ∀ pk x, I6_2042 pk = some x → pk = J6_2042 x := by
  intro pk x h
  unfold I6_2042 at h
  split at h <;> first | (cases h; rfl) | cases h

noncomputable def O6_2042 (r : ((Bool) ⊕ (Bool))) : Tr (Ex × Pk) := .sum _ _ r (fun u => .ret (.ret, ⟨[.v (.bool (u))], []⟩)) (fun v => .ret (.exit 0, ⟨[.v (.bool (v))], []⟩))

noncomputable def D6_2042 : Ex × Pk → Option (((Bool) ⊕ (Bool)))
  | (.ret, ⟨[.v (.bool x0)], []⟩) => some (.inl (x0))
  | (.exit 0, ⟨[.v (.bool x0)], []⟩) => some (.inr (x0))
  | _ => none

theorem D6_2042_ok : ∀ y r, D6_2042 y = some r → ∀ z, (O6_2042 r).to z → y = z := by
  intro y r h
  unfold D6_2042 at h
  split at h <;> first | (cases h; intro z hz; exact Option.some.inj hz) | cases h

noncomputable def B6_2042 (N : Nat) (f : (Int × Bool × (List (Int × (Int × (Int × (ByteArray × Unit))))) × ByteArray × Int × Int × ByteArray × Int × Int × (List Bool)) → Option (((Bool) ⊕ (Bool)))) : (Int × Bool × (List (Int × (Int × (Int × (ByteArray × Unit))))) × ByteArray × Int × Int × ByteArray × Int × Int × (List Bool)) → Option (((Bool) ⊕ (Bool)))
  | (x0, x1, x2, x3, x4, x5, x6, x7, x8, x9) =>
  if (decide (x0 < (↑(List.length x2) : Int))) = true then
    if (within x0 (List.length x2)) = true then
      Option.bind (x2[Int.toNat x0]?) fun y0 =>
      if (Int.tmod (Prod.fst y0) (4 : Int) == (0 : Int)) = true then
        Option.bind (F13 N (Prod.fst (Prod.snd y0), x6, x7, x8)) fun y1 =>
        Option.bind (F24 N (Prod.fst (Prod.snd y0), x4, x5, x9)) fun y2 =>
        if (Prod.fst y1 != Prod.fst y2) = true then
          some (.inl (false))
        else
          Option.bind (F29 N (Prod.fst (Prod.snd y1), Prod.fst (Prod.snd (Prod.snd y1)), Prod.snd (Prod.snd (Prod.snd y1)), ())) fun y3 =>
          if (y3 != Prod.fst (Prod.snd y2)) = true then
            some (.inl (false))
          else
            Option.bind (F30 N (Prod.fst (Prod.snd y1), Prod.fst (Prod.snd (Prod.snd y1)), Prod.snd (Prod.snd (Prod.snd y1)), ())) fun y4 =>
            if (y4 != IntKind.wrap IntKind.i64 (IntKind.wrap IntKind.i64 ((8 : Int) * (↑(ByteArray.size x3) : Int)) - Prod.fst (Prod.snd y2))) = true then
              some (.inl (false))
            else
              Option.bind (F31 N (Prod.fst (Prod.snd y1), Prod.fst (Prod.snd (Prod.snd y1)), Prod.snd (Prod.snd (Prod.snd y1)), ())) fun y5 =>
              if (y5 != Prod.fst (Prod.snd (Prod.snd y2))) = true then
                some (.inl (false))
              else
                Option.bind (f (IntKind.wrap IntKind.i64 (x0 + (1 : Int)), x1, x2, x3, Prod.fst (Prod.snd y2), Prod.fst (Prod.snd (Prod.snd y2)), Prod.fst (Prod.snd y1), Prod.fst (Prod.snd (Prod.snd y1)), Prod.snd (Prod.snd (Prod.snd y1)), Prod.snd (Prod.snd (Prod.snd y2)))) fun r => match r with | .inl (y) => some (.inl (y)) | .inr (y) => some (.inr (y))
      else
        if (Int.tmod (Prod.fst y0) (4 : Int) == (1 : Int)) = true then
          Option.bind (F13 N (Prod.fst (Prod.snd y0), x6, x7, x8)) fun y6 =>
          Option.bind (F24 N (Prod.fst (Prod.snd y0), x4, x5, x9)) fun y7 =>
          if (Prod.fst y6 != Prod.fst y7) = true then
            some (.inl (false))
          else
            Option.bind (F29 N (Prod.fst (Prod.snd y6), Prod.fst (Prod.snd (Prod.snd y6)), Prod.snd (Prod.snd (Prod.snd y6)), ())) fun y8 =>
            if (y8 != Prod.fst (Prod.snd y7)) = true then
              some (.inl (false))
            else
              Option.bind (F30 N (Prod.fst (Prod.snd y6), Prod.fst (Prod.snd (Prod.snd y6)), Prod.snd (Prod.snd (Prod.snd y6)), ())) fun y9 =>
              if (y9 != IntKind.wrap IntKind.i64 (IntKind.wrap IntKind.i64 ((8 : Int) * (↑(ByteArray.size x3) : Int)) - Prod.fst (Prod.snd y7))) = true then
                some (.inl (false))
              else
                Option.bind (F31 N (Prod.fst (Prod.snd y6), Prod.fst (Prod.snd (Prod.snd y6)), Prod.snd (Prod.snd (Prod.snd y6)), ())) fun y10 =>
                if (y10 != Prod.fst (Prod.snd (Prod.snd y7))) = true then
                  some (.inl (false))
                else
                  Option.bind (f (IntKind.wrap IntKind.i64 (x0 + (1 : Int)), x1, x2, x3, Prod.fst (Prod.snd y7), Prod.fst (Prod.snd (Prod.snd y7)), Prod.fst (Prod.snd y6), Prod.fst (Prod.snd (Prod.snd y6)), Prod.snd (Prod.snd (Prod.snd y6)), Prod.snd (Prod.snd (Prod.snd y7)))) fun r => match r with | .inl (y) => some (.inl (y)) | .inr (y) => some (.inr (y))
        else
          if (Int.tmod (Prod.fst y0) (4 : Int) == (2 : Int)) = true then
            Option.bind (F25 N (x6, x7, x8)) fun y11 =>
            Option.bind (F26 N (x4, x5, x9)) fun y12 =>
            if (Prod.fst y11 != Prod.fst y12) = true then
              some (.inl (false))
            else
              Option.bind (F29 N (Prod.fst (Prod.snd y11), Prod.fst (Prod.snd (Prod.snd y11)), Prod.snd (Prod.snd (Prod.snd y11)), ())) fun y13 =>
              if (y13 != Prod.fst (Prod.snd y12)) = true then
                some (.inl (false))
              else
                Option.bind (F30 N (Prod.fst (Prod.snd y11), Prod.fst (Prod.snd (Prod.snd y11)), Prod.snd (Prod.snd (Prod.snd y11)), ())) fun y14 =>
                if (y14 != IntKind.wrap IntKind.i64 (IntKind.wrap IntKind.i64 ((8 : Int) * (↑(ByteArray.size x3) : Int)) - Prod.fst (Prod.snd y12))) = true then
                  some (.inl (false))
                else
                  Option.bind (F31 N (Prod.fst (Prod.snd y11), Prod.fst (Prod.snd (Prod.snd y11)), Prod.snd (Prod.snd (Prod.snd y11)), ())) fun y15 =>
                  if (y15 != Prod.fst (Prod.snd (Prod.snd y12))) = true then
                    some (.inl (false))
                  else
                    Option.bind (f (IntKind.wrap IntKind.i64 (x0 + (1 : Int)), x1, x2, x3, Prod.fst (Prod.snd y12), Prod.fst (Prod.snd (Prod.snd y12)), Prod.fst (Prod.snd y11), Prod.fst (Prod.snd (Prod.snd y11)), Prod.snd (Prod.snd (Prod.snd y11)), Prod.snd (Prod.snd (Prod.snd y12)))) fun r => match r with | .inl (y) => some (.inl (y)) | .inr (y) => some (.inr (y))
          else
            if (Int.tmod (Prod.fst y0) (4 : Int) == (3 : Int)) = true then
              Option.bind (F27 N (Prod.fst (Prod.snd y0), x6, x7, x8)) fun y16 =>
              Option.bind (F28 N (Prod.fst (Prod.snd y0), x4, x5, x9)) fun y17 =>
              if (!ByteArray.toList (Prod.fst y16) == ByteArray.toList (Prod.fst y17)) = true then
                some (.inl (false))
              else
                Option.bind (F29 N (Prod.fst (Prod.snd y16), Prod.fst (Prod.snd (Prod.snd y16)), Prod.snd (Prod.snd (Prod.snd y16)), ())) fun y18 =>
                if (y18 != Prod.fst (Prod.snd y17)) = true then
                  some (.inl (false))
                else
                  Option.bind (F30 N (Prod.fst (Prod.snd y16), Prod.fst (Prod.snd (Prod.snd y16)), Prod.snd (Prod.snd (Prod.snd y16)), ())) fun y19 =>
                  if (y19 != IntKind.wrap IntKind.i64 (IntKind.wrap IntKind.i64 ((8 : Int) * (↑(ByteArray.size x3) : Int)) - Prod.fst (Prod.snd y17))) = true then
                    some (.inl (false))
                  else
                    Option.bind (F31 N (Prod.fst (Prod.snd y16), Prod.fst (Prod.snd (Prod.snd y16)), Prod.snd (Prod.snd (Prod.snd y16)), ())) fun y20 =>
                    if (y20 != Prod.fst (Prod.snd (Prod.snd y17))) = true then
                      some (.inl (false))
                    else
                      Option.bind (f (IntKind.wrap IntKind.i64 (x0 + (1 : Int)), x1, x2, x3, Prod.fst (Prod.snd y17), Prod.fst (Prod.snd (Prod.snd y17)), Prod.fst (Prod.snd y16), Prod.fst (Prod.snd (Prod.snd y16)), Prod.snd (Prod.snd (Prod.snd y16)), Prod.snd (Prod.snd (Prod.snd y17)))) fun r => match r with | .inl (y) => some (.inl (y)) | .inr (y) => some (.inr (y))
            else
              Option.bind (F29 N (x6, x7, x8, ())) fun y21 =>
              if (y21 != x4) = true then
                some (.inl (false))
              else
                Option.bind (F30 N (x6, x7, x8, ())) fun y22 =>
                if (y22 != IntKind.wrap IntKind.i64 (IntKind.wrap IntKind.i64 ((8 : Int) * (↑(ByteArray.size x3) : Int)) - x4)) = true then
                  some (.inl (false))
                else
                  Option.bind (F31 N (x6, x7, x8, ())) fun y23 =>
                  if (y23 != x5) = true then
                    some (.inl (false))
                  else
                    Option.bind (f (IntKind.wrap IntKind.i64 (x0 + (1 : Int)), x1, x2, x3, x4, x5, x6, x7, x8, x9)) fun r => match r with | .inl (y) => some (.inl (y)) | .inr (y) => some (.inr (y))
    else
      none
  else
    some (.inr (x1))

noncomputable def F6_2042 (N : Nat) : Nat → (Int × Bool × (List (Int × (Int × (Int × (ByteArray × Unit))))) × ByteArray × Int × Int × ByteArray × Int × Int × (List Bool)) → Option (((Bool) ⊕ (Bool)))
  | 0, _ => none
  | k + 1, x => B6_2042 N (F6_2042 N k) x

noncomputable def C6_2042 (N k : Nat) : Cut := ⟨[9, 5, 1, 8, 7, 0], X6_2042, tellX I6_2042 (F6_2042 N k) O6_2042⟩

theorem B6_2042_eq (N : Nat) (f : (Int × Bool × (List (Int × (Int × (Int × (ByteArray × Unit))))) × ByteArray × Int × Int × ByteArray × Int × Int × (List Bool)) → Option (((Bool) ⊕ (Bool)))) (x0 : Int) (x1 : Bool) (x2 : (List (Int × (Int × (Int × (ByteArray × Unit)))))) (x3 : ByteArray) (x4 : Int) (x5 : Int) (x6 : ByteArray) (x7 : Int) (x8 : Int) (x9 : (List Bool)) : (roundEv (mkE Try.prog ownT (tab6 N) []) Try.f6.ntmps A6 (loopAt (bod Try.f6) 2042) 2042 ⟨[9, 5, 1, 8, 7, 0], X6_2042, tellX I6_2042 f O6_2042⟩ (J6_2042 (x0, x1, x2, x3, x4, x5, x6, x7, x8, x9))).run D6_2042 = B6_2042 N f (x0, x1, x2, x3, x4, x5, x6, x7, x8, x9) := by kernel_rfl

theorem C6_2042_ok (N k : Nat) : ∀ c', At (bod Try.f6) 2042 c' → CutOK Try.prog Try.f6.ntmps (idsL A6) c' (C6_2042 N k) :=
  loop_ok (E := (mkE Try.prog ownT (tab6 N) [])) (mkE_ok mix (tab6_ok N)) (cutsIn_ok trivial) (fuel := 200) (by decide +kernel) (by kernel_rfl) I6_2042_ok D6_2042_ok (B6_2042 N) (F6_2042 N) (fun _ => rfl) (fun _ _ => rfl) (fun f x => match x with | (x0, x1, x2, x3, x4, x5, x6, x7, x8, x9) => B6_2042_eq N f x0 x1 x2 x3 x4 x5 x6 x7 x8 x9) k

noncomputable def O6 (r : Bool) : Tr (Pk) := .ret ⟨[.v (.bool (r))], []⟩

noncomputable def D6 : Pk → Option (Bool)
  | ⟨[.v (.bool x0)], []⟩ => some (x0)
  | _ => none

theorem D6_ok : ∀ y r, D6 y = some r → ∀ z, (O6 r).to z → y = z := by
  intro y r h
  unfold D6 at h
  split at h <;> first | (cases h; intro z hz; exact Option.some.inj hz) | cases h

noncomputable def F6 (N : Nat) : (ByteArray × (List (Int × (Int × (Int × (ByteArray × Unit)))))) → Option (Bool)
  | (x0, x1) =>
  Option.bind (F8 N ()) fun y0 =>
  if (!y0) = true then
    some (false)
  else
    Option.bind (F15 N x1) fun y1 =>
    if (y1) = true then
      some (y0)
    else
      if (decide ((↑(ByteArray.size x0) : Int) > (60 : Int))) = true then
        some (y0)
      else
        Option.bind (F11 N x0) fun y2 =>
        Option.bind (F22 N x0) fun y3 =>
        Option.bind (F6_2042 N N ((0 : Int), y0, x1, x0, (0 : Int), (0 : Int), Prod.fst y2, Prod.fst (Prod.snd y2), Prod.snd (Prod.snd y2), y3)) fun y4 =>
        match y4 with
        | .inl y5 =>
          some (y5)
        | .inr y5 =>
          some (y5)

theorem F6_eq (N : Nat) (x0 : ByteArray) (x1 : (List (Int × (Int × (Int × (ByteArray × Unit)))))) : (fnEv (mkE Try.prog ownT (tab6 N) [(2042, C6_2042 N N)]) Try.f6 (J6 (x0, x1))).run D6 = F6 N (x0, x1) := by kernel_rfl

noncomputable def T6 (N : Nat) : Pk → Tr Pk := tell I6 (F6 N) O6

theorem T6_ok (N : Nat) : FOK Try.prog 6 (T6 N) :=
  tell_ok (E := (mkE Try.prog ownT (tab6 N) [(2042, C6_2042 N N)])) (mkE_ok mix (tab6_ok N)) Try.func6 (show Try.f6.body = some (bod Try.f6) by kernel_rfl) (by decide +kernel) I6_ok D6_ok (args := A6) (fun _ => by kernel_rfl) (fun _ => by show 2 ≤ Try.f6.ntmps; exact of_decide_eq_true (by kernel_rfl)) (cutsIn_ok ⟨C6_2042_ok N N, trivial⟩) (fun x => match x with | (x0, x1) => F6_eq N x0 x1)

/-! ## f7: mirador/miradorlaw02.BitioBack -/

noncomputable def I7 : Pk → Option ((List (Int × (Int × (Int × (ByteArray × Unit))))) × ByteArray)
  | ⟨[.ro (.cons (.int .i64) (.cons (.int .i64) (.cons (.int .i64) (.cons .str .unit)))) x0, .v (.string x1)], []⟩ => some (x0, x1)
  | _ => none

noncomputable def J7 (x : (List (Int × (Int × (Int × (ByteArray × Unit))))) × ByteArray) : Pk := ⟨[.ro (.cons (.int .i64) (.cons (.int .i64) (.cons (.int .i64) (.cons .str .unit)))) (x.1), .v (.string (x.2))], []⟩

theorem I7_ok : ∀ pk x, I7 pk = some x → pk = J7 x := by
  intro pk x h
  unfold I7 at h
  split at h <;> first | (cases h; rfl) | cases h

noncomputable def A7 : List TV := []

noncomputable def tab7 (N : Nat) : List (Nat × (Pk → Tr Pk)) := [(8, T8 N), (15, T15 N), (10, T10 N), (17, T17 N), (21, T21 N), (12, T12 N), (11, T11 N), (13, T13 N), (27, T27 N), (29, T29 N), (14, T14 N), (31, T31 N), (30, T30 N)]

theorem tab7_ok (N : Nat) : TabOK Try.prog (tab7 N) := ⟨T8_ok N, ⟨T15_ok N, ⟨T10_ok N, ⟨T17_ok N, ⟨T21_ok N, ⟨T12_ok N, ⟨T11_ok N, ⟨T13_ok N, ⟨T27_ok N, ⟨T29_ok N, ⟨T14_ok N, ⟨T31_ok N, ⟨T30_ok N, trivial⟩⟩⟩⟩⟩⟩⟩⟩⟩⟩⟩⟩⟩

def X7_1018 : Ex → List Nat
  | .ret => [4]
  | .exit 0 => [1, 7, 5, 0]
  | _ => []

def X7_268062442 : Ex → List Nat
  | .ret => [4]
  | .exit 6 => [15, 13, 14, 11, 0, 5, 7, 1, 12]
  | .exit 5 => [12, 1, 7, 5, 0, 11]
  | .exit 4 => [12, 1, 7, 5, 0, 11]
  | .exit 3 => [5, 7, 1, 11]
  | _ => []

def X7_4090 : Ex → List Nat
  | .ret => [4]
  | .exit 3 => [5, 7, 1, 11]
  | _ => []

noncomputable def I7_1018 : Pk → Option (Int × Bool × ByteArray × (List (Int × (Int × (Int × (ByteArray × Unit))))) × Int × Int × (List Int))
  | ⟨[.v (.int .i64 x0), .v (.bool x1), .v (.string x2), .ro (Ty.cons (Ty.int IntKind.i64) (Ty.cons (Ty.int IntKind.i64) (Ty.cons (Ty.int IntKind.i64) (Ty.cons Ty.str Ty.unit)))) x3, .adr 0 []], [some (.var (.agg [.sl 1 (none), .v (.int .i64 x4), .v (.int .i64 x5)])), some (.row (Ty.int IntKind.u8) 5 x6)]⟩ => some (x0, x1, x2, x3, x4, x5, x6)
  | _ => none

noncomputable def J7_1018 (x : Int × Bool × ByteArray × (List (Int × (Int × (Int × (ByteArray × Unit))))) × Int × Int × (List Int)) : Pk := ⟨[.v (.int .i64 (x.1)), .v (.bool (x.2.1)), .v (.string (x.2.2.1)), .ro (Ty.cons (Ty.int IntKind.i64) (Ty.cons (Ty.int IntKind.i64) (Ty.cons (Ty.int IntKind.i64) (Ty.cons Ty.str Ty.unit)))) (x.2.2.2.1), .adr 0 []], [some (.var (.agg [.sl 1 (none), .v (.int .i64 (x.2.2.2.2.1)), .v (.int .i64 (x.2.2.2.2.2.1))])), some (.row (Ty.int IntKind.u8) 5 (x.2.2.2.2.2.2))]⟩

theorem I7_1018_ok : ∀ pk x, I7_1018 pk = some x → pk = J7_1018 x := by
  intro pk x h
  unfold I7_1018 at h
  split at h <;> first | (cases h; rfl) | cases h

noncomputable def O7_1018 (r : ByteArray × Bool × (List (Int × (Int × (Int × (ByteArray × Unit))))) × Int × Int × (List Int)) : Tr (Ex × Pk) := .ret (.exit 0, ⟨[.v (.string (r.1)), .adr 0 [], .v (.bool (r.2.1)), .ro (Ty.cons (Ty.int IntKind.i64) (Ty.cons (Ty.int IntKind.i64) (Ty.cons (Ty.int IntKind.i64) (Ty.cons Ty.str Ty.unit)))) (r.2.2.1)], [some (.var (.agg [.sl 1 (none), .v (.int .i64 (r.2.2.2.1)), .v (.int .i64 (r.2.2.2.2.1))])), some (.row (Ty.int IntKind.u8) 5 (r.2.2.2.2.2))]⟩)

noncomputable def D7_1018 : Ex × Pk → Option (ByteArray × Bool × (List (Int × (Int × (Int × (ByteArray × Unit))))) × Int × Int × (List Int))
  | (.exit 0, ⟨[.v (.string x0), .adr 0 [], .v (.bool x1), .ro (Ty.cons (Ty.int IntKind.i64) (Ty.cons (Ty.int IntKind.i64) (Ty.cons (Ty.int IntKind.i64) (Ty.cons Ty.str Ty.unit)))) x2], [some (.var (.agg [.sl 1 (none), .v (.int .i64 x3), .v (.int .i64 x4)])), some (.row (Ty.int IntKind.u8) 5 x5)]⟩) => some ((x0, x1, x2, x3, x4, x5))
  | _ => none

theorem D7_1018_ok : ∀ y r, D7_1018 y = some r → ∀ z, (O7_1018 r).to z → y = z := by
  intro y r h
  unfold D7_1018 at h
  split at h <;> first | (cases h; intro z hz; exact Option.some.inj hz) | cases h

noncomputable def B7_1018 (N : Nat) (f : (Int × Bool × ByteArray × (List (Int × (Int × (Int × (ByteArray × Unit))))) × Int × Int × (List Int)) → Option (ByteArray × Bool × (List (Int × (Int × (Int × (ByteArray × Unit))))) × Int × Int × (List Int))) : (Int × Bool × ByteArray × (List (Int × (Int × (Int × (ByteArray × Unit))))) × Int × Int × (List Int)) → Option (ByteArray × Bool × (List (Int × (Int × (Int × (ByteArray × Unit))))) × Int × Int × (List Int))
  | (x0, x1, x2, x3, x4, x5, x6) =>
  if (decide (x0 < (↑(List.length x3) : Int))) = true then
    if (within x0 (List.length x3)) = true then
      Option.bind (x3[Int.toNat x0]?) fun y0 =>
      if (Int.tmod (Prod.fst y0) (3 : Int) == (0 : Int)) = true then
        Option.bind (F10 N (if (32 : Int) < if (0 : Int) > Prod.fst (Prod.snd y0) then (0 : Int) else Prod.fst (Prod.snd y0) then (32 : Int) else if (0 : Int) > Prod.fst (Prod.snd y0) then (0 : Int) else Prod.fst (Prod.snd y0), Prod.fst (Prod.snd (Prod.snd y0)), x4, x5, x6)) fun y1 =>
        Option.bind (f (IntKind.wrap IntKind.i64 (x0 + (1 : Int)), x1, x2, x3, Prod.fst y1, Prod.fst (Prod.snd y1), Prod.snd (Prod.snd y1))) fun r => some r
      else
        if (Int.tmod (Prod.fst y0) (3 : Int) == (1 : Int)) = true then
          Option.bind (F17 N (Prod.fst (Prod.snd (Prod.snd y0)), if (32 : Int) < if (0 : Int) > Prod.fst (Prod.snd y0) then (0 : Int) else Prod.fst (Prod.snd y0) then (32 : Int) else if (0 : Int) > Prod.fst (Prod.snd y0) then (0 : Int) else Prod.fst (Prod.snd y0), x4, x5, x6)) fun y2 =>
          Option.bind (f (IntKind.wrap IntKind.i64 (x0 + (1 : Int)), x1, x2, x3, Prod.fst y2, Prod.fst (Prod.snd y2), Prod.snd (Prod.snd y2))) fun r => some r
        else
          if (Int.tmod (Prod.fst y0) (3 : Int) == (2 : Int)) = true then
            Option.bind (F21 N (Prod.fst (Prod.snd (Prod.snd (Prod.snd y0))), x4, x5, x6)) fun y3 =>
            Option.bind (f (IntKind.wrap IntKind.i64 (x0 + (1 : Int)), x1, x2, x3, Prod.fst y3, Prod.fst (Prod.snd y3), Prod.snd (Prod.snd y3))) fun r => some r
          else
            Option.bind (f (IntKind.wrap IntKind.i64 (x0 + (1 : Int)), x1, x2, x3, x4, x5, x6)) fun r => some r
    else
      none
  else
    some ((x2, x1, x3, x4, x5, x6))

noncomputable def F7_1018 (N : Nat) : Nat → (Int × Bool × ByteArray × (List (Int × (Int × (Int × (ByteArray × Unit))))) × Int × Int × (List Int)) → Option (ByteArray × Bool × (List (Int × (Int × (Int × (ByteArray × Unit))))) × Int × Int × (List Int))
  | 0, _ => none
  | k + 1, x => B7_1018 N (F7_1018 N k) x

noncomputable def C7_1018 (N k : Nat) : Cut := ⟨[8, 5, 1, 0, 7], X7_1018, tellX I7_1018 (F7_1018 N k) O7_1018⟩

theorem B7_1018_eq (N : Nat) (f : (Int × Bool × ByteArray × (List (Int × (Int × (Int × (ByteArray × Unit))))) × Int × Int × (List Int)) → Option (ByteArray × Bool × (List (Int × (Int × (Int × (ByteArray × Unit))))) × Int × Int × (List Int))) (x0 : Int) (x1 : Bool) (x2 : ByteArray) (x3 : (List (Int × (Int × (Int × (ByteArray × Unit)))))) (x4 : Int) (x5 : Int) (x6 : (List Int)) : (roundEv (mkE Try.prog ownT (tab7 N) []) Try.f7.ntmps A7 (loopAt (bod Try.f7) 1018) 1018 ⟨[8, 5, 1, 0, 7], X7_1018, tellX I7_1018 f O7_1018⟩ (J7_1018 (x0, x1, x2, x3, x4, x5, x6))).run D7_1018 = B7_1018 N f (x0, x1, x2, x3, x4, x5, x6) := by kernel_rfl

theorem C7_1018_ok (N k : Nat) : ∀ c', At (bod Try.f7) 1018 c' → CutOK Try.prog Try.f7.ntmps (idsL A7) c' (C7_1018 N k) :=
  loop_ok (E := (mkE Try.prog ownT (tab7 N) [])) (mkE_ok mix (tab7_ok N)) (cutsIn_ok trivial) (fuel := 200) (by decide +kernel) (by kernel_rfl) I7_1018_ok D7_1018_ok (B7_1018 N) (F7_1018 N) (fun _ => rfl) (fun _ _ => rfl) (fun f x => match x with | (x0, x1, x2, x3, x4, x5, x6) => B7_1018_eq N f x0 x1 x2 x3 x4 x5 x6) k

noncomputable def I7_4090 : Pk → Option (ByteArray × Bool × (List (Int × (Int × (Int × (ByteArray × Unit))))) × Int × Int × Int × ByteArray × Int × Int × (List Int))
  | ⟨[.v (.string x0), .adr 0 [], .v (.bool x1), .ro (Ty.cons (Ty.int IntKind.i64) (Ty.cons (Ty.int IntKind.i64) (Ty.cons (Ty.int IntKind.i64) (Ty.cons Ty.str Ty.unit)))) x2, .adr 1 [], .v (.int .i64 x3)], [some (.var (.agg [.sl 2 (none), .v (.int .i64 x4), .v (.int .i64 x5)])), some (.var (.agg [.v (.string x6), .v (.int .i64 x7), .v (.int .i64 x8)])), some (.row (Ty.int IntKind.u8) 5 x9)]⟩ => some (x0, x1, x2, x3, x4, x5, x6, x7, x8, x9)
  | _ => none

noncomputable def J7_4090 (x : ByteArray × Bool × (List (Int × (Int × (Int × (ByteArray × Unit))))) × Int × Int × Int × ByteArray × Int × Int × (List Int)) : Pk := ⟨[.v (.string (x.1)), .adr 0 [], .v (.bool (x.2.1)), .ro (Ty.cons (Ty.int IntKind.i64) (Ty.cons (Ty.int IntKind.i64) (Ty.cons (Ty.int IntKind.i64) (Ty.cons Ty.str Ty.unit)))) (x.2.2.1), .adr 1 [], .v (.int .i64 (x.2.2.2.1))], [some (.var (.agg [.sl 2 (none), .v (.int .i64 (x.2.2.2.2.1)), .v (.int .i64 (x.2.2.2.2.2.1))])), some (.var (.agg [.v (.string (x.2.2.2.2.2.2.1)), .v (.int .i64 (x.2.2.2.2.2.2.2.1)), .v (.int .i64 (x.2.2.2.2.2.2.2.2.1))])), some (.row (Ty.int IntKind.u8) 5 (x.2.2.2.2.2.2.2.2.2))]⟩

theorem I7_4090_ok : ∀ pk x, I7_4090 pk = some x → pk = J7_4090 x := by
  intro pk x h
  unfold I7_4090 at h
  split at h <;> first | (cases h; rfl) | cases h

noncomputable def I7_268062442 : Pk → Option (Int × Int × Int × ByteArray × Bool × (List (Int × (Int × (Int × (ByteArray × Unit))))) × Int × Int × Int × Int × Int × Int × ByteArray × ByteArray × Int × Int × (List Int))
  | ⟨[.v (.int .i64 x0), .v (.int .i64 x1), .v (.int .i64 x2), .v (.string x3), .adr 0 [], .v (.bool x4), .ro (Ty.cons (Ty.int IntKind.i64) (Ty.cons (Ty.int IntKind.i64) (Ty.cons (Ty.int IntKind.i64) (Ty.cons Ty.str Ty.unit)))) x5, .v (.int .i64 x6), .adr 1 [], .adr 2 []], [some (.var (.agg [.sl 3 (none), .v (.int .i64 x7), .v (.int .i64 x8)])), some (.var (.agg [.v (.int .i64 x9), .v (.int .i64 x10), .v (.int .i64 x11), .v (.string x12)])), some (.var (.agg [.v (.string x13), .v (.int .i64 x14), .v (.int .i64 x15)])), some (.row (Ty.int IntKind.u8) 5 x16)]⟩ => some (x0, x1, x2, x3, x4, x5, x6, x7, x8, x9, x10, x11, x12, x13, x14, x15, x16)
  | _ => none

noncomputable def J7_268062442 (x : Int × Int × Int × ByteArray × Bool × (List (Int × (Int × (Int × (ByteArray × Unit))))) × Int × Int × Int × Int × Int × Int × ByteArray × ByteArray × Int × Int × (List Int)) : Pk := ⟨[.v (.int .i64 (x.1)), .v (.int .i64 (x.2.1)), .v (.int .i64 (x.2.2.1)), .v (.string (x.2.2.2.1)), .adr 0 [], .v (.bool (x.2.2.2.2.1)), .ro (Ty.cons (Ty.int IntKind.i64) (Ty.cons (Ty.int IntKind.i64) (Ty.cons (Ty.int IntKind.i64) (Ty.cons Ty.str Ty.unit)))) (x.2.2.2.2.2.1), .v (.int .i64 (x.2.2.2.2.2.2.1)), .adr 1 [], .adr 2 []], [some (.var (.agg [.sl 3 (none), .v (.int .i64 (x.2.2.2.2.2.2.2.1)), .v (.int .i64 (x.2.2.2.2.2.2.2.2.1))])), some (.var (.agg [.v (.int .i64 (x.2.2.2.2.2.2.2.2.2.1)), .v (.int .i64 (x.2.2.2.2.2.2.2.2.2.2.1)), .v (.int .i64 (x.2.2.2.2.2.2.2.2.2.2.2.1)), .v (.string (x.2.2.2.2.2.2.2.2.2.2.2.2.1))])), some (.var (.agg [.v (.string (x.2.2.2.2.2.2.2.2.2.2.2.2.2.1)), .v (.int .i64 (x.2.2.2.2.2.2.2.2.2.2.2.2.2.2.1)), .v (.int .i64 (x.2.2.2.2.2.2.2.2.2.2.2.2.2.2.2.1))])), some (.row (Ty.int IntKind.u8) 5 (x.2.2.2.2.2.2.2.2.2.2.2.2.2.2.2.2))]⟩

theorem I7_268062442_ok : ∀ pk x, I7_268062442 pk = some x → pk = J7_268062442 x := by
  intro pk x h
  unfold I7_268062442 at h
  split at h <;> first | (cases h; rfl) | cases h

noncomputable def O7_268062442 (r : Int × Int × (List (Int × (Int × (Int × (ByteArray × Unit))))) × Bool × ByteArray × Int × Int × Int × Int × ByteArray × ByteArray × Int × Int × Int × Int × (List Int)) : Tr (Ex × Pk) := .ret (.exit 6, ⟨[.v (.int .i64 (r.1)), .adr 0 [], .v (.int .i64 (r.2.1)), .adr 1 [], .ro (Ty.cons (Ty.int IntKind.i64) (Ty.cons (Ty.int IntKind.i64) (Ty.cons (Ty.int IntKind.i64) (Ty.cons Ty.str Ty.unit)))) (r.2.2.1), .v (.bool (r.2.2.2.1)), .adr 2 [], .v (.string (r.2.2.2.2.1)), .v (.int .i64 (r.2.2.2.2.2.1))], [some (.var (.agg [.v (.int .i64 (r.2.2.2.2.2.2.1)), .v (.int .i64 (r.2.2.2.2.2.2.2.1)), .v (.int .i64 (r.2.2.2.2.2.2.2.2.1)), .v (.string (r.2.2.2.2.2.2.2.2.2.1))])), some (.var (.agg [.v (.string (r.2.2.2.2.2.2.2.2.2.2.1)), .v (.int .i64 (r.2.2.2.2.2.2.2.2.2.2.2.1)), .v (.int .i64 (r.2.2.2.2.2.2.2.2.2.2.2.2.1))])), some (.var (.agg [.sl 3 (none), .v (.int .i64 (r.2.2.2.2.2.2.2.2.2.2.2.2.2.1)), .v (.int .i64 (r.2.2.2.2.2.2.2.2.2.2.2.2.2.2.1))])), some (.row (Ty.int IntKind.u8) 5 (r.2.2.2.2.2.2.2.2.2.2.2.2.2.2.2))]⟩)

noncomputable def D7_268062442 : Ex × Pk → Option (Int × Int × (List (Int × (Int × (Int × (ByteArray × Unit))))) × Bool × ByteArray × Int × Int × Int × Int × ByteArray × ByteArray × Int × Int × Int × Int × (List Int))
  | (.exit 6, ⟨[.v (.int .i64 x0), .adr 0 [], .v (.int .i64 x1), .adr 1 [], .ro (Ty.cons (Ty.int IntKind.i64) (Ty.cons (Ty.int IntKind.i64) (Ty.cons (Ty.int IntKind.i64) (Ty.cons Ty.str Ty.unit)))) x2, .v (.bool x3), .adr 2 [], .v (.string x4), .v (.int .i64 x5)], [some (.var (.agg [.v (.int .i64 x6), .v (.int .i64 x7), .v (.int .i64 x8), .v (.string x9)])), some (.var (.agg [.v (.string x10), .v (.int .i64 x11), .v (.int .i64 x12)])), some (.var (.agg [.sl 3 (none), .v (.int .i64 x13), .v (.int .i64 x14)])), some (.row (Ty.int IntKind.u8) 5 x15)]⟩) => some ((x0, x1, x2, x3, x4, x5, x6, x7, x8, x9, x10, x11, x12, x13, x14, x15))
  | _ => none

theorem D7_268062442_ok : ∀ y r, D7_268062442 y = some r → ∀ z, (O7_268062442 r).to z → y = z := by
  intro y r h
  unfold D7_268062442 at h
  split at h <;> first | (cases h; intro z hz; exact Option.some.inj hz) | cases h

noncomputable def B7_268062442 (N : Nat) (f : (Int × Int × Int × ByteArray × Bool × (List (Int × (Int × (Int × (ByteArray × Unit))))) × Int × Int × Int × Int × Int × Int × ByteArray × ByteArray × Int × Int × (List Int)) → Option (Int × Int × (List (Int × (Int × (Int × (ByteArray × Unit))))) × Bool × ByteArray × Int × Int × Int × Int × ByteArray × ByteArray × Int × Int × Int × Int × (List Int))) : (Int × Int × Int × ByteArray × Bool × (List (Int × (Int × (Int × (ByteArray × Unit))))) × Int × Int × Int × Int × Int × Int × ByteArray × ByteArray × Int × Int × (List Int)) → Option (Int × Int × (List (Int × (Int × (Int × (ByteArray × Unit))))) × Bool × ByteArray × Int × Int × Int × Int × ByteArray × ByteArray × Int × Int × Int × Int × (List Int))
  | (x0, x1, x2, x3, x4, x5, x6, x7, x8, x9, x10, x11, x12, x13, x14, x15, x16) =>
  if (decide (x1 < x6)) = true then
    Option.bind (F13 N ((1 : Int), x13, x14, x15)) fun y0 =>
    Option.bind (f (IntKind.wrap IntKind.i64 (IntKind.wrap IntKind.i64 (x0 * (2 : Int)) + Prod.fst y0), IntKind.wrap IntKind.i64 (x1 + (1 : Int)), x2, x3, x4, x5, x6, x7, x8, x9, x10, x11, x12, Prod.fst (Prod.snd y0), Prod.fst (Prod.snd (Prod.snd y0)), Prod.snd (Prod.snd (Prod.snd y0)), x16)) fun r => some r
  else
    some ((x0, x6, x5, x4, x3, x2, x9, x10, x11, x12, x13, x14, x15, x7, x8, x16))

noncomputable def F7_268062442 (N : Nat) : Nat → (Int × Int × Int × ByteArray × Bool × (List (Int × (Int × (Int × (ByteArray × Unit))))) × Int × Int × Int × Int × Int × Int × ByteArray × ByteArray × Int × Int × (List Int)) → Option (Int × Int × (List (Int × (Int × (Int × (ByteArray × Unit))))) × Bool × ByteArray × Int × Int × Int × Int × ByteArray × ByteArray × Int × Int × Int × Int × (List Int))
  | 0, _ => none
  | k + 1, x => B7_268062442 N (F7_268062442 N k) x

noncomputable def C7_268062442 (N k : Nat) : Cut := ⟨[15, 16, 12, 1, 7, 5, 0, 14, 13, 11], X7_268062442, tellX I7_268062442 (F7_268062442 N k) O7_268062442⟩

theorem B7_268062442_eq (N : Nat) (f : (Int × Int × Int × ByteArray × Bool × (List (Int × (Int × (Int × (ByteArray × Unit))))) × Int × Int × Int × Int × Int × Int × ByteArray × ByteArray × Int × Int × (List Int)) → Option (Int × Int × (List (Int × (Int × (Int × (ByteArray × Unit))))) × Bool × ByteArray × Int × Int × Int × Int × ByteArray × ByteArray × Int × Int × Int × Int × (List Int))) (x0 : Int) (x1 : Int) (x2 : Int) (x3 : ByteArray) (x4 : Bool) (x5 : (List (Int × (Int × (Int × (ByteArray × Unit)))))) (x6 : Int) (x7 : Int) (x8 : Int) (x9 : Int) (x10 : Int) (x11 : Int) (x12 : ByteArray) (x13 : ByteArray) (x14 : Int) (x15 : Int) (x16 : (List Int)) : (roundEv (mkE Try.prog ownT (tab7 N) [(1018, C7_1018 N N)]) Try.f7.ntmps A7 (loopAt (bod Try.f7) 268062442) 268062442 ⟨[15, 16, 12, 1, 7, 5, 0, 14, 13, 11], X7_268062442, tellX I7_268062442 f O7_268062442⟩ (J7_268062442 (x0, x1, x2, x3, x4, x5, x6, x7, x8, x9, x10, x11, x12, x13, x14, x15, x16))).run D7_268062442 = B7_268062442 N f (x0, x1, x2, x3, x4, x5, x6, x7, x8, x9, x10, x11, x12, x13, x14, x15, x16) := by kernel_rfl

theorem C7_268062442_ok (N k : Nat) : ∀ c', At (bod Try.f7) 268062442 c' → CutOK Try.prog Try.f7.ntmps (idsL A7) c' (C7_268062442 N k) :=
  loop_ok (E := (mkE Try.prog ownT (tab7 N) [(1018, C7_1018 N N)])) (mkE_ok mix (tab7_ok N)) (cutsIn_ok ⟨C7_1018_ok N N, trivial⟩) (fuel := 200) (by decide +kernel) (by kernel_rfl) I7_268062442_ok D7_268062442_ok (B7_268062442 N) (F7_268062442 N) (fun _ => rfl) (fun _ _ => rfl) (fun f x => match x with | (x0, x1, x2, x3, x4, x5, x6, x7, x8, x9, x10, x11, x12, x13, x14, x15, x16) => B7_268062442_eq N f x0 x1 x2 x3 x4 x5 x6 x7 x8 x9 x10 x11 x12 x13 x14 x15 x16) k

noncomputable def O7_4090 (r : ((Bool) ⊕ (Bool × ByteArray × Int × Int × ByteArray × Int × Int × (List Int)))) : Tr (Ex × Pk) := .sum _ _ r (fun u => .ret (.ret, ⟨[.v (.bool (u))], []⟩)) (fun v => .ret (.exit 3, ⟨[.v (.bool (v.1)), .adr 0 [], .v (.string (v.2.1)), .adr 1 []], [some (.var (.agg [.sl 2 (none), .v (.int .i64 (v.2.2.1)), .v (.int .i64 (v.2.2.2.1))])), some (.var (.agg [.v (.string (v.2.2.2.2.1)), .v (.int .i64 (v.2.2.2.2.2.1)), .v (.int .i64 (v.2.2.2.2.2.2.1))])), some (.row (Ty.int IntKind.u8) 5 (v.2.2.2.2.2.2.2))]⟩))

noncomputable def D7_4090 : Ex × Pk → Option (((Bool) ⊕ (Bool × ByteArray × Int × Int × ByteArray × Int × Int × (List Int))))
  | (.ret, ⟨[.v (.bool x0)], []⟩) => some (.inl (x0))
  | (.exit 3, ⟨[.v (.bool x0), .adr 0 [], .v (.string x1), .adr 1 []], [some (.var (.agg [.sl 2 (none), .v (.int .i64 x2), .v (.int .i64 x3)])), some (.var (.agg [.v (.string x4), .v (.int .i64 x5), .v (.int .i64 x6)])), some (.row (Ty.int IntKind.u8) 5 x7)]⟩) => some (.inr ((x0, x1, x2, x3, x4, x5, x6, x7)))
  | _ => none

theorem D7_4090_ok : ∀ y r, D7_4090 y = some r → ∀ z, (O7_4090 r).to z → y = z := by
  intro y r h
  unfold D7_4090 at h
  split at h <;> first | (cases h; intro z hz; exact Option.some.inj hz) | cases h

noncomputable def B7_4090 (N : Nat) (f : (ByteArray × Bool × (List (Int × (Int × (Int × (ByteArray × Unit))))) × Int × Int × Int × ByteArray × Int × Int × (List Int)) → Option (((Bool) ⊕ (Bool × ByteArray × Int × Int × ByteArray × Int × Int × (List Int))))) : (ByteArray × Bool × (List (Int × (Int × (Int × (ByteArray × Unit))))) × Int × Int × Int × ByteArray × Int × Int × (List Int)) → Option (((Bool) ⊕ (Bool × ByteArray × Int × Int × ByteArray × Int × Int × (List Int))))
  | (x0, x1, x2, x3, x4, x5, x6, x7, x8, x9) =>
  if (decide (x3 < (↑(List.length x2) : Int))) = true then
    if (within x3 (List.length x2)) = true then
      Option.bind (x2[Int.toNat x3]?) fun y0 =>
      if (Int.tmod (Prod.fst y0) (3 : Int) == (0 : Int)) = true then
        Option.bind (F13 N (if (32 : Int) < if (0 : Int) > Prod.fst (Prod.snd y0) then (0 : Int) else Prod.fst (Prod.snd y0) then (32 : Int) else if (0 : Int) > Prod.fst (Prod.snd y0) then (0 : Int) else Prod.fst (Prod.snd y0), x6, x7, x8)) fun y1 =>
        if (decide ((if (32 : Int) < if (0 : Int) > Prod.fst (Prod.snd y0) then (0 : Int) else Prod.fst (Prod.snd y0) then (32 : Int) else if (0 : Int) > Prod.fst (Prod.snd y0) then (0 : Int) else Prod.fst (Prod.snd y0)) < (0 : Int))) = true then
          none
        else
          if (Prod.fst y1 != IntKind.wrap IntKind.i64 (↑(BitVec.toNat (BitVec.ofInt (64 : Nat) (Prod.fst (Prod.snd (Prod.snd y0))) &&& BitVec.ofInt (64 : Nat) (IntKind.wrap IntKind.i64 (IntKind.wrap IntKind.i64 ((1 : Int) * (2 : Int) ^ min (Int.toNat (if (32 : Int) < if (0 : Int) > Prod.fst (Prod.snd y0) then (0 : Int) else Prod.fst (Prod.snd y0) then (32 : Int) else if (0 : Int) > Prod.fst (Prod.snd y0) then (0 : Int) else Prod.fst (Prod.snd y0))) (64 : Nat)) - (1 : Int))))) : Int)) = true then
            some (.inl (false))
          else
            Option.bind (f (x0, x1, x2, IntKind.wrap IntKind.i64 (x3 + (1 : Int)), x4, x5, Prod.fst (Prod.snd y1), Prod.fst (Prod.snd (Prod.snd y1)), Prod.snd (Prod.snd (Prod.snd y1)), x9)) fun r => match r with | .inl (y) => some (.inl (y)) | .inr (y) => some (.inr (y))
      else
        if (Int.tmod (Prod.fst y0) (3 : Int) == (1 : Int)) = true then
          Option.bind (F7_268062442 N N ((0 : Int), (0 : Int), x3, x0, x1, x2, if (32 : Int) < if (0 : Int) > Prod.fst (Prod.snd y0) then (0 : Int) else Prod.fst (Prod.snd y0) then (32 : Int) else if (0 : Int) > Prod.fst (Prod.snd y0) then (0 : Int) else Prod.fst (Prod.snd y0), x4, x5, Prod.fst y0, Prod.fst (Prod.snd y0), Prod.fst (Prod.snd (Prod.snd y0)), Prod.fst (Prod.snd (Prod.snd (Prod.snd y0))), x6, x7, x8, x9)) fun y2 =>
          if (decide (Prod.fst (Prod.snd y2) < (0 : Int))) = true then
            none
          else
            if (Prod.fst y2 != IntKind.wrap IntKind.i64 (↑(BitVec.toNat (BitVec.ofInt (64 : Nat) (Prod.fst (Prod.snd (Prod.snd (Prod.snd (Prod.snd (Prod.snd (Prod.snd (Prod.snd (Prod.snd y2))))))))) &&& BitVec.ofInt (64 : Nat) (IntKind.wrap IntKind.i64 (IntKind.wrap IntKind.i64 ((1 : Int) * (2 : Int) ^ min (Int.toNat (Prod.fst (Prod.snd y2))) (64 : Nat)) - (1 : Int))))) : Int)) = true then
              some (.inl (false))
            else
              Option.bind (f (Prod.fst (Prod.snd (Prod.snd (Prod.snd (Prod.snd y2)))), Prod.fst (Prod.snd (Prod.snd (Prod.snd y2))), Prod.fst (Prod.snd (Prod.snd y2)), IntKind.wrap IntKind.i64 (Prod.fst (Prod.snd (Prod.snd (Prod.snd (Prod.snd (Prod.snd y2))))) + (1 : Int)), Prod.fst (Prod.snd (Prod.snd (Prod.snd (Prod.snd (Prod.snd (Prod.snd (Prod.snd (Prod.snd (Prod.snd (Prod.snd (Prod.snd (Prod.snd (Prod.snd y2))))))))))))), Prod.fst (Prod.snd (Prod.snd (Prod.snd (Prod.snd (Prod.snd (Prod.snd (Prod.snd (Prod.snd (Prod.snd (Prod.snd (Prod.snd (Prod.snd (Prod.snd (Prod.snd y2)))))))))))))), Prod.fst (Prod.snd (Prod.snd (Prod.snd (Prod.snd (Prod.snd (Prod.snd (Prod.snd (Prod.snd (Prod.snd (Prod.snd y2)))))))))), Prod.fst (Prod.snd (Prod.snd (Prod.snd (Prod.snd (Prod.snd (Prod.snd (Prod.snd (Prod.snd (Prod.snd (Prod.snd (Prod.snd y2))))))))))), Prod.fst (Prod.snd (Prod.snd (Prod.snd (Prod.snd (Prod.snd (Prod.snd (Prod.snd (Prod.snd (Prod.snd (Prod.snd (Prod.snd (Prod.snd y2)))))))))))), Prod.snd (Prod.snd (Prod.snd (Prod.snd (Prod.snd (Prod.snd (Prod.snd (Prod.snd (Prod.snd (Prod.snd (Prod.snd (Prod.snd (Prod.snd (Prod.snd (Prod.snd y2)))))))))))))))) fun r => match r with | .inl (y) => some (.inl (y)) | .inr (y) => some (.inr (y))
        else
          if (Int.tmod (Prod.fst y0) (3 : Int) == (2 : Int)) = true then
            Option.bind (F27 N ((↑(ByteArray.size (Prod.fst (Prod.snd (Prod.snd (Prod.snd y0))))) : Int), x6, x7, x8)) fun y3 =>
            if (!ByteArray.toList (Prod.fst y3) == ByteArray.toList (Prod.fst (Prod.snd (Prod.snd (Prod.snd y0))))) = true then
              some (.inl (false))
            else
              Option.bind (f (x0, x1, x2, IntKind.wrap IntKind.i64 (x3 + (1 : Int)), x4, x5, Prod.fst (Prod.snd y3), Prod.fst (Prod.snd (Prod.snd y3)), Prod.snd (Prod.snd (Prod.snd y3)), x9)) fun r => match r with | .inl (y) => some (.inl (y)) | .inr (y) => some (.inr (y))
          else
            Option.bind (f (x0, x1, x2, IntKind.wrap IntKind.i64 (x3 + (1 : Int)), x4, x5, x6, x7, x8, x9)) fun r => match r with | .inl (y) => some (.inl (y)) | .inr (y) => some (.inr (y))
    else
      none
  else
    some (.inr ((x1, x0, x4, x5, x6, x7, x8, x9)))

noncomputable def F7_4090 (N : Nat) : Nat → (ByteArray × Bool × (List (Int × (Int × (Int × (ByteArray × Unit))))) × Int × Int × Int × ByteArray × Int × Int × (List Int)) → Option (((Bool) ⊕ (Bool × ByteArray × Int × Int × ByteArray × Int × Int × (List Int))))
  | 0, _ => none
  | k + 1, x => B7_4090 N (F7_4090 N k) x

noncomputable def C7_4090 (N k : Nat) : Cut := ⟨[1, 7, 5, 0, 11, 12], X7_4090, tellX I7_4090 (F7_4090 N k) O7_4090⟩

theorem B7_4090_eq (N : Nat) (f : (ByteArray × Bool × (List (Int × (Int × (Int × (ByteArray × Unit))))) × Int × Int × Int × ByteArray × Int × Int × (List Int)) → Option (((Bool) ⊕ (Bool × ByteArray × Int × Int × ByteArray × Int × Int × (List Int))))) (x0 : ByteArray) (x1 : Bool) (x2 : (List (Int × (Int × (Int × (ByteArray × Unit)))))) (x3 : Int) (x4 : Int) (x5 : Int) (x6 : ByteArray) (x7 : Int) (x8 : Int) (x9 : (List Int)) : (roundEv (mkE Try.prog ownT (tab7 N) [(1018, C7_1018 N N), (268062442, C7_268062442 N N)]) Try.f7.ntmps A7 (loopAt (bod Try.f7) 4090) 4090 ⟨[1, 7, 5, 0, 11, 12], X7_4090, tellX I7_4090 f O7_4090⟩ (J7_4090 (x0, x1, x2, x3, x4, x5, x6, x7, x8, x9))).run D7_4090 = B7_4090 N f (x0, x1, x2, x3, x4, x5, x6, x7, x8, x9) := by kernel_rfl

theorem C7_4090_ok (N k : Nat) : ∀ c', At (bod Try.f7) 4090 c' → CutOK Try.prog Try.f7.ntmps (idsL A7) c' (C7_4090 N k) :=
  loop_ok (E := (mkE Try.prog ownT (tab7 N) [(1018, C7_1018 N N), (268062442, C7_268062442 N N)])) (mkE_ok mix (tab7_ok N)) (cutsIn_ok ⟨C7_1018_ok N N, ⟨C7_268062442_ok N N, trivial⟩⟩) (fuel := 200) (by decide +kernel) (by kernel_rfl) I7_4090_ok D7_4090_ok (B7_4090 N) (F7_4090 N) (fun _ => rfl) (fun _ _ => rfl) (fun f x => match x with | (x0, x1, x2, x3, x4, x5, x6, x7, x8, x9) => B7_4090_eq N f x0 x1 x2 x3 x4 x5 x6 x7 x8 x9) k

noncomputable def O7 (r : Bool) : Tr (Pk) := .ret ⟨[.v (.bool (r))], []⟩

noncomputable def D7 : Pk → Option (Bool)
  | ⟨[.v (.bool x0)], []⟩ => some (x0)
  | _ => none

theorem D7_ok : ∀ y r, D7 y = some r → ∀ z, (O7 r).to z → y = z := by
  intro y r h
  unfold D7 at h
  split at h <;> first | (cases h; intro z hz; exact Option.some.inj hz) | cases h

noncomputable def F7 (N : Nat) : ((List (Int × (Int × (Int × (ByteArray × Unit))))) × ByteArray) → Option (Bool)
  | (x0, x1) =>
  Option.bind (F8 N ()) fun y0 =>
  if (!y0) = true then
    some (false)
  else
    Option.bind (F15 N x0) fun y1 =>
    if (y1) = true then
      some (y0)
    else
      if (decide ((↑(ByteArray.size x1) : Int) > (60 : Int))) = true then
        some (y0)
      else
        Option.bind (F7_1018 N N ((0 : Int), y0, x1, x0, (0 : Int), (0 : Int), [])) fun y2 =>
        Option.bind (F12 N (Prod.snd (Prod.snd (Prod.snd (Prod.snd (Prod.snd y2)))), Prod.fst (Prod.snd (Prod.snd (Prod.snd y2))), Prod.fst (Prod.snd (Prod.snd (Prod.snd (Prod.snd y2)))), ())) fun y3 =>
        if (decide ((↑(ByteArray.size y3 + ByteArray.size (Prod.fst y2)) : Int) > (9223372036854775807 : Int))) = true then
          none
        else
          Option.bind (F11 N (y3 ++ Prod.fst y2)) fun y4 =>
          Option.bind (F7_4090 N N (Prod.fst y2, Prod.fst (Prod.snd y2), Prod.fst (Prod.snd (Prod.snd y2)), (0 : Int), Prod.fst (Prod.snd (Prod.snd (Prod.snd y2))), Prod.fst (Prod.snd (Prod.snd (Prod.snd (Prod.snd y2)))), Prod.fst y4, Prod.fst (Prod.snd y4), Prod.snd (Prod.snd y4), Prod.snd (Prod.snd (Prod.snd (Prod.snd (Prod.snd y2)))))) fun y5 =>
          match y5 with
          | .inl y6 =>
            some (y6)
          | .inr y6 =>
            if (Prod.fst y6) = true then
              Option.bind (F29 N (Prod.fst (Prod.snd (Prod.snd (Prod.snd (Prod.snd y6)))), Prod.fst (Prod.snd (Prod.snd (Prod.snd (Prod.snd (Prod.snd y6))))), Prod.fst (Prod.snd (Prod.snd (Prod.snd (Prod.snd (Prod.snd (Prod.snd y6)))))), ())) fun y7 =>
              Option.bind (F14 N (Prod.snd (Prod.snd (Prod.snd (Prod.snd (Prod.snd (Prod.snd (Prod.snd y6)))))), Prod.fst (Prod.snd (Prod.snd y6)), Prod.fst (Prod.snd (Prod.snd (Prod.snd y6))), ())) fun y8 =>
              if (y7 == y8) = true then
                Option.bind (F31 N (Prod.fst (Prod.snd (Prod.snd (Prod.snd (Prod.snd y6)))), Prod.fst (Prod.snd (Prod.snd (Prod.snd (Prod.snd (Prod.snd y6))))), Prod.fst (Prod.snd (Prod.snd (Prod.snd (Prod.snd (Prod.snd (Prod.snd y6)))))), ())) fun y9 =>
                if (y9 == (0 : Int)) = true then
                  Option.bind (F27 N ((↑(ByteArray.size (Prod.fst (Prod.snd y6))) : Int), Prod.fst (Prod.snd (Prod.snd (Prod.snd (Prod.snd y6)))), Prod.fst (Prod.snd (Prod.snd (Prod.snd (Prod.snd (Prod.snd y6))))), Prod.fst (Prod.snd (Prod.snd (Prod.snd (Prod.snd (Prod.snd (Prod.snd y6)))))))) fun y10 =>
                  if (ByteArray.toList (Prod.fst y10) == ByteArray.toList (Prod.fst (Prod.snd y6))) = true then
                    Option.bind (F30 N (Prod.fst (Prod.snd y10), Prod.fst (Prod.snd (Prod.snd y10)), Prod.snd (Prod.snd (Prod.snd y10)), ())) fun y11 =>
                    some (y11 == (0 : Int))
                  else
                    some (false)
                else
                  some (false)
              else
                some (false)
            else
              some (false)

theorem F7_eq (N : Nat) (x0 : (List (Int × (Int × (Int × (ByteArray × Unit)))))) (x1 : ByteArray) : (fnEv (mkE Try.prog ownT (tab7 N) [(1018, C7_1018 N N), (268062442, C7_268062442 N N), (4090, C7_4090 N N)]) Try.f7 (J7 (x0, x1))).run D7 = F7 N (x0, x1) := by kernel_rfl

noncomputable def T7 (N : Nat) : Pk → Tr Pk := tell I7 (F7 N) O7

theorem T7_ok (N : Nat) : FOK Try.prog 7 (T7 N) :=
  tell_ok (E := (mkE Try.prog ownT (tab7 N) [(1018, C7_1018 N N), (268062442, C7_268062442 N N), (4090, C7_4090 N N)])) (mkE_ok mix (tab7_ok N)) Try.func7 (show Try.f7.body = some (bod Try.f7) by kernel_rfl) (by decide +kernel) I7_ok D7_ok (args := A7) (fun _ => by kernel_rfl) (fun _ => by show 2 ≤ Try.f7.ntmps; exact of_decide_eq_true (by kernel_rfl)) (cutsIn_ok ⟨C7_1018_ok N N, ⟨C7_268062442_ok N N, ⟨C7_4090_ok N N, trivial⟩⟩⟩) (fun x => match x with | (x0, x1) => F7_eq N x0 x1)

end Go.Proofs.Ytgdacmcapbbilaa.Am
