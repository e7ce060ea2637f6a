/- The seat's Go functions come to the Lean functions written here, wherever these give an answer (part A). -/
import Derived.Test.YteddgkplkjldcaaGreatAmC
import Derived.KernelRfl
import Derived.Test.YteddgkplkjldcaaGreatProg
set_option linter.unusedVariables false
set_option maxRecDepth 100000
namespace Go.Proofs.YteddgkplkjldcaaGreat.Am
open Go.Am

theorem mix : Tryz.prog.follows .mixedOrders = true := by kernel_rfl

def ownT : FuncId → List Nat := ownL [(16, [1, 0, 0]), (18, [2]), (19, [2]), (43, [2]), (49, [1]), (79, [2]), (86, [2]), (89, [2, 0, 0]), (92, [3, 0]), (101, [1, 0, 0]), (113, [2]), (121, [2]), (124, [1]), (125, [4, 0]), (133, [2]), (136, [0, 5, 5]), (137, [1, 1]), (140, [2]), (144, [4]), (153, [3, 0]), (154, [4, 0, 0]), (160, [0, 5, 5, 5]), (161, [2]), (162, [2]), (168, [4, 0, 0, 0]), (169, [4, 0, 0, 0, 0]), (173, [4, 0, 0, 0, 0]), (174, [4, 0, 0, 0, 0])]

/-! ## f44: mirador/bitio.count -/

noncomputable def I44 : Pk → Option (Int)
  | ⟨[.v (.int .i64 x0)], []⟩ => some x0
  | _ => none

noncomputable def J44 (x : Int) : Pk := ⟨[.v (.int .i64 (x))], []⟩

theorem I44_ok : ∀ pk x, I44 pk = some x → pk = J44 x := by
  intro pk x h
  unfold I44 at h
  split at h <;> first | (cases h; rfl) | cases h

noncomputable def A44 : List TV := []

noncomputable def tab44 (N : Nat) : List (Nat × (Pk → Tr Pk)) := []

theorem tab44_ok (N : Nat) : TabOK Tryz.prog (tab44 N) := trivial

noncomputable def O44 (r : Int) : Tr (Pk) := .ret ⟨[.v (.int .i64 (r))], []⟩

noncomputable def D44 : Pk → Option (Int)
  | ⟨[.v (.int .i64 x0)], []⟩ => some (x0)
  | _ => none

theorem D44_ok : ∀ y r, D44 y = some r → ∀ z, (O44 r).to z → y = z := by
  intro y r h
  unfold D44 at h
  split at h <;> first | (cases h; intro z hz; exact Option.some.inj hz) | cases h

noncomputable def F44 (N : Nat) : (Int) → Option (Int)
  | x0 =>
  some (if (32 : Int) < if (0 : Int) > x0 then (0 : Int) else x0 then (32 : Int) else if (0 : Int) > x0 then (0 : Int) else x0)

theorem F44_eq (N : Nat) (x0 : Int) : (fnEv (mkE Tryz.prog ownT (tab44 N) []) Tryz.f44 (J44 x0)).run D44 = F44 N x0 := by kernel_rfl

noncomputable def T44 (N : Nat) : Pk → Tr Pk := tell I44 (F44 N) O44

theorem T44_ok (N : Nat) : FOK Tryz.prog 44 (T44 N) :=
  (tell_ok (E := (mkE Tryz.prog ownT (tab44 N) [])) (mkE_ok mix (tab44_ok N)) Tryz.func44 (show Tryz.f44.body = some (bod Tryz.f44) by kernel_rfl) (by decide +kernel) (F := F44 N) I44_ok D44_ok (args := A44) (fun _ => by kernel_rfl) (fun _ => by show 1 ≤ Tryz.f44.ntmps; exact of_decide_eq_true (by kernel_rfl)) (cutsIn_ok trivial) (fun x => match x with | x0 => F44_eq N x0))

/-! ## f45: mirador/bitio.low -/

noncomputable def I45 : Pk → Option (Int × Int)
  | ⟨[.v (.int .i64 x0), .v (.int .i64 x1)], []⟩ => some (x0, x1)
  | _ => none

noncomputable def J45 (x : Int × Int) : Pk := ⟨[.v (.int .i64 (x.1)), .v (.int .i64 (x.2))], []⟩

theorem I45_ok : ∀ pk x, I45 pk = some x → pk = J45 x := by
  intro pk x h
  unfold I45 at h
  split at h <;> first | (cases h; rfl) | cases h

noncomputable def A45 : List TV := []

noncomputable def tab45 (N : Nat) : List (Nat × (Pk → Tr Pk)) := []

theorem tab45_ok (N : Nat) : TabOK Tryz.prog (tab45 N) := trivial

noncomputable def O45 (r : Int) : Tr (Pk) := .ret ⟨[.v (.int .i64 (r))], []⟩

noncomputable def D45 : Pk → Option (Int)
  | ⟨[.v (.int .i64 x0)], []⟩ => some (x0)
  | _ => none

theorem D45_ok : ∀ y r, D45 y = some r → ∀ z, (O45 r).to z → y = z := by
  intro y r h
  unfold D45 at h
  split at h <;> first | (cases h; intro z hz; exact Option.some.inj hz) | cases h

noncomputable def F45 (N : Nat) : (Int × Int) → Option (Int)
  | (x0, x1) =>
  iteP (decide (x0 < (0 : Int))) (
    none) (
    some (IntKind.wrap IntKind.i64 (↑(BitVec.toNat (BitVec.ofInt (64 : Nat) x1 &&& BitVec.ofInt (64 : Nat) (IntKind.wrap IntKind.i64 (IntKind.wrap IntKind.i64 ((1 : Int) * (2 : Int) ^ min (Int.toNat x0) (64 : Nat)) - (1 : Int))))) : Int)))

theorem F45_eq (N : Nat) (x0 : Int) (x1 : Int) : (fnEv (mkE Tryz.prog ownT (tab45 N) []) Tryz.f45 (J45 (x0, x1))).run D45 = F45 N (x0, x1) := by kernel_rfl

noncomputable def T45 (N : Nat) : Pk → Tr Pk := tell I45 (F45 N) O45

theorem T45_ok (N : Nat) : FOK Tryz.prog 45 (T45 N) :=
  (tell_ok (E := (mkE Tryz.prog ownT (tab45 N) [])) (mkE_ok mix (tab45_ok N)) Tryz.func45 (show Tryz.f45.body = some (bod Tryz.f45) by kernel_rfl) (by decide +kernel) (F := F45 N) I45_ok D45_ok (args := A45) (fun _ => by kernel_rfl) (fun _ => by show 2 ≤ Tryz.f45.ntmps; exact of_decide_eq_true (by kernel_rfl)) (cutsIn_ok trivial) (fun x => match x with | (x0, x1) => F45_eq N x0 x1))

/-! ## f14: (*mirador/bitio.Writer).Bits -/

noncomputable def I14 : Pk → Option (Int × Int × Int × Int × (List Int))
  | ⟨[.adr 0 [], .v (.int .i64 x0), .v (.int .i64 x1)], [some (.var (.agg [.sl 1 none, .v (.int .i64 x2), .v (.int .i64 x3)])), some (.row (.int .u8) 5 x4)]⟩ => some (x0, x1, x2, x3, x4)
  | _ => none

noncomputable def J14 (x : Int × Int × Int × Int × (List Int)) : Pk := ⟨[.adr 0 [], .v (.int .i64 (x.1)), .v (.int .i64 (x.2.1))], [some (.var (.agg [.sl 1 none, .v (.int .i64 (x.2.2.1)), .v (.int .i64 (x.2.2.2.1))])), some (.row (.int .u8) 5 (x.2.2.2.2))]⟩

theorem I14_ok : ∀ pk x, I14 pk = some x → pk = J14 x := by
  intro pk x h
  unfold I14 at h
  split at h <;> first | (cases h; rfl) | cases h

noncomputable def A14 : List TV := [.adr 0 []]

noncomputable def tab14 (N : Nat) : List (Nat × (Pk → Tr Pk)) := [(44, T44 N), (45, T45 N)]

theorem tab14_ok (N : Nat) : TabOK Tryz.prog (tab14 N) := ⟨T44_ok N, ⟨T45_ok N, trivial⟩⟩

def X14_30 : Ex → List Nat
  | .ret => []
  | .exit 0 => []
  | _ => []

noncomputable def I14_30 : Pk → Option (Int × Int × (List Int))
  | ⟨[.adr 0 []], [some (.var (.agg [.sl 1 (none), .v (.int .i64 x0), .v (.int .i64 x1)])), some (.row (Ty.int IntKind.u8) 5 x2)]⟩ => some (x0, x1, x2)
  | _ => none

noncomputable def J14_30 (x : Int × Int × (List Int)) : Pk := ⟨[.adr 0 []], [some (.var (.agg [.sl 1 (none), .v (.int .i64 (x.1)), .v (.int .i64 (x.2.1))])), some (.row (Ty.int IntKind.u8) 5 (x.2.2))]⟩

theorem I14_30_ok : ∀ pk x, I14_30 pk = some x → pk = J14_30 x := by
  intro pk x h
  unfold I14_30 at h
  split at h <;> first | (cases h; rfl) | cases h

noncomputable def O14_30 (r : Int × Int × (List Int)) : Tr (Ex × Pk) := .ret (.exit 0, ⟨[], [some (.var (.agg [.sl 1 (none), .v (.int .i64 (r.1)), .v (.int .i64 (r.2.1))])), some (.row (Ty.int IntKind.u8) 5 (r.2.2))]⟩)

noncomputable def D14_30 : Ex × Pk → Option (Int × Int × (List Int))
  | (.exit 0, ⟨[], [some (.var (.agg [.sl 1 (none), .v (.int .i64 x0), .v (.int .i64 x1)])), some (.row (Ty.int IntKind.u8) 5 x2)]⟩) => some ((x0, x1, x2))
  | _ => none

theorem D14_30_ok : ∀ y r, D14_30 y = some r → ∀ z, (O14_30 r).to z → y = z := by
  intro y r h
  unfold D14_30 at h
  split at h <;> first | (cases h; intro z hz; exact Option.some.inj hz) | cases h

noncomputable def B14_30 (N : Nat) (f : (Int × Int × (List Int)) → Option (Int × Int × (List Int))) : (Int × Int × (List Int)) → Option (Int × Int × (List Int))
  | (x0, x1, x2) =>
  iteP (decide (x1 ≥ (8 : Int))) (
    iteP (decide ((List.length x2 + List.length [IntKind.wrap IntKind.u8 x0]) * (1 : Nat) ≤ (140737488355328 : Nat) ∧ List.length x2 + List.length [IntKind.wrap IntKind.u8 x0] ≤ (140737488355328 : Nat))) (
      Option.bind (f (Int.fdiv x0 (256 : Int), IntKind.wrap IntKind.i64 (x1 - (8 : Int)), x2 ++ [IntKind.wrap IntKind.u8 x0])) fun r => some r) (
      none)) (
    some ((x0, x1, x2)))

noncomputable def F14_30 (N : Nat) : Nat → (Int × Int × (List Int)) → Option (Int × Int × (List Int))
  | 0, _ => none
  | k + 1, x => B14_30 N (F14_30 N k) x

noncomputable def C14_30 (N : Nat) (k : Nat) : Cut := ⟨[0], X14_30, tellX I14_30 (F14_30 N k) O14_30⟩

theorem B14_30_eq (N : Nat) (f : (Int × Int × (List Int)) → Option (Int × Int × (List Int))) (x0 : Int) (x1 : Int) (x2 : (List Int)) : (roundEv (mkE Tryz.prog ownT (tab14 N) []) Tryz.f14.ntmps A14 (loopAt (bod Tryz.f14) 30) 30 ⟨[0], X14_30, tellX I14_30 f O14_30⟩ (J14_30 (x0, x1, x2))).run D14_30 = B14_30 N f (x0, x1, x2) := by kernel_rfl

theorem C14_30_ok (N : Nat) (k : Nat) : ∀ c', At (bod Tryz.f14) 30 c' → CutOK Tryz.prog Tryz.f14.ntmps (idsL A14) c' (C14_30 N k) :=
  loop_ok (E := (mkE Tryz.prog ownT (tab14 N) [])) (mkE_ok mix (tab14_ok N)) (cutsIn_ok trivial) (fuel := 200) (by decide +kernel) (by kernel_rfl) I14_30_ok D14_30_ok (B14_30 N) (F14_30 N) (fun _ => rfl) (fun _ _ => rfl) (fun f x => match x with | (x0, x1, x2) => B14_30_eq N f x0 x1 x2) k

noncomputable def O14 (r : Int × Int × (List Int)) : Tr (Pk) := .ret ⟨[.tup []], [some (.var (.agg [.sl 1 (none), .v (.int .i64 (r.1)), .v (.int .i64 (r.2.1))])), some (.row (Ty.int IntKind.u8) 5 (r.2.2))]⟩

noncomputable def D14 : Pk → Option (Int × Int × (List Int))
  | ⟨[.tup []], [some (.var (.agg [.sl 1 (none), .v (.int .i64 x0), .v (.int .i64 x1)])), some (.row (Ty.int IntKind.u8) 5 x2)]⟩ => some ((x0, x1, x2))
  | _ => none

theorem D14_ok : ∀ y r, D14 y = some r → ∀ z, (O14 r).to z → y = z := by
  intro y r h
  unfold D14 at h
  split at h <;> first | (cases h; intro z hz; exact Option.some.inj hz) | cases h

noncomputable def F14 (N : Nat) : (Int × Int × Int × Int × (List Int)) → Option (Int × Int × (List Int))
  | (x0, x1, x2, x3, x4) =>
  Option.bind (F44 N x0) fun y0 =>
  Option.bind (F45 N (y0, x1)) fun y1 =>
  iteP (decide (x3 < (0 : Int))) (
    none) (
    Option.bind (F14_30 N N (IntKind.wrap IntKind.i64 (↑(BitVec.toNat (BitVec.ofInt (64 : Nat) x2 ||| BitVec.ofInt (64 : Nat) (IntKind.wrap IntKind.i64 (y1 * (2 : Int) ^ min (Int.toNat x3) (64 : Nat))))) : Int), IntKind.wrap IntKind.i64 (x3 + y0), x4)) fun y2 =>
    some ((Prod.fst y2, Prod.fst (Prod.snd y2), Prod.snd (Prod.snd y2))))

theorem F14_eq (N : Nat) (x0 : Int) (x1 : Int) (x2 : Int) (x3 : Int) (x4 : (List Int)) : (fnEv (mkE Tryz.prog ownT (tab14 N) [(30, (C14_30 N N))]) Tryz.f14 (J14 (x0, x1, x2, x3, x4))).run D14 = F14 N (x0, x1, x2, x3, x4) := by kernel_rfl

noncomputable def T14 (N : Nat) : Pk → Tr Pk := tell I14 (F14 N) O14

theorem T14_ok (N : Nat) : FOK Tryz.prog 14 (T14 N) :=
  (tell_ok (E := (mkE Tryz.prog ownT (tab14 N) [(30, (C14_30 N N))])) (mkE_ok mix (tab14_ok N)) Tryz.func14 (show Tryz.f14.body = some (bod Tryz.f14) by kernel_rfl) (by decide +kernel) (F := F14 N) I14_ok D14_ok (args := A14) (fun _ => by kernel_rfl) (fun _ => by show 3 ≤ Tryz.f14.ntmps; exact of_decide_eq_true (by kernel_rfl)) (cutsIn_ok ⟨fun c' h => (C14_30_ok N N c' h), trivial⟩) (fun x => match x with | (x0, x1, x2, x3, x4) => F14_eq N x0 x1 x2 x3 x4))

/-! ## f46: mirador/deflate.head -/

noncomputable def I46 : Pk → Option (Bool × Int × Int × Int × (List Int))
  | ⟨[.adr 0 [], .v (.bool x0), .v (.int .i64 x1)], [some (.var (.agg [.sl 1 none, .v (.int .i64 x2), .v (.int .i64 x3)])), some (.row (.int .u8) 5 x4)]⟩ => some (x0, x1, x2, x3, x4)
  | _ => none

noncomputable def J46 (x : Bool × Int × Int × Int × (List Int)) : Pk := ⟨[.adr 0 [], .v (.bool (x.1)), .v (.int .i64 (x.2.1))], [some (.var (.agg [.sl 1 none, .v (.int .i64 (x.2.2.1)), .v (.int .i64 (x.2.2.2.1))])), some (.row (.int .u8) 5 (x.2.2.2.2))]⟩

theorem I46_ok : ∀ pk x, I46 pk = some x → pk = J46 x := by
  intro pk x h
  unfold I46 at h
  split at h <;> first | (cases h; rfl) | cases h

noncomputable def A46 : List TV := [.adr 0 []]

noncomputable def tab46 (N : Nat) : List (Nat × (Pk → Tr Pk)) := [(14, T14 N)]

theorem tab46_ok (N : Nat) : TabOK Tryz.prog (tab46 N) := ⟨T14_ok N, trivial⟩

noncomputable def O46 (r : Int × Int × (List Int)) : Tr (Pk) := .ret ⟨[.tup []], [some (.var (.agg [.sl 1 (none), .v (.int .i64 (r.1)), .v (.int .i64 (r.2.1))])), some (.row (Ty.int IntKind.u8) 5 (r.2.2))]⟩

noncomputable def D46 : Pk → Option (Int × Int × (List Int))
  | ⟨[.tup []], [some (.var (.agg [.sl 1 (none), .v (.int .i64 x0), .v (.int .i64 x1)])), some (.row (Ty.int IntKind.u8) 5 x2)]⟩ => some ((x0, x1, x2))
  | _ => none

theorem D46_ok : ∀ y r, D46 y = some r → ∀ z, (O46 r).to z → y = z := by
  intro y r h
  unfold D46 at h
  split at h <;> first | (cases h; intro z hz; exact Option.some.inj hz) | cases h

noncomputable def F46 (N : Nat) : (Bool × Int × Int × Int × (List Int)) → Option (Int × Int × (List Int))
  | (x0, x1, x2, x3, x4) =>
  iteP (x0) (
    Option.bind (F14 N ((1 : Int), (1 : Int), x2, x3, x4)) fun y0 =>
    Option.bind (F14 N ((2 : Int), x1, Prod.fst y0, Prod.fst (Prod.snd y0), Prod.snd (Prod.snd y0))) fun y1 =>
    some ((Prod.fst y1, Prod.fst (Prod.snd y1), Prod.snd (Prod.snd y1)))) (
    Option.bind (F14 N ((1 : Int), (0 : Int), x2, x3, x4)) fun y2 =>
    Option.bind (F14 N ((2 : Int), x1, Prod.fst y2, Prod.fst (Prod.snd y2), Prod.snd (Prod.snd y2))) fun y3 =>
    some ((Prod.fst y3, Prod.fst (Prod.snd y3), Prod.snd (Prod.snd y3))))

theorem F46_eq (N : Nat) (x0 : Bool) (x1 : Int) (x2 : Int) (x3 : Int) (x4 : (List Int)) : (fnEv (mkE Tryz.prog ownT (tab46 N) []) Tryz.f46 (J46 (x0, x1, x2, x3, x4))).run D46 = F46 N (x0, x1, x2, x3, x4) := by kernel_rfl

noncomputable def T46 (N : Nat) : Pk → Tr Pk := tell I46 (F46 N) O46

theorem T46_ok (N : Nat) : FOK Tryz.prog 46 (T46 N) :=
  (tell_ok (E := (mkE Tryz.prog ownT (tab46 N) [])) (mkE_ok mix (tab46_ok N)) Tryz.func46 (show Tryz.f46.body = some (bod Tryz.f46) by kernel_rfl) (by decide +kernel) (F := F46 N) I46_ok D46_ok (args := A46) (fun _ => by kernel_rfl) (fun _ => by show 3 ≤ Tryz.f46.ntmps; exact of_decide_eq_true (by kernel_rfl)) (cutsIn_ok trivial) (fun x => match x with | (x0, x1, x2, x3, x4) => F46_eq N x0 x1 x2 x3 x4))

/-! ## f47: (*mirador/bitio.Writer).Align -/

noncomputable def I47 : Pk → Option (Int × Int × (List Int))
  | ⟨[.adr 0 []], [some (.var (.agg [.sl 1 none, .v (.int .i64 x0), .v (.int .i64 x1)])), some (.row (.int .u8) 5 x2)]⟩ => some (x0, x1, x2)
  | _ => none

noncomputable def J47 (x : Int × Int × (List Int)) : Pk := ⟨[.adr 0 []], [some (.var (.agg [.sl 1 none, .v (.int .i64 (x.1)), .v (.int .i64 (x.2.1))])), some (.row (.int .u8) 5 (x.2.2))]⟩

theorem I47_ok : ∀ pk x, I47 pk = some x → pk = J47 x := by
  intro pk x h
  unfold I47 at h
  split at h <;> first | (cases h; rfl) | cases h

noncomputable def A47 : List TV := [.adr 0 []]

noncomputable def tab47 (N : Nat) : List (Nat × (Pk → Tr Pk)) := [(14, T14 N)]

theorem tab47_ok (N : Nat) : TabOK Tryz.prog (tab47 N) := ⟨T14_ok N, trivial⟩

noncomputable def O47 (r : Int × Int × (List Int)) : Tr (Pk) := .ret ⟨[.tup []], [some (.var (.agg [.sl 1 (none), .v (.int .i64 (r.1)), .v (.int .i64 (r.2.1))])), some (.row (Ty.int IntKind.u8) 5 (r.2.2))]⟩

noncomputable def D47 : Pk → Option (Int × Int × (List Int))
  | ⟨[.tup []], [some (.var (.agg [.sl 1 (none), .v (.int .i64 x0), .v (.int .i64 x1)])), some (.row (Ty.int IntKind.u8) 5 x2)]⟩ => some ((x0, x1, x2))
  | _ => none

theorem D47_ok : ∀ y r, D47 y = some r → ∀ z, (O47 r).to z → y = z := by
  intro y r h
  unfold D47 at h
  split at h <;> first | (cases h; intro z hz; exact Option.some.inj hz) | cases h

noncomputable def F47 (N : Nat) : (Int × Int × (List Int)) → Option (Int × Int × (List Int))
  | (x0, x1, x2) =>
  Option.bind (F14 N (Int.tmod (IntKind.wrap IntKind.i64 ((8 : Int) - x1)) (8 : Int), (0 : Int), x0, x1, x2)) fun y0 =>
  some ((Prod.fst y0, Prod.fst (Prod.snd y0), Prod.snd (Prod.snd y0)))

theorem F47_eq (N : Nat) (x0 : Int) (x1 : Int) (x2 : (List Int)) : (fnEv (mkE Tryz.prog ownT (tab47 N) []) Tryz.f47 (J47 (x0, x1, x2))).run D47 = F47 N (x0, x1, x2) := by kernel_rfl

noncomputable def T47 (N : Nat) : Pk → Tr Pk := tell I47 (F47 N) O47

theorem T47_ok (N : Nat) : FOK Tryz.prog 47 (T47 N) :=
  (tell_ok (E := (mkE Tryz.prog ownT (tab47 N) [])) (mkE_ok mix (tab47_ok N)) Tryz.func47 (show Tryz.f47.body = some (bod Tryz.f47) by kernel_rfl) (by decide +kernel) (F := F47 N) I47_ok D47_ok (args := A47) (fun _ => by kernel_rfl) (fun _ => by show 1 ≤ Tryz.f47.ntmps; exact of_decide_eq_true (by kernel_rfl)) (cutsIn_ok trivial) (fun x => match x with | (x0, x1, x2) => F47_eq N x0 x1 x2))

/-! ## f48: (*mirador/bitio.Writer).Bytes -/

noncomputable def I48 : Pk → Option (ByteArray × Int × Int × (List Int))
  | ⟨[.adr 0 [], .v (.string x0)], [some (.var (.agg [.sl 1 none, .v (.int .i64 x1), .v (.int .i64 x2)])), some (.row (.int .u8) 5 x3)]⟩ => some (x0, x1, x2, x3)
  | _ => none

noncomputable def J48 (x : ByteArray × Int × Int × (List Int)) : Pk := ⟨[.adr 0 [], .v (.string (x.1))], [some (.var (.agg [.sl 1 none, .v (.int .i64 (x.2.1)), .v (.int .i64 (x.2.2.1))])), some (.row (.int .u8) 5 (x.2.2.2))]⟩

theorem I48_ok : ∀ pk x, I48 pk = some x → pk = J48 x := by
  intro pk x h
  unfold I48 at h
  split at h <;> first | (cases h; rfl) | cases h

noncomputable def A48 : List TV := [.adr 0 []]

noncomputable def tab48 (N : Nat) : List (Nat × (Pk → Tr Pk)) := [(47, T47 N)]

theorem tab48_ok (N : Nat) : TabOK Tryz.prog (tab48 N) := ⟨T47_ok N, trivial⟩

noncomputable def O48 (r : Int × Int × (List Int)) : Tr (Pk) := .ret ⟨[.tup []], [some (.var (.agg [.sl 1 (none), .v (.int .i64 (r.1)), .v (.int .i64 (r.2.1))])), some (.row (Ty.int IntKind.u8) 5 (r.2.2))]⟩

noncomputable def D48 : Pk → Option (Int × Int × (List Int))
  | ⟨[.tup []], [some (.var (.agg [.sl 1 (none), .v (.int .i64 x0), .v (.int .i64 x1)])), some (.row (Ty.int IntKind.u8) 5 x2)]⟩ => some ((x0, x1, x2))
  | _ => none

theorem D48_ok : ∀ y r, D48 y = some r → ∀ z, (O48 r).to z → y = z := by
  intro y r h
  unfold D48 at h
  split at h <;> first | (cases h; intro z hz; exact Option.some.inj hz) | cases h

noncomputable def F48 (N : Nat) : (ByteArray × Int × Int × (List Int)) → Option (Int × Int × (List Int))
  | (x0, x1, x2, x3) =>
  Option.bind (F47 N (x1, x2, x3)) fun y0 =>
  iteP (decide ((List.length (Prod.snd (Prod.snd y0)) + List.length (bytesOf x0)) * (1 : Nat) ≤ (140737488355328 : Nat) ∧ List.length (Prod.snd (Prod.snd y0)) + List.length (bytesOf x0) ≤ (140737488355328 : Nat))) (
    some ((Prod.fst y0, Prod.fst (Prod.snd y0), Prod.snd (Prod.snd y0) ++ bytesOf x0))) (
    none)

theorem F48_eq (N : Nat) (x0 : ByteArray) (x1 : Int) (x2 : Int) (x3 : (List Int)) : (fnEv (mkE Tryz.prog ownT (tab48 N) []) Tryz.f48 (J48 (x0, x1, x2, x3))).run D48 = F48 N (x0, x1, x2, x3) := by kernel_rfl

noncomputable def T48 (N : Nat) : Pk → Tr Pk := tell I48 (F48 N) O48

theorem T48_ok (N : Nat) : FOK Tryz.prog 48 (T48 N) :=
  (tell_ok (E := (mkE Tryz.prog ownT (tab48 N) [])) (mkE_ok mix (tab48_ok N)) Tryz.func48 (show Tryz.f48.body = some (bod Tryz.f48) by kernel_rfl) (by decide +kernel) (F := F48 N) I48_ok D48_ok (args := A48) (fun _ => by kernel_rfl) (fun _ => by show 2 ≤ Tryz.f48.ntmps; exact of_decide_eq_true (by kernel_rfl)) (cutsIn_ok trivial) (fun x => match x with | (x0, x1, x2, x3) => F48_eq N x0 x1 x2 x3))

/-! ## f15: mirador/deflate.Stored -/

noncomputable def I15 : Pk → Option (ByteArray × Bool × Int × Int × (List Int))
  | ⟨[.adr 0 [], .v (.string x0), .v (.bool x1)], [some (.var (.agg [.sl 1 none, .v (.int .i64 x2), .v (.int .i64 x3)])), some (.row (.int .u8) 5 x4)]⟩ => some (x0, x1, x2, x3, x4)
  | _ => none

noncomputable def J15 (x : ByteArray × Bool × Int × Int × (List Int)) : Pk := ⟨[.adr 0 [], .v (.string (x.1)), .v (.bool (x.2.1))], [some (.var (.agg [.sl 1 none, .v (.int .i64 (x.2.2.1)), .v (.int .i64 (x.2.2.2.1))])), some (.row (.int .u8) 5 (x.2.2.2.2))]⟩

theorem I15_ok : ∀ pk x, I15 pk = some x → pk = J15 x := by
  intro pk x h
  unfold I15 at h
  split at h <;> first | (cases h; rfl) | cases h

noncomputable def A15 : List TV := [.adr 0 []]

noncomputable def tab15 (N : Nat) : List (Nat × (Pk → Tr Pk)) := [(46, T46 N), (47, T47 N), (14, T14 N), (48, T48 N)]

theorem tab15_ok (N : Nat) : TabOK Tryz.prog (tab15 N) := ⟨T46_ok N, ⟨T47_ok N, ⟨T14_ok N, ⟨T48_ok N, trivial⟩⟩⟩⟩

def X15_2 : Ex → List Nat
  | .ret => []
  | .exit 0 => []
  | _ => []

noncomputable def I15_2 : Pk → Option (ByteArray × Bool × Int × Int × (List Int))
  | ⟨[.v (.string x0), .v (.bool x1), .adr 0 []], [some (.var (.agg [.sl 1 (none), .v (.int .i64 x2), .v (.int .i64 x3)])), some (.row (Ty.int IntKind.u8) 5 x4)]⟩ => some (x0, x1, x2, x3, x4)
  | _ => none

noncomputable def J15_2 (x : ByteArray × Bool × Int × Int × (List Int)) : Pk := ⟨[.v (.string (x.1)), .v (.bool (x.2.1)), .adr 0 []], [some (.var (.agg [.sl 1 (none), .v (.int .i64 (x.2.2.1)), .v (.int .i64 (x.2.2.2.1))])), some (.row (Ty.int IntKind.u8) 5 (x.2.2.2.2))]⟩

theorem I15_2_ok : ∀ pk x, I15_2 pk = some x → pk = J15_2 x := by
  intro pk x h
  unfold I15_2 at h
  split at h <;> first | (cases h; rfl) | cases h

noncomputable def O15_2 (r : Int × Int × (List Int)) : Tr (Ex × Pk) := .ret (.ret, ⟨[], [some (.var (.agg [.sl 1 (none), .v (.int .i64 (r.1)), .v (.int .i64 (r.2.1))])), some (.row (Ty.int IntKind.u8) 5 (r.2.2))]⟩)

noncomputable def D15_2 : Ex × Pk → Option (Int × Int × (List Int))
  | (.ret, ⟨[], [some (.var (.agg [.sl 1 (none), .v (.int .i64 x0), .v (.int .i64 x1)])), some (.row (Ty.int IntKind.u8) 5 x2)]⟩) => some ((x0, x1, x2))
  | _ => none

theorem D15_2_ok : ∀ y r, D15_2 y = some r → ∀ z, (O15_2 r).to z → y = z := by
  intro y r h
  unfold D15_2 at h
  split at h <;> first | (cases h; intro z hz; exact Option.some.inj hz) | cases h

noncomputable def B15_2 (N : Nat) (f : (ByteArray × Bool × Int × Int × (List Int)) → Option (Int × Int × (List Int))) : (ByteArray × Bool × Int × Int × (List Int)) → Option (Int × Int × (List Int))
  | (x0, x1, x2, x3, x4) =>
  iteP (x1) (
    Option.bind (F46 N ((if (65535 : Int) < (↑(ByteArray.size x0) : Int) then (65535 : Int) else (↑(ByteArray.size x0) : Int)) == (↑(ByteArray.size x0) : Int), (0 : Int), x2, x3, x4)) fun y0 =>
    Option.bind (F47 N (Prod.fst y0, Prod.fst (Prod.snd y0), Prod.snd (Prod.snd y0))) fun y1 =>
    Option.bind (F14 N ((16 : Int), if (65535 : Int) < (↑(ByteArray.size x0) : Int) then (65535 : Int) else (↑(ByteArray.size x0) : Int), Prod.fst y1, Prod.fst (Prod.snd y1), Prod.snd (Prod.snd y1))) fun y2 =>
    Option.bind (F14 N ((16 : Int), IntKind.wrap IntKind.i64 (↑(BitVec.toNat (BitVec.ofInt (64 : Nat) (if (65535 : Int) < (↑(ByteArray.size x0) : Int) then (65535 : Int) else (↑(ByteArray.size x0) : Int)) ^^^ BitVec.ofInt (64 : Nat) (65535 : Int))) : Int), Prod.fst y2, Prod.fst (Prod.snd y2), Prod.snd (Prod.snd y2))) fun y3 =>
    iteP (decide (((0 : Int) ≤ if (65535 : Int) < (↑(ByteArray.size x0) : Int) then (65535 : Int) else (↑(ByteArray.size x0) : Int)) ∧ (if (65535 : Int) < (↑(ByteArray.size x0) : Int) then (65535 : Int) else (↑(ByteArray.size x0) : Int)) ≤ (↑(ByteArray.size x0) : Int))) (
      Option.bind (F48 N (ByteArray.extract x0 (0 : Nat) (Int.toNat (if (65535 : Int) < (↑(ByteArray.size x0) : Int) then (65535 : Int) else (↑(ByteArray.size x0) : Int))), Prod.fst y3, Prod.fst (Prod.snd y3), Prod.snd (Prod.snd y3))) fun y4 =>
      iteP (decide (((0 : Int) ≤ if (65535 : Int) < (↑(ByteArray.size x0) : Int) then (65535 : Int) else (↑(ByteArray.size x0) : Int)) ∧ (if (65535 : Int) < (↑(ByteArray.size x0) : Int) then (65535 : Int) else (↑(ByteArray.size x0) : Int)) ≤ (↑(ByteArray.size x0) : Int))) (
        iteP (ByteArray.toList (ByteArray.extract x0 (Int.toNat (if (65535 : Int) < (↑(ByteArray.size x0) : Int) then (65535 : Int) else (↑(ByteArray.size x0) : Int))) (ByteArray.size x0)) == []) (
          some ((Prod.fst y4, Prod.fst (Prod.snd y4), Prod.snd (Prod.snd y4)))) (
          Option.bind (f (ByteArray.extract x0 (Int.toNat (if (65535 : Int) < (↑(ByteArray.size x0) : Int) then (65535 : Int) else (↑(ByteArray.size x0) : Int))) (ByteArray.size x0), x1, Prod.fst y4, Prod.fst (Prod.snd y4), Prod.snd (Prod.snd y4))) fun r => some r)) (
        none)) (
      none)) (
    Option.bind (F46 N (false, (0 : Int), x2, x3, x4)) fun y5 =>
    Option.bind (F47 N (Prod.fst y5, Prod.fst (Prod.snd y5), Prod.snd (Prod.snd y5))) fun y6 =>
    Option.bind (F14 N ((16 : Int), if (65535 : Int) < (↑(ByteArray.size x0) : Int) then (65535 : Int) else (↑(ByteArray.size x0) : Int), Prod.fst y6, Prod.fst (Prod.snd y6), Prod.snd (Prod.snd y6))) fun y7 =>
    Option.bind (F14 N ((16 : Int), IntKind.wrap IntKind.i64 (↑(BitVec.toNat (BitVec.ofInt (64 : Nat) (if (65535 : Int) < (↑(ByteArray.size x0) : Int) then (65535 : Int) else (↑(ByteArray.size x0) : Int)) ^^^ BitVec.ofInt (64 : Nat) (65535 : Int))) : Int), Prod.fst y7, Prod.fst (Prod.snd y7), Prod.snd (Prod.snd y7))) fun y8 =>
    iteP (decide (((0 : Int) ≤ if (65535 : Int) < (↑(ByteArray.size x0) : Int) then (65535 : Int) else (↑(ByteArray.size x0) : Int)) ∧ (if (65535 : Int) < (↑(ByteArray.size x0) : Int) then (65535 : Int) else (↑(ByteArray.size x0) : Int)) ≤ (↑(ByteArray.size x0) : Int))) (
      Option.bind (F48 N (ByteArray.extract x0 (0 : Nat) (Int.toNat (if (65535 : Int) < (↑(ByteArray.size x0) : Int) then (65535 : Int) else (↑(ByteArray.size x0) : Int))), Prod.fst y8, Prod.fst (Prod.snd y8), Prod.snd (Prod.snd y8))) fun y9 =>
      iteP (decide (((0 : Int) ≤ if (65535 : Int) < (↑(ByteArray.size x0) : Int) then (65535 : Int) else (↑(ByteArray.size x0) : Int)) ∧ (if (65535 : Int) < (↑(ByteArray.size x0) : Int) then (65535 : Int) else (↑(ByteArray.size x0) : Int)) ≤ (↑(ByteArray.size x0) : Int))) (
        iteP (ByteArray.toList (ByteArray.extract x0 (Int.toNat (if (65535 : Int) < (↑(ByteArray.size x0) : Int) then (65535 : Int) else (↑(ByteArray.size x0) : Int))) (ByteArray.size x0)) == []) (
          some ((Prod.fst y9, Prod.fst (Prod.snd y9), Prod.snd (Prod.snd y9)))) (
          Option.bind (f (ByteArray.extract x0 (Int.toNat (if (65535 : Int) < (↑(ByteArray.size x0) : Int) then (65535 : Int) else (↑(ByteArray.size x0) : Int))) (ByteArray.size x0), x1, Prod.fst y9, Prod.fst (Prod.snd y9), Prod.snd (Prod.snd y9))) fun r => some r)) (
        none)) (
      none))

noncomputable def F15_2 (N : Nat) : Nat → (ByteArray × Bool × Int × Int × (List Int)) → Option (Int × Int × (List Int))
  | 0, _ => none
  | k + 1, x => B15_2 N (F15_2 N k) x

noncomputable def C15_2 (N : Nat) (k : Nat) : Cut := ⟨[1, 2, 0], X15_2, tellX I15_2 (F15_2 N k) O15_2⟩

theorem B15_2_eq (N : Nat) (f : (ByteArray × Bool × Int × Int × (List Int)) → Option (Int × Int × (List Int))) (x0 : ByteArray) (x1 : Bool) (x2 : Int) (x3 : Int) (x4 : (List Int)) : (roundEv (mkE Tryz.prog ownT (tab15 N) []) Tryz.f15.ntmps A15 (loopAt (bod Tryz.f15) 2) 2 ⟨[1, 2, 0], X15_2, tellX I15_2 f O15_2⟩ (J15_2 (x0, x1, x2, x3, x4))).run D15_2 = B15_2 N f (x0, x1, x2, x3, x4) := by kernel_rfl

theorem C15_2_ok (N : Nat) (k : Nat) : ∀ c', At (bod Tryz.f15) 2 c' → CutOK Tryz.prog Tryz.f15.ntmps (idsL A15) c' (C15_2 N k) :=
  loop_ok (E := (mkE Tryz.prog ownT (tab15 N) [])) (mkE_ok mix (tab15_ok N)) (cutsIn_ok trivial) (fuel := 200) (by decide +kernel) (by kernel_rfl) I15_2_ok D15_2_ok (B15_2 N) (F15_2 N) (fun _ => rfl) (fun _ _ => rfl) (fun f x => match x with | (x0, x1, x2, x3, x4) => B15_2_eq N f x0 x1 x2 x3 x4) k

noncomputable def O15 (r : Int × Int × (List Int)) : Tr (Pk) := .ret ⟨[.tup []], [some (.var (.agg [.sl 1 (none), .v (.int .i64 (r.1)), .v (.int .i64 (r.2.1))])), some (.row (Ty.int IntKind.u8) 5 (r.2.2))]⟩

noncomputable def D15 : Pk → Option (Int × Int × (List Int))
  | ⟨[.tup []], [some (.var (.agg [.sl 1 (none), .v (.int .i64 x0), .v (.int .i64 x1)])), some (.row (Ty.int IntKind.u8) 5 x2)]⟩ => some ((x0, x1, x2))
  | _ => none

theorem D15_ok : ∀ y r, D15 y = some r → ∀ z, (O15 r).to z → y = z := by
  intro y r h
  unfold D15 at h
  split at h <;> first | (cases h; intro z hz; exact Option.some.inj hz) | cases h

noncomputable def F15 (N : Nat) : (ByteArray × Bool × Int × Int × (List Int)) → Option (Int × Int × (List Int))
  | (x0, x1, x2, x3, x4) =>
  Option.bind (F15_2 N N (x0, x1, x2, x3, x4)) fun y0 =>
  some ((Prod.fst y0, Prod.fst (Prod.snd y0), Prod.snd (Prod.snd y0)))

theorem F15_eq (N : Nat) (x0 : ByteArray) (x1 : Bool) (x2 : Int) (x3 : Int) (x4 : (List Int)) : (fnEv (mkE Tryz.prog ownT (tab15 N) [(2, (C15_2 N N))]) Tryz.f15 (J15 (x0, x1, x2, x3, x4))).run D15 = F15 N (x0, x1, x2, x3, x4) := by kernel_rfl

noncomputable def T15 (N : Nat) : Pk → Tr Pk := tell I15 (F15 N) O15

theorem T15_ok (N : Nat) : FOK Tryz.prog 15 (T15 N) :=
  (tell_ok (E := (mkE Tryz.prog ownT (tab15 N) [(2, (C15_2 N N))])) (mkE_ok mix (tab15_ok N)) Tryz.func15 (show Tryz.f15.body = some (bod Tryz.f15) by kernel_rfl) (by decide +kernel) (F := F15 N) I15_ok D15_ok (args := A15) (fun _ => by kernel_rfl) (fun _ => by show 3 ≤ Tryz.f15.ntmps; exact of_decide_eq_true (by kernel_rfl)) (cutsIn_ok ⟨fun c' h => (C15_2_ok N N c' h), trivial⟩) (fun x => match x with | (x0, x1, x2, x3, x4) => F15_eq N x0 x1 x2 x3 x4))

/-! ## f88: mirador/lz.Tail -/

noncomputable def I88 : Pk → Option (ByteArray)
  | ⟨[.v (.string x0)], []⟩ => some x0
  | _ => none

noncomputable def J88 (x : ByteArray) : Pk := ⟨[.v (.string (x))], []⟩

theorem I88_ok : ∀ pk x, I88 pk = some x → pk = J88 x := by
  intro pk x h
  unfold I88 at h
  split at h <;> first | (cases h; rfl) | cases h

noncomputable def A88 : List TV := []

noncomputable def tab88 (N : Nat) : List (Nat × (Pk → Tr Pk)) := []

theorem tab88_ok (N : Nat) : TabOK Tryz.prog (tab88 N) := trivial

noncomputable def O88 (r : ByteArray) : Tr (Pk) := .ret ⟨[.v (.string (r))], []⟩

noncomputable def D88 : Pk → Option (ByteArray)
  | ⟨[.v (.string x0)], []⟩ => some (x0)
  | _ => none

theorem D88_ok : ∀ y r, D88 y = some r → ∀ z, (O88 r).to z → y = z := by
  intro y r h
  unfold D88 at h
  split at h <;> first | (cases h; intro z hz; exact Option.some.inj hz) | cases h

noncomputable def F88 (N : Nat) : (ByteArray) → Option (ByteArray)
  | x0 =>
  iteP (decide (((0 : Int) ≤ if (0 : Int) > IntKind.wrap IntKind.i64 ((↑(ByteArray.size x0) : Int) - (32768 : Int)) then (0 : Int) else IntKind.wrap IntKind.i64 ((↑(ByteArray.size x0) : Int) - (32768 : Int))) ∧ (if (0 : Int) > IntKind.wrap IntKind.i64 ((↑(ByteArray.size x0) : Int) - (32768 : Int)) then (0 : Int) else IntKind.wrap IntKind.i64 ((↑(ByteArray.size x0) : Int) - (32768 : Int))) ≤ (↑(ByteArray.size x0) : Int))) (
    some (ByteArray.extract x0 (Int.toNat (if (0 : Int) > IntKind.wrap IntKind.i64 ((↑(ByteArray.size x0) : Int) - (32768 : Int)) then (0 : Int) else IntKind.wrap IntKind.i64 ((↑(ByteArray.size x0) : Int) - (32768 : Int)))) (ByteArray.size x0))) (
    none)

theorem F88_eq (N : Nat) (x0 : ByteArray) : (fnEv (mkE Tryz.prog ownT (tab88 N) []) Tryz.f88 (J88 x0)).run D88 = F88 N x0 := by kernel_rfl

noncomputable def T88 (N : Nat) : Pk → Tr Pk := tell I88 (F88 N) O88

theorem T88_ok (N : Nat) : FOK Tryz.prog 88 (T88 N) :=
  (tell_ok (E := (mkE Tryz.prog ownT (tab88 N) [])) (mkE_ok mix (tab88_ok N)) Tryz.func88 (show Tryz.f88.body = some (bod Tryz.f88) by kernel_rfl) (by decide +kernel) (F := F88 N) I88_ok D88_ok (args := A88) (fun _ => by kernel_rfl) (fun _ => by show 1 ≤ Tryz.f88.ntmps; exact of_decide_eq_true (by kernel_rfl)) (cutsIn_ok trivial) (fun x => match x with | x0 => F88_eq N x0))

/-! ## f134: (*mirador/lz.chains).add -/

noncomputable def I134 : Pk → Option (Int × ByteArray × (List (ByteArray × Int)) × (List Int))
  | ⟨[.adr 0 [], .v (.int .i64 x0)], [some (.var (.agg [.v (.string x1), .mp 1, .sl 2 none])), some (.map .str (.int .i64) x2), some (.row (.int .i64) 3 x3)]⟩ => some (x0, x1, x2, x3)
  | _ => none

noncomputable def J134 (x : Int × ByteArray × (List (ByteArray × Int)) × (List Int)) : Pk := ⟨[.adr 0 [], .v (.int .i64 (x.1))], [some (.var (.agg [.v (.string (x.2.1)), .mp 1, .sl 2 none])), some (.map .str (.int .i64) (x.2.2.1)), some (.row (.int .i64) 3 (x.2.2.2))]⟩

theorem I134_ok : ∀ pk x, I134 pk = some x → pk = J134 x := by
  intro pk x h
  unfold I134 at h
  split at h <;> first | (cases h; rfl) | cases h

noncomputable def A134 : List TV := [.adr 0 []]

noncomputable def tab134 (N : Nat) : List (Nat × (Pk → Tr Pk)) := []

theorem tab134_ok (N : Nat) : TabOK Tryz.prog (tab134 N) := trivial

noncomputable def O134 (r : ByteArray × (List (ByteArray × Int)) × (List Int)) : Tr (Pk) := .ret ⟨[.tup []], [some (.var (.agg [.v (.string (r.1)), .mp 1, .sl 2 (none)])), some (.map (Ty.str) (Ty.int IntKind.i64) (r.2.1)), some (.row (Ty.int IntKind.i64) 3 (r.2.2))]⟩

noncomputable def D134 : Pk → Option (ByteArray × (List (ByteArray × Int)) × (List Int))
  | ⟨[.tup []], [some (.var (.agg [.v (.string x0), .mp 1, .sl 2 (none)])), some (.map (Ty.str) (Ty.int IntKind.i64) x1), some (.row (Ty.int IntKind.i64) 3 x2)]⟩ => some ((x0, x1, x2))
  | _ => none

theorem D134_ok : ∀ y r, D134 y = some r → ∀ z, (O134 r).to z → y = z := by
  intro y r h
  unfold D134 at h
  split at h <;> first | (cases h; intro z hz; exact Option.some.inj hz) | cases h

noncomputable def F134 (N : Nat) : (Int × ByteArray × (List (ByteArray × Int)) × (List Int)) → Option (ByteArray × (List (ByteArray × Int)) × (List Int))
  | (x0, x1, x2, x3) =>
  iteP (decide (IntKind.wrap IntKind.i64 (x0 + (3 : Int)) ≤ (↑(ByteArray.size x1) : Int))) (
    iteP (decide ((0 : Int) ≤ IntKind.wrap IntKind.i64 (x0 + (3 : Int)) ∧ IntKind.wrap IntKind.i64 (x0 + (3 : Int)) ≤ (↑(ByteArray.size x1) : Int))) (
      iteP (decide ((0 : Int) ≤ x0 ∧ x0 ≤ (↑(Int.toNat (IntKind.wrap IntKind.i64 (x0 + (3 : Int)))) : Int))) (
        iteP (mapHas Ty.str (ByteArray.extract x1 (Int.toNat x0) (Int.toNat (IntKind.wrap IntKind.i64 (x0 + (3 : Int))))) x2) (
          iteP (decide ((List.length x3 + List.length [mapGet Ty.str (ByteArray.extract x1 (Int.toNat x0) (Int.toNat (IntKind.wrap IntKind.i64 (x0 + (3 : Int))))) (0 : Int) x2]) * (8 : Nat) ≤ (140737488355328 : Nat) ∧ List.length x3 + List.length [mapGet Ty.str (ByteArray.extract x1 (Int.toNat x0) (Int.toNat (IntKind.wrap IntKind.i64 (x0 + (3 : Int))))) (0 : Int) x2] ≤ (140737488355328 : Nat))) (
            some ((x1, mapPut Ty.str (ByteArray.extract x1 (Int.toNat x0) (Int.toNat (IntKind.wrap IntKind.i64 (x0 + (3 : Int))))) x0 x2, x3 ++ [mapGet Ty.str (ByteArray.extract x1 (Int.toNat x0) (Int.toNat (IntKind.wrap IntKind.i64 (x0 + (3 : Int))))) (0 : Int) x2]))) (
            none)) (
          iteP (decide ((List.length x3 + (1 : Nat)) * (8 : Nat) ≤ (140737488355328 : Nat) ∧ List.length x3 + (1 : Nat) ≤ (140737488355328 : Nat))) (
            some ((x1, mapPut Ty.str (ByteArray.extract x1 (Int.toNat x0) (Int.toNat (IntKind.wrap IntKind.i64 (x0 + (3 : Int))))) x0 x2, x3 ++ [(-1 : Int)]))) (
            none))) (
        none)) (
      none)) (
    iteP (decide ((List.length x3 + (1 : Nat)) * (8 : Nat) ≤ (140737488355328 : Nat) ∧ List.length x3 + (1 : Nat) ≤ (140737488355328 : Nat))) (
      some ((x1, x2, x3 ++ [(-1 : Int)]))) (
      none))

theorem F134_eq (N : Nat) (x0 : Int) (x1 : ByteArray) (x2 : (List (ByteArray × Int))) (x3 : (List Int)) : (fnEv (mkE Tryz.prog ownT (tab134 N) []) Tryz.f134 (J134 (x0, x1, x2, x3))).run D134 = F134 N (x0, x1, x2, x3) := by kernel_rfl

noncomputable def T134 (N : Nat) : Pk → Tr Pk := tell I134 (F134 N) O134

theorem T134_ok (N : Nat) : FOK Tryz.prog 134 (T134 N) :=
  (tell_ok (E := (mkE Tryz.prog ownT (tab134 N) [])) (mkE_ok mix (tab134_ok N)) Tryz.func134 (show Tryz.f134.body = some (bod Tryz.f134) by kernel_rfl) (by decide +kernel) (F := F134 N) I134_ok D134_ok (args := A134) (fun _ => by kernel_rfl) (fun _ => by show 2 ≤ Tryz.f134.ntmps; exact of_decide_eq_true (by kernel_rfl)) (cutsIn_ok trivial) (fun x => match x with | (x0, x1, x2, x3) => F134_eq N x0 x1 x2 x3))

/-! ## f159: (*mirador/lz.chains).alike -/

noncomputable def I159 : Pk → Option (Int × Int × ByteArray × (List (ByteArray × Int)) × (List Int))
  | ⟨[.adr 0 [], .v (.int .i64 x0), .v (.int .i64 x1)], [some (.var (.agg [.v (.string x2), .mp 1, .sl 2 none])), some (.map .str (.int .i64) x3), some (.row (.int .i64) 3 x4)]⟩ => some (x0, x1, x2, x3, x4)
  | _ => none

noncomputable def J159 (x : Int × Int × ByteArray × (List (ByteArray × Int)) × (List Int)) : Pk := ⟨[.adr 0 [], .v (.int .i64 (x.1)), .v (.int .i64 (x.2.1))], [some (.var (.agg [.v (.string (x.2.2.1)), .mp 1, .sl 2 none])), some (.map .str (.int .i64) (x.2.2.2.1)), some (.row (.int .i64) 3 (x.2.2.2.2))]⟩

theorem I159_ok : ∀ pk x, I159 pk = some x → pk = J159 x := by
  intro pk x h
  unfold I159 at h
  split at h <;> first | (cases h; rfl) | cases h

noncomputable def A159 : List TV := [.adr 0 []]

noncomputable def tab159 (N : Nat) : List (Nat × (Pk → Tr Pk)) := []

theorem tab159_ok (N : Nat) : TabOK Tryz.prog (tab159 N) := trivial

def X159_28 : Ex → List Nat
  | .ret => [6]
  | .exit 0 => [7]
  | _ => []

noncomputable def I159_28 : Pk → Option (Int × Int × Int × ByteArray × (List (ByteArray × Int)) × (List Int))
  | ⟨[.v (.int .i64 x0), .v (.int .i64 x1), .adr 0 [], .v (.int .i64 x2)], [some (.var (.agg [.v (.string x3), .mp 1, .sl 2 (none)])), some (.map (Ty.str) (Ty.int IntKind.i64) x4), some (.row (Ty.int IntKind.i64) 3 x5)]⟩ => some (x0, x1, x2, x3, x4, x5)
  | _ => none

noncomputable def J159_28 (x : Int × Int × Int × ByteArray × (List (ByteArray × Int)) × (List Int)) : Pk := ⟨[.v (.int .i64 (x.1)), .v (.int .i64 (x.2.1)), .adr 0 [], .v (.int .i64 (x.2.2.1))], [some (.var (.agg [.v (.string (x.2.2.2.1)), .mp 1, .sl 2 (none)])), some (.map (Ty.str) (Ty.int IntKind.i64) (x.2.2.2.2.1)), some (.row (Ty.int IntKind.i64) 3 (x.2.2.2.2.2))]⟩

theorem I159_28_ok : ∀ pk x, I159_28 pk = some x → pk = J159_28 x := by
  intro pk x h
  unfold I159_28 at h
  split at h <;> first | (cases h; rfl) | cases h

noncomputable def O159_28 (r : Int × ByteArray × (List (ByteArray × Int)) × (List Int)) : Tr (Ex × Pk) := .ret (.exit 0, ⟨[.v (.int .i64 (r.1))], [some (.var (.agg [.v (.string (r.2.1)), .mp 1, .sl 2 (none)])), some (.map (Ty.str) (Ty.int IntKind.i64) (r.2.2.1)), some (.row (Ty.int IntKind.i64) 3 (r.2.2.2))]⟩)

noncomputable def D159_28 : Ex × Pk → Option (Int × ByteArray × (List (ByteArray × Int)) × (List Int))
  | (.exit 0, ⟨[.v (.int .i64 x0)], [some (.var (.agg [.v (.string x1), .mp 1, .sl 2 (none)])), some (.map (Ty.str) (Ty.int IntKind.i64) x2), some (.row (Ty.int IntKind.i64) 3 x3)]⟩) => some ((x0, x1, x2, x3))
  | _ => none

theorem D159_28_ok : ∀ y r, D159_28 y = some r → ∀ z, (O159_28 r).to z → y = z := by
  intro y r h
  unfold D159_28 at h
  split at h <;> first | (cases h; intro z hz; exact Option.some.inj hz) | cases h

noncomputable def B159_28 (N : Nat) (f : (Int × Int × Int × ByteArray × (List (ByteArray × Int)) × (List Int)) → Option (Int × ByteArray × (List (ByteArray × Int)) × (List Int))) : (Int × Int × Int × ByteArray × (List (ByteArray × Int)) × (List Int)) → Option (Int × ByteArray × (List (ByteArray × Int)) × (List Int))
  | (x0, x1, x2, x3, x4, x5) =>
  iteP (decide (x0 < (258 : Int))) (
    iteP (decide (IntKind.wrap IntKind.i64 (x2 + x0) < (↑(ByteArray.size x3) : Int))) (
      iteP (decide ((0 : Int) ≤ IntKind.wrap IntKind.i64 (x1 + x0))) (
        Option.bind (x3[Int.toNat (IntKind.wrap IntKind.i64 (x1 + x0))]?) fun y0 =>
        iteP (decide ((0 : Int) ≤ IntKind.wrap IntKind.i64 (x2 + x0))) (
          Option.bind (x3[Int.toNat (IntKind.wrap IntKind.i64 (x2 + x0))]?) fun y1 =>
          iteP ((↑(UInt8.toNat y0) : Int) == (↑(UInt8.toNat y1) : Int)) (
            Option.bind (f (IntKind.wrap IntKind.i64 (x0 + (1 : Int)), x1, x2, x3, x4, x5)) fun r => some r) (
            some ((x0, x3, x4, x5)))) (
          none)) (
        none)) (
      some ((x0, x3, x4, x5)))) (
    some ((x0, x3, x4, x5)))

noncomputable def F159_28 (N : Nat) : Nat → (Int × Int × Int × ByteArray × (List (ByteArray × Int)) × (List Int)) → Option (Int × ByteArray × (List (ByteArray × Int)) × (List Int))
  | 0, _ => none
  | k + 1, x => B159_28 N (F159_28 N k) x

noncomputable def C159_28 (N : Nat) (k : Nat) : Cut := ⟨[7, 1, 0, 2], X159_28, tellX I159_28 (F159_28 N k) O159_28⟩

theorem B159_28_eq (N : Nat) (f : (Int × Int × Int × ByteArray × (List (ByteArray × Int)) × (List Int)) → Option (Int × ByteArray × (List (ByteArray × Int)) × (List Int))) (x0 : Int) (x1 : Int) (x2 : Int) (x3 : ByteArray) (x4 : (List (ByteArray × Int))) (x5 : (List Int)) : (roundEv (mkE Tryz.prog ownT (tab159 N) []) Tryz.f159.ntmps A159 (loopAt (bod Tryz.f159) 28) 28 ⟨[7, 1, 0, 2], X159_28, tellX I159_28 f O159_28⟩ (J159_28 (x0, x1, x2, x3, x4, x5))).run D159_28 = B159_28 N f (x0, x1, x2, x3, x4, x5) := by kernel_rfl

theorem C159_28_ok (N : Nat) (k : Nat) : ∀ c', At (bod Tryz.f159) 28 c' → CutOK Tryz.prog Tryz.f159.ntmps (idsL A159) c' (C159_28 N k) :=
  loop_ok (E := (mkE Tryz.prog ownT (tab159 N) [])) (mkE_ok mix (tab159_ok N)) (cutsIn_ok trivial) (fuel := 200) (by decide +kernel) (by kernel_rfl) I159_28_ok D159_28_ok (B159_28 N) (F159_28 N) (fun _ => rfl) (fun _ _ => rfl) (fun f x => match x with | (x0, x1, x2, x3, x4, x5) => B159_28_eq N f x0 x1 x2 x3 x4 x5) k

noncomputable def O159 (r : Int × ByteArray × (List (ByteArray × Int)) × (List Int)) : Tr (Pk) := .ret ⟨[.v (.int .i64 (r.1))], [some (.var (.agg [.v (.string (r.2.1)), .mp 1, .sl 2 (none)])), some (.map (Ty.str) (Ty.int IntKind.i64) (r.2.2.1)), some (.row (Ty.int IntKind.i64) 3 (r.2.2.2))]⟩

noncomputable def D159 : Pk → Option (Int × ByteArray × (List (ByteArray × Int)) × (List Int))
  | ⟨[.v (.int .i64 x0)], [some (.var (.agg [.v (.string x1), .mp 1, .sl 2 (none)])), some (.map (Ty.str) (Ty.int IntKind.i64) x2), some (.row (Ty.int IntKind.i64) 3 x3)]⟩ => some ((x0, x1, x2, x3))
  | _ => none

theorem D159_ok : ∀ y r, D159 y = some r → ∀ z, (O159 r).to z → y = z := by
  intro y r h
  unfold D159 at h
  split at h <;> first | (cases h; intro z hz; exact Option.some.inj hz) | cases h

noncomputable def F159 (N : Nat) : (Int × Int × ByteArray × (List (ByteArray × Int)) × (List Int)) → Option (Int × ByteArray × (List (ByteArray × Int)) × (List Int))
  | (x0, x1, x2, x3, x4) =>
  Option.bind (F159_28 N N ((0 : Int), x0, x1, x2, x3, x4)) fun y0 =>
  some ((Prod.fst y0, Prod.fst (Prod.snd y0), Prod.fst (Prod.snd (Prod.snd y0)), Prod.snd (Prod.snd (Prod.snd y0))))

theorem F159_eq (N : Nat) (x0 : Int) (x1 : Int) (x2 : ByteArray) (x3 : (List (ByteArray × Int))) (x4 : (List Int)) : (fnEv (mkE Tryz.prog ownT (tab159 N) [(28, (C159_28 N N))]) Tryz.f159 (J159 (x0, x1, x2, x3, x4))).run D159 = F159 N (x0, x1, x2, x3, x4) := by kernel_rfl

noncomputable def T159 (N : Nat) : Pk → Tr Pk := tell I159 (F159 N) O159

theorem T159_ok (N : Nat) : FOK Tryz.prog 159 (T159 N) :=
  (tell_ok (E := (mkE Tryz.prog ownT (tab159 N) [(28, (C159_28 N N))])) (mkE_ok mix (tab159_ok N)) Tryz.func159 (show Tryz.f159.body = some (bod Tryz.f159) by kernel_rfl) (by decide +kernel) (F := F159 N) I159_ok D159_ok (args := A159) (fun _ => by kernel_rfl) (fun _ => by show 3 ≤ Tryz.f159.ntmps; exact of_decide_eq_true (by kernel_rfl)) (cutsIn_ok ⟨fun c' h => (C159_28_ok N N c' h), trivial⟩) (fun x => match x with | (x0, x1, x2, x3, x4) => F159_eq N x0 x1 x2 x3 x4))

/-! ## f135: (*mirador/lz.chains).best -/

noncomputable def I135 : Pk → Option (Int × ByteArray × (List (ByteArray × Int)) × (List Int))
  | ⟨[.adr 0 [], .v (.int .i64 x0)], [some (.var (.agg [.v (.string x1), .mp 1, .sl 2 none])), some (.map .str (.int .i64) x2), some (.row (.int .i64) 3 x3)]⟩ => some (x0, x1, x2, x3)
  | _ => none

noncomputable def J135 (x : Int × ByteArray × (List (ByteArray × Int)) × (List Int)) : Pk := ⟨[.adr 0 [], .v (.int .i64 (x.1))], [some (.var (.agg [.v (.string (x.2.1)), .mp 1, .sl 2 none])), some (.map .str (.int .i64) (x.2.2.1)), some (.row (.int .i64) 3 (x.2.2.2))]⟩

theorem I135_ok : ∀ pk x, I135 pk = some x → pk = J135 x := by
  intro pk x h
  unfold I135 at h
  split at h <;> first | (cases h; rfl) | cases h

noncomputable def A135 : List TV := [.adr 0 []]

noncomputable def tab135 (N : Nat) : List (Nat × (Pk → Tr Pk)) := [(159, T159 N)]

theorem tab135_ok (N : Nat) : TabOK Tryz.prog (tab135 N) := ⟨T159_ok N, trivial⟩

def X135_250 : Ex → List Nat
  | .ret => [4, 5]
  | .exit 0 => [6, 4]
  | _ => []

noncomputable def I135_250 : Pk → Option (Int × Int × Bool × Int × ByteArray × Int × Int × Int × Int × Int × Int × (List (ByteArray × Int)) × (List Int))
  | ⟨[.v (.int .i64 x0), .v (.int .i64 x1), .v (.bool x2), .adr 1 [], .v (.int .i64 x3), .adr 2 [], .adr 0 []], [some (.var (.agg [.v (.string x4), .mp 3, .sl 4 (none)])), some (.var (.agg [.v (.int .i64 x5), .v (.int .i64 x6), .v (.int .i64 x7)])), some (.var (.agg [.v (.int .i64 x8), .v (.int .i64 x9), .v (.int .i64 x10)])), some (.map (Ty.str) (Ty.int IntKind.i64) x11), some (.row (Ty.int IntKind.i64) 3 x12)]⟩ => some (x0, x1, x2, x3, x4, x5, x6, x7, x8, x9, x10, x11, x12)
  | _ => none

noncomputable def J135_250 (x : Int × Int × Bool × Int × ByteArray × Int × Int × Int × Int × Int × Int × (List (ByteArray × Int)) × (List Int)) : Pk := ⟨[.v (.int .i64 (x.1)), .v (.int .i64 (x.2.1)), .v (.bool (x.2.2.1)), .adr 1 [], .v (.int .i64 (x.2.2.2.1)), .adr 2 [], .adr 0 []], [some (.var (.agg [.v (.string (x.2.2.2.2.1)), .mp 3, .sl 4 (none)])), some (.var (.agg [.v (.int .i64 (x.2.2.2.2.2.1)), .v (.int .i64 (x.2.2.2.2.2.2.1)), .v (.int .i64 (x.2.2.2.2.2.2.2.1))])), some (.var (.agg [.v (.int .i64 (x.2.2.2.2.2.2.2.2.1)), .v (.int .i64 (x.2.2.2.2.2.2.2.2.2.1)), .v (.int .i64 (x.2.2.2.2.2.2.2.2.2.2.1))])), some (.map (Ty.str) (Ty.int IntKind.i64) (x.2.2.2.2.2.2.2.2.2.2.2.1)), some (.row (Ty.int IntKind.i64) 3 (x.2.2.2.2.2.2.2.2.2.2.2.2))]⟩

theorem I135_250_ok : ∀ pk x, I135_250 pk = some x → pk = J135_250 x := by
  intro pk x h
  unfold I135_250 at h
  split at h <;> first | (cases h; rfl) | cases h

noncomputable def O135_250 (r : ByteArray × Int × Int × Int × Int × Int × Int × (List (ByteArray × Int)) × (List Int)) : Tr (Ex × Pk) := .ret (.exit 0, ⟨[.adr 1 [], .adr 2 []], [some (.var (.agg [.v (.string (r.1)), .mp 3, .sl 4 (none)])), some (.var (.agg [.v (.int .i64 (r.2.1)), .v (.int .i64 (r.2.2.1)), .v (.int .i64 (r.2.2.2.1))])), some (.var (.agg [.v (.int .i64 (r.2.2.2.2.1)), .v (.int .i64 (r.2.2.2.2.2.1)), .v (.int .i64 (r.2.2.2.2.2.2.1))])), some (.map (Ty.str) (Ty.int IntKind.i64) (r.2.2.2.2.2.2.2.1)), some (.row (Ty.int IntKind.i64) 3 (r.2.2.2.2.2.2.2.2))]⟩)

noncomputable def D135_250 : Ex × Pk → Option (ByteArray × Int × Int × Int × Int × Int × Int × (List (ByteArray × Int)) × (List Int))
  | (.exit 0, ⟨[.adr 1 [], .adr 2 []], [some (.var (.agg [.v (.string x0), .mp 3, .sl 4 (none)])), some (.var (.agg [.v (.int .i64 x1), .v (.int .i64 x2), .v (.int .i64 x3)])), some (.var (.agg [.v (.int .i64 x4), .v (.int .i64 x5), .v (.int .i64 x6)])), some (.map (Ty.str) (Ty.int IntKind.i64) x7), some (.row (Ty.int IntKind.i64) 3 x8)]⟩) => some ((x0, x1, x2, x3, x4, x5, x6, x7, x8))
  | _ => none

theorem D135_250_ok : ∀ y r, D135_250 y = some r → ∀ z, (O135_250 r).to z → y = z := by
  intro y r h
  unfold D135_250 at h
  split at h <;> first | (cases h; intro z hz; exact Option.some.inj hz) | cases h

noncomputable def B135_250 (N : Nat) (f : (Int × Int × Bool × Int × ByteArray × Int × Int × Int × Int × Int × Int × (List (ByteArray × Int)) × (List Int)) → Option (ByteArray × Int × Int × Int × Int × Int × Int × (List (ByteArray × Int)) × (List Int))) : (Int × Int × Bool × Int × ByteArray × Int × Int × Int × Int × Int × Int × (List (ByteArray × Int)) × (List Int)) → Option (ByteArray × Int × Int × Int × Int × Int × Int × (List (ByteArray × Int)) × (List Int))
  | (x0, x1, x2, x3, x4, x5, x6, x7, x8, x9, x10, x11, x12) =>
  iteP (x2) (
    iteP (decide (x1 < (64 : Int))) (
      iteP (decide (x0 ≥ (0 : Int))) (
        iteP (decide (IntKind.wrap IntKind.i64 (x3 - x0) ≤ (32768 : Int))) (
          Option.bind (F159 N (x0, x3, x4, x11, x12)) fun y0 =>
          iteP (decide (Prod.fst y0 > x9)) (
            iteP (within x0 (List.length (Prod.snd (Prod.snd (Prod.snd y0))))) (
              Option.bind ((Prod.snd (Prod.snd (Prod.snd y0)))[Int.toNat x0]?) fun y1 =>
              Option.bind (f (y1, IntKind.wrap IntKind.i64 (x1 + (1 : Int)), x2, x3, Prod.fst (Prod.snd y0), x5, x6, x7, (0 : Int), Prod.fst y0, IntKind.wrap IntKind.i64 (x3 - x0), Prod.fst (Prod.snd (Prod.snd y0)), Prod.snd (Prod.snd (Prod.snd y0)))) fun r => some r) (
              none)) (
            iteP (within x0 (List.length (Prod.snd (Prod.snd (Prod.snd y0))))) (
              Option.bind ((Prod.snd (Prod.snd (Prod.snd y0)))[Int.toNat x0]?) fun y2 =>
              Option.bind (f (y2, IntKind.wrap IntKind.i64 (x1 + (1 : Int)), x2, x3, Prod.fst (Prod.snd y0), x5, x6, x7, x8, x9, x10, Prod.fst (Prod.snd (Prod.snd y0)), Prod.snd (Prod.snd (Prod.snd y0)))) fun r => some r) (
              none))) (
          some ((x4, x8, x9, x10, x5, x6, x7, x11, x12)))) (
        some ((x4, x8, x9, x10, x5, x6, x7, x11, x12)))) (
      some ((x4, x8, x9, x10, x5, x6, x7, x11, x12)))) (
    some ((x4, x8, x9, x10, x5, x6, x7, x11, x12)))

noncomputable def F135_250 (N : Nat) : Nat → (Int × Int × Bool × Int × ByteArray × Int × Int × Int × Int × Int × Int × (List (ByteArray × Int)) × (List Int)) → Option (ByteArray × Int × Int × Int × Int × Int × Int × (List (ByteArray × Int)) × (List Int))
  | 0, _ => none
  | k + 1, x => B135_250 N (F135_250 N k) x

noncomputable def C135_250 (N : Nat) (k : Nat) : Cut := ⟨[7, 9, 8, 4, 1, 6, 0], X135_250, tellX I135_250 (F135_250 N k) O135_250⟩

theorem B135_250_eq (N : Nat) (f : (Int × Int × Bool × Int × ByteArray × Int × Int × Int × Int × Int × Int × (List (ByteArray × Int)) × (List Int)) → Option (ByteArray × Int × Int × Int × Int × Int × Int × (List (ByteArray × Int)) × (List Int))) (x0 : Int) (x1 : Int) (x2 : Bool) (x3 : Int) (x4 : ByteArray) (x5 : Int) (x6 : Int) (x7 : Int) (x8 : Int) (x9 : Int) (x10 : Int) (x11 : (List (ByteArray × Int))) (x12 : (List Int)) : (roundEv (mkE Tryz.prog ownT (tab135 N) []) Tryz.f135.ntmps A135 (loopAt (bod Tryz.f135) 250) 250 ⟨[7, 9, 8, 4, 1, 6, 0], X135_250, tellX I135_250 f O135_250⟩ (J135_250 (x0, x1, x2, x3, x4, x5, x6, x7, x8, x9, x10, x11, x12))).run D135_250 = B135_250 N f (x0, x1, x2, x3, x4, x5, x6, x7, x8, x9, x10, x11, x12) := by kernel_rfl

theorem C135_250_ok (N : Nat) (k : Nat) : ∀ c', At (bod Tryz.f135) 250 c' → CutOK Tryz.prog Tryz.f135.ntmps (idsL A135) c' (C135_250 N k) :=
  loop_ok (E := (mkE Tryz.prog ownT (tab135 N) [])) (mkE_ok mix (tab135_ok N)) (cutsIn_ok trivial) (fuel := 200) (by decide +kernel) (by kernel_rfl) I135_250_ok D135_250_ok (B135_250 N) (F135_250 N) (fun _ => rfl) (fun _ _ => rfl) (fun f x => match x with | (x0, x1, x2, x3, x4, x5, x6, x7, x8, x9, x10, x11, x12) => B135_250_eq N f x0 x1 x2 x3 x4 x5 x6 x7 x8 x9 x10 x11 x12) k

noncomputable def O135 (r : Int × Int × Int × Bool × ByteArray × (List (ByteArray × Int)) × (List Int)) : Tr (Pk) := .ret ⟨[.tup [.agg [.v (.int .i64 (r.1)), .v (.int .i64 (r.2.1)), .v (.int .i64 (r.2.2.1))], .v (.bool (r.2.2.2.1))]], [some (.var (.agg [.v (.string (r.2.2.2.2.1)), .mp 1, .sl 2 (none)])), some (.map (Ty.str) (Ty.int IntKind.i64) (r.2.2.2.2.2.1)), some (.row (Ty.int IntKind.i64) 3 (r.2.2.2.2.2.2))]⟩

noncomputable def D135 : Pk → Option (Int × Int × Int × Bool × ByteArray × (List (ByteArray × Int)) × (List Int))
  | ⟨[.tup [.agg [.v (.int .i64 x0), .v (.int .i64 x1), .v (.int .i64 x2)], .v (.bool x3)]], [some (.var (.agg [.v (.string x4), .mp 1, .sl 2 (none)])), some (.map (Ty.str) (Ty.int IntKind.i64) x5), some (.row (Ty.int IntKind.i64) 3 x6)]⟩ => some ((x0, x1, x2, x3, x4, x5, x6))
  | _ => none

theorem D135_ok : ∀ y r, D135 y = some r → ∀ z, (O135 r).to z → y = z := by
  intro y r h
  unfold D135 at h
  split at h <;> first | (cases h; intro z hz; exact Option.some.inj hz) | cases h

noncomputable def F135 (N : Nat) : (Int × ByteArray × (List (ByteArray × Int)) × (List Int)) → Option (Int × Int × Int × Bool × ByteArray × (List (ByteArray × Int)) × (List Int))
  | (x0, x1, x2, x3) =>
  iteP (decide (IntKind.wrap IntKind.i64 (x0 + (3 : Int)) > (↑(ByteArray.size x1) : Int))) (
    some (((0 : Int), (0 : Int), (0 : Int), false, x1, x2, x3))) (
    iteP (decide ((0 : Int) ≤ IntKind.wrap IntKind.i64 (x0 + (3 : Int)) ∧ IntKind.wrap IntKind.i64 (x0 + (3 : Int)) ≤ (↑(ByteArray.size x1) : Int))) (
      iteP (decide ((0 : Int) ≤ x0 ∧ x0 ≤ (↑(Int.toNat (IntKind.wrap IntKind.i64 (x0 + (3 : Int)))) : Int))) (
        Option.bind (F135_250 N N (mapGet Ty.str (ByteArray.extract x1 (Int.toNat x0) (Int.toNat (IntKind.wrap IntKind.i64 (x0 + (3 : Int))))) (0 : Int) x2, (0 : Int), mapHas Ty.str (ByteArray.extract x1 (Int.toNat x0) (Int.toNat (IntKind.wrap IntKind.i64 (x0 + (3 : Int))))) x2, x0, x1, (0 : Int), (0 : Int), (0 : Int), (0 : Int), (0 : Int), (0 : Int), x2, x3)) fun y0 =>
        some ((Prod.fst (Prod.snd y0), Prod.fst (Prod.snd (Prod.snd y0)), Prod.fst (Prod.snd (Prod.snd (Prod.snd y0))), decide (Prod.fst (Prod.snd (Prod.snd y0)) ≥ (3 : Int)), Prod.fst y0, Prod.fst (Prod.snd (Prod.snd (Prod.snd (Prod.snd (Prod.snd (Prod.snd (Prod.snd y0))))))), Prod.snd (Prod.snd (Prod.snd (Prod.snd (Prod.snd (Prod.snd (Prod.snd (Prod.snd y0)))))))))) (
        none)) (
      none))

theorem F135_eq (N : Nat) (x0 : Int) (x1 : ByteArray) (x2 : (List (ByteArray × Int))) (x3 : (List Int)) : (fnEv (mkE Tryz.prog ownT (tab135 N) [(250, (C135_250 N N))]) Tryz.f135 (J135 (x0, x1, x2, x3))).run D135 = F135 N (x0, x1, x2, x3) := by kernel_rfl

noncomputable def T135 (N : Nat) : Pk → Tr Pk := tell I135 (F135 N) O135

theorem T135_ok (N : Nat) : FOK Tryz.prog 135 (T135 N) :=
  (tell_ok (E := (mkE Tryz.prog ownT (tab135 N) [(250, (C135_250 N N))])) (mkE_ok mix (tab135_ok N)) Tryz.func135 (show Tryz.f135.body = some (bod Tryz.f135) by kernel_rfl) (by decide +kernel) (F := F135 N) I135_ok D135_ok (args := A135) (fun _ => by kernel_rfl) (fun _ => by show 2 ≤ Tryz.f135.ntmps; exact of_decide_eq_true (by kernel_rfl)) (cutsIn_ok ⟨fun c' h => (C135_250_ok N N c' h), trivial⟩) (fun x => match x with | (x0, x1, x2, x3) => F135_eq N x0 x1 x2 x3))


end Go.Proofs.YteddgkplkjldcaaGreat.Am

set_option linter.unusedVariables false
set_option maxRecDepth 100000
namespace Go.Proofs.YteddgkplkjldcaaGreat.Am
open Go.Am

/-! ## f110: mirador/lz.Pack -/

noncomputable def I110 : Pk → Option (ByteArray × ByteArray)
  | ⟨[.v (.string x0), .v (.string x1)], []⟩ => some (x0, x1)
  | _ => none

noncomputable def J110 (x : ByteArray × ByteArray) : Pk := ⟨[.v (.string (x.1)), .v (.string (x.2))], []⟩

theorem I110_ok : ∀ pk x, I110 pk = some x → pk = J110 x := by
  intro pk x h
  unfold I110 at h
  split at h <;> first | (cases h; rfl) | cases h

noncomputable def A110 : List TV := []

noncomputable def tab110 (N : Nat) : List (Nat × (Pk → Tr Pk)) := [(88, T88 N), (134, T134 N), (135, T135 N)]

theorem tab110_ok (N : Nat) : TabOK Tryz.prog (tab110 N) := ⟨T88_ok N, ⟨T134_ok N, ⟨T135_ok N, trivial⟩⟩⟩

def X110_122 : Ex → List Nat
  | .ret => [4]
  | .exit 0 => [5, 6]
  | _ => []

def X110_129630 : Ex → List Nat
  | .ret => [4]
  | .exit 4 => [8, 9, 6]
  | .exit 3 => [8, 9, 6]
  | .exit 2 => [8]
  | _ => []

def X110_506 : Ex → List Nat
  | .ret => [4]
  | .exit 2 => [8]
  | _ => []

noncomputable def I110_122 : Pk → Option (Int × Int × ByteArray × ByteArray × (List (ByteArray × Int)) × (List Int))
  | ⟨[.v (.int .i64 x0), .v (.int .i64 x1), .v (.string x2), .adr 0 []], [some (.var (.agg [.v (.string x3), .mp 1, .sl 2 (none)])), some (.map (Ty.str) (Ty.int IntKind.i64) x4), some (.row (Ty.int IntKind.i64) 3 x5)]⟩ => some (x0, x1, x2, x3, x4, x5)
  | _ => none

noncomputable def J110_122 (x : Int × Int × ByteArray × ByteArray × (List (ByteArray × Int)) × (List Int)) : Pk := ⟨[.v (.int .i64 (x.1)), .v (.int .i64 (x.2.1)), .v (.string (x.2.2.1)), .adr 0 []], [some (.var (.agg [.v (.string (x.2.2.2.1)), .mp 1, .sl 2 (none)])), some (.map (Ty.str) (Ty.int IntKind.i64) (x.2.2.2.2.1)), some (.row (Ty.int IntKind.i64) 3 (x.2.2.2.2.2))]⟩

theorem I110_122_ok : ∀ pk x, I110_122 pk = some x → pk = J110_122 x := by
  intro pk x h
  unfold I110_122 at h
  split at h <;> first | (cases h; rfl) | cases h

noncomputable def O110_122 (r : ByteArray × ByteArray × (List (ByteArray × Int)) × (List Int)) : Tr (Ex × Pk) := .ret (.exit 0, ⟨[.v (.string (r.1)), .adr 0 []], [some (.var (.agg [.v (.string (r.2.1)), .mp 1, .sl 2 (none)])), some (.map (Ty.str) (Ty.int IntKind.i64) (r.2.2.1)), some (.row (Ty.int IntKind.i64) 3 (r.2.2.2))]⟩)

noncomputable def D110_122 : Ex × Pk → Option (ByteArray × ByteArray × (List (ByteArray × Int)) × (List Int))
  | (.exit 0, ⟨[.v (.string x0), .adr 0 []], [some (.var (.agg [.v (.string x1), .mp 1, .sl 2 (none)])), some (.map (Ty.str) (Ty.int IntKind.i64) x2), some (.row (Ty.int IntKind.i64) 3 x3)]⟩) => some ((x0, x1, x2, x3))
  | _ => none

theorem D110_122_ok : ∀ y r, D110_122 y = some r → ∀ z, (O110_122 r).to z → y = z := by
  intro y r h
  unfold D110_122 at h
  split at h <;> first | (cases h; intro z hz; exact Option.some.inj hz) | cases h

noncomputable def B110_122 (N : Nat) (f : (Int × Int × ByteArray × ByteArray × (List (ByteArray × Int)) × (List Int)) → Option (ByteArray × ByteArray × (List (ByteArray × Int)) × (List Int))) : (Int × Int × ByteArray × ByteArray × (List (ByteArray × Int)) × (List Int)) → Option (ByteArray × ByteArray × (List (ByteArray × Int)) × (List Int))
  | (x0, x1, x2, x3, x4, x5) =>
  iteP (decide (x0 < x1)) (
    Option.bind (F134 N (x0, x3, x4, x5)) fun y0 =>
    Option.bind (f (IntKind.wrap IntKind.i64 (x0 + (1 : Int)), x1, x2, Prod.fst y0, Prod.fst (Prod.snd y0), Prod.snd (Prod.snd y0))) fun r => some r) (
    some ((x2, x3, x4, x5)))

noncomputable def F110_122 (N : Nat) : Nat → (Int × Int × ByteArray × ByteArray × (List (ByteArray × Int)) × (List Int)) → Option (ByteArray × ByteArray × (List (ByteArray × Int)) × (List Int))
  | 0, _ => none
  | k + 1, x => B110_122 N (F110_122 N k) x

noncomputable def C110_122 (N : Nat) (k : Nat) : Cut := ⟨[22, 21, 5, 6], X110_122, tellX I110_122 (F110_122 N k) O110_122⟩

theorem B110_122_eq (N : Nat) (f : (Int × Int × ByteArray × ByteArray × (List (ByteArray × Int)) × (List Int)) → Option (ByteArray × ByteArray × (List (ByteArray × Int)) × (List Int))) (x0 : Int) (x1 : Int) (x2 : ByteArray) (x3 : ByteArray) (x4 : (List (ByteArray × Int))) (x5 : (List Int)) : (roundEv (mkE Tryz.prog ownT (tab110 N) []) Tryz.f110.ntmps A110 (loopAt (bod Tryz.f110) 122) 122 ⟨[22, 21, 5, 6], X110_122, tellX I110_122 f O110_122⟩ (J110_122 (x0, x1, x2, x3, x4, x5))).run D110_122 = B110_122 N f (x0, x1, x2, x3, x4, x5) := by kernel_rfl

theorem C110_122_ok (N : Nat) (k : Nat) : ∀ c', At (bod Tryz.f110) 122 c' → CutOK Tryz.prog Tryz.f110.ntmps (idsL A110) c' (C110_122 N k) :=
  loop_ok (E := (mkE Tryz.prog ownT (tab110 N) [])) (mkE_ok mix (tab110_ok N)) (cutsIn_ok trivial) (fuel := 200) (by decide +kernel) (by kernel_rfl) I110_122_ok D110_122_ok (B110_122 N) (F110_122 N) (fun _ => rfl) (fun _ _ => rfl) (fun f x => match x with | (x0, x1, x2, x3, x4, x5) => B110_122_eq N f x0 x1 x2 x3 x4 x5) k

noncomputable def I110_506 : Pk → Option (Int × (List (Int × (Int × (Int × Unit)))) × ByteArray × (List (ByteArray × Int)) × (List Int))
  | ⟨[.sl 0 (none), .v (.int .i64 x0), .adr 1 []], [some (.row (Ty.cons (Ty.int IntKind.i64) (Ty.cons (Ty.int IntKind.i64) (Ty.cons (Ty.int IntKind.i64) Ty.unit))) 52 x1), some (.var (.agg [.v (.string x2), .mp 2, .sl 3 (none)])), some (.map (Ty.str) (Ty.int IntKind.i64) x3), some (.row (Ty.int IntKind.i64) 3 x4)]⟩ => some (x0, x1, x2, x3, x4)
  | _ => none

noncomputable def J110_506 (x : Int × (List (Int × (Int × (Int × Unit)))) × ByteArray × (List (ByteArray × Int)) × (List Int)) : Pk := ⟨[.sl 0 (none), .v (.int .i64 (x.1)), .adr 1 []], [some (.row (Ty.cons (Ty.int IntKind.i64) (Ty.cons (Ty.int IntKind.i64) (Ty.cons (Ty.int IntKind.i64) Ty.unit))) 52 (x.2.1)), some (.var (.agg [.v (.string (x.2.2.1)), .mp 2, .sl 3 (none)])), some (.map (Ty.str) (Ty.int IntKind.i64) (x.2.2.2.1)), some (.row (Ty.int IntKind.i64) 3 (x.2.2.2.2))]⟩

theorem I110_506_ok : ∀ pk x, I110_506 pk = some x → pk = J110_506 x := by
  intro pk x h
  unfold I110_506 at h
  split at h <;> first | (cases h; rfl) | cases h

noncomputable def I110_129630 : Pk → Option (Int × Int × Int × (List (Int × (Int × (Int × Unit)))) × ByteArray × (List (ByteArray × Int)) × (List Int))
  | ⟨[.v (.int .i64 x0), .v (.int .i64 x1), .v (.int .i64 x2), .sl 0 (none), .adr 1 []], [some (.row (Ty.cons (Ty.int IntKind.i64) (Ty.cons (Ty.int IntKind.i64) (Ty.cons (Ty.int IntKind.i64) Ty.unit))) 52 x3), some (.var (.agg [.v (.string x4), .mp 2, .sl 3 (none)])), some (.map (Ty.str) (Ty.int IntKind.i64) x5), some (.row (Ty.int IntKind.i64) 3 x6)]⟩ => some (x0, x1, x2, x3, x4, x5, x6)
  | _ => none

noncomputable def J110_129630 (x : Int × Int × Int × (List (Int × (Int × (Int × Unit)))) × ByteArray × (List (ByteArray × Int)) × (List Int)) : Pk := ⟨[.v (.int .i64 (x.1)), .v (.int .i64 (x.2.1)), .v (.int .i64 (x.2.2.1)), .sl 0 (none), .adr 1 []], [some (.row (Ty.cons (Ty.int IntKind.i64) (Ty.cons (Ty.int IntKind.i64) (Ty.cons (Ty.int IntKind.i64) Ty.unit))) 52 (x.2.2.2.1)), some (.var (.agg [.v (.string (x.2.2.2.2.1)), .mp 2, .sl 3 (none)])), some (.map (Ty.str) (Ty.int IntKind.i64) (x.2.2.2.2.2.1)), some (.row (Ty.int IntKind.i64) 3 (x.2.2.2.2.2.2))]⟩

theorem I110_129630_ok : ∀ pk x, I110_129630 pk = some x → pk = J110_129630 x := by
  intro pk x h
  unfold I110_129630 at h
  split at h <;> first | (cases h; rfl) | cases h

noncomputable def O110_129630 (r : Int × (List (Int × (Int × (Int × Unit)))) × ByteArray × (List (ByteArray × Int)) × (List Int)) : Tr (Ex × Pk) := .ret (.exit 4, ⟨[.sl 0 (none), .v (.int .i64 (r.1)), .adr 1 []], [some (.row (Ty.cons (Ty.int IntKind.i64) (Ty.cons (Ty.int IntKind.i64) (Ty.cons (Ty.int IntKind.i64) Ty.unit))) 52 (r.2.1)), some (.var (.agg [.v (.string (r.2.2.1)), .mp 2, .sl 3 (none)])), some (.map (Ty.str) (Ty.int IntKind.i64) (r.2.2.2.1)), some (.row (Ty.int IntKind.i64) 3 (r.2.2.2.2))]⟩)

noncomputable def D110_129630 : Ex × Pk → Option (Int × (List (Int × (Int × (Int × Unit)))) × ByteArray × (List (ByteArray × Int)) × (List Int))
  | (.exit 4, ⟨[.sl 0 (none), .v (.int .i64 x0), .adr 1 []], [some (.row (Ty.cons (Ty.int IntKind.i64) (Ty.cons (Ty.int IntKind.i64) (Ty.cons (Ty.int IntKind.i64) Ty.unit))) 52 x1), some (.var (.agg [.v (.string x2), .mp 2, .sl 3 (none)])), some (.map (Ty.str) (Ty.int IntKind.i64) x3), some (.row (Ty.int IntKind.i64) 3 x4)]⟩) => some ((x0, x1, x2, x3, x4))
  | _ => none

theorem D110_129630_ok : ∀ y r, D110_129630 y = some r → ∀ z, (O110_129630 r).to z → y = z := by
  intro y r h
  unfold D110_129630 at h
  split at h <;> first | (cases h; intro z hz; exact Option.some.inj hz) | cases h

noncomputable def B110_129630 (N : Nat) (f : (Int × Int × Int × (List (Int × (Int × (Int × Unit)))) × ByteArray × (List (ByteArray × Int)) × (List Int)) → Option (Int × (List (Int × (Int × (Int × Unit)))) × ByteArray × (List (ByteArray × Int)) × (List Int))) : (Int × Int × Int × (List (Int × (Int × (Int × Unit)))) × ByteArray × (List (ByteArray × Int)) × (List Int)) → Option (Int × (List (Int × (Int × (Int × Unit)))) × ByteArray × (List (ByteArray × Int)) × (List Int))
  | (x0, x1, x2, x3, x4, x5, x6) =>
  iteP (decide (x1 < x2)) (
    Option.bind (F134 N (x0, x4, x5, x6)) fun y0 =>
    Option.bind (f (IntKind.wrap IntKind.i64 (x0 + (1 : Int)), IntKind.wrap IntKind.i64 (x1 + (1 : Int)), x2, x3, Prod.fst y0, Prod.fst (Prod.snd y0), Prod.snd (Prod.snd y0))) fun r => some r) (
    some ((x0, x3, x4, x5, x6)))

noncomputable def F110_129630 (N : Nat) : Nat → (Int × Int × Int × (List (Int × (Int × (Int × Unit)))) × ByteArray × (List (ByteArray × Int)) × (List Int)) → Option (Int × (List (Int × (Int × (Int × Unit)))) × ByteArray × (List (ByteArray × Int)) × (List Int))
  | 0, _ => none
  | k + 1, x => B110_129630 N (F110_129630 N k) x

noncomputable def C110_129630 (N : Nat) (k : Nat) : Cut := ⟨[9, 61, 60, 8, 6], X110_129630, tellX I110_129630 (F110_129630 N k) O110_129630⟩

theorem B110_129630_eq (N : Nat) (f : (Int × Int × Int × (List (Int × (Int × (Int × Unit)))) × ByteArray × (List (ByteArray × Int)) × (List Int)) → Option (Int × (List (Int × (Int × (Int × Unit)))) × ByteArray × (List (ByteArray × Int)) × (List Int))) (x0 : Int) (x1 : Int) (x2 : Int) (x3 : (List (Int × (Int × (Int × Unit))))) (x4 : ByteArray) (x5 : (List (ByteArray × Int))) (x6 : (List Int)) : (roundEv (mkE Tryz.prog ownT (tab110 N) [(122, (C110_122 N N))]) Tryz.f110.ntmps A110 (loopAt (bod Tryz.f110) 129630) 129630 ⟨[9, 61, 60, 8, 6], X110_129630, tellX I110_129630 f O110_129630⟩ (J110_129630 (x0, x1, x2, x3, x4, x5, x6))).run D110_129630 = B110_129630 N f (x0, x1, x2, x3, x4, x5, x6) := by kernel_rfl

theorem C110_129630_ok (N : Nat) (k : Nat) : ∀ c', At (bod Tryz.f110) 129630 c' → CutOK Tryz.prog Tryz.f110.ntmps (idsL A110) c' (C110_129630 N k) :=
  loop_ok (E := (mkE Tryz.prog ownT (tab110 N) [(122, (C110_122 N N))])) (mkE_ok mix (tab110_ok N)) (cutsIn_ok ⟨fun c' h => (C110_122_ok N N c' h), trivial⟩) (fuel := 200) (by decide +kernel) (by kernel_rfl) I110_129630_ok D110_129630_ok (B110_129630 N) (F110_129630 N) (fun _ => rfl) (fun _ _ => rfl) (fun f x => match x with | (x0, x1, x2, x3, x4, x5, x6) => B110_129630_eq N f x0 x1 x2 x3 x4 x5 x6) k

noncomputable def O110_506 (r : (List (Int × (Int × (Int × Unit))))) : Tr (Ex × Pk) := .ret (.exit 2, ⟨[.sl 0 (none)], [some (.row (Ty.cons (Ty.int IntKind.i64) (Ty.cons (Ty.int IntKind.i64) (Ty.cons (Ty.int IntKind.i64) Ty.unit))) 52 (r))]⟩)

noncomputable def D110_506 : Ex × Pk → Option ((List (Int × (Int × (Int × Unit)))))
  | (.exit 2, ⟨[.sl 0 (none)], [some (.row (Ty.cons (Ty.int IntKind.i64) (Ty.cons (Ty.int IntKind.i64) (Ty.cons (Ty.int IntKind.i64) Ty.unit))) 52 x0)]⟩) => some (x0)
  | _ => none

theorem D110_506_ok : ∀ y r, D110_506 y = some r → ∀ z, (O110_506 r).to z → y = z := by
  intro y r h
  unfold D110_506 at h
  split at h <;> first | (cases h; intro z hz; exact Option.some.inj hz) | cases h

noncomputable def B110_506 (N : Nat) (f : (Int × (List (Int × (Int × (Int × Unit)))) × ByteArray × (List (ByteArray × Int)) × (List Int)) → Option ((List (Int × (Int × (Int × Unit)))))) : (Int × (List (Int × (Int × (Int × Unit)))) × ByteArray × (List (ByteArray × Int)) × (List Int)) → Option ((List (Int × (Int × (Int × Unit)))))
  | (x0, x1, x2, x3, x4) =>
  iteP (decide (x0 < (↑(ByteArray.size x2) : Int))) (
    Option.bind (F135 N (x0, x2, x3, x4)) fun y0 =>
    iteP (!Prod.fst (Prod.snd (Prod.snd (Prod.snd y0)))) (
      iteP (decide ((0 : Int) ≤ x0)) (
        Option.bind ((Prod.fst (Prod.snd (Prod.snd (Prod.snd (Prod.snd y0)))))[Int.toNat x0]?) fun y1 =>
        iteP (decide ((List.length x1 + List.length [(IntKind.wrap IntKind.i64 (↑(UInt8.toNat y1) : Int), (0 : Int), (0 : Int), ())]) * (24 : Nat) ≤ (140737488355328 : Nat) ∧ List.length x1 + List.length [(IntKind.wrap IntKind.i64 (↑(UInt8.toNat y1) : Int), (0 : Int), (0 : Int), ())] ≤ (140737488355328 : Nat))) (
          Option.bind (F110_129630 N N (x0, (0 : Int), (1 : Int), x1 ++ [(IntKind.wrap IntKind.i64 (↑(UInt8.toNat y1) : Int), (0 : Int), (0 : Int), ())], Prod.fst (Prod.snd (Prod.snd (Prod.snd (Prod.snd y0)))), Prod.fst (Prod.snd (Prod.snd (Prod.snd (Prod.snd (Prod.snd y0))))), Prod.snd (Prod.snd (Prod.snd (Prod.snd (Prod.snd (Prod.snd y0))))))) fun y2 =>
          Option.bind (f (Prod.fst y2, Prod.fst (Prod.snd y2), Prod.fst (Prod.snd (Prod.snd y2)), Prod.fst (Prod.snd (Prod.snd (Prod.snd y2))), Prod.snd (Prod.snd (Prod.snd (Prod.snd y2))))) fun r => some r) (
          none)) (
        none)) (
      iteP (decide ((List.length x1 + List.length [(Prod.fst y0, Prod.fst (Prod.snd y0), Prod.fst (Prod.snd (Prod.snd y0)), ())]) * (24 : Nat) ≤ (140737488355328 : Nat) ∧ List.length x1 + List.length [(Prod.fst y0, Prod.fst (Prod.snd y0), Prod.fst (Prod.snd (Prod.snd y0)), ())] ≤ (140737488355328 : Nat))) (
        Option.bind (F110_129630 N N (x0, (0 : Int), if (1 : Int) > Prod.fst (Prod.snd y0) then (1 : Int) else Prod.fst (Prod.snd y0), x1 ++ [(Prod.fst y0, Prod.fst (Prod.snd y0), Prod.fst (Prod.snd (Prod.snd y0)), ())], Prod.fst (Prod.snd (Prod.snd (Prod.snd (Prod.snd y0)))), Prod.fst (Prod.snd (Prod.snd (Prod.snd (Prod.snd (Prod.snd y0))))), Prod.snd (Prod.snd (Prod.snd (Prod.snd (Prod.snd (Prod.snd y0))))))) fun y3 =>
        Option.bind (f (Prod.fst y3, Prod.fst (Prod.snd y3), Prod.fst (Prod.snd (Prod.snd y3)), Prod.fst (Prod.snd (Prod.snd (Prod.snd y3))), Prod.snd (Prod.snd (Prod.snd (Prod.snd y3))))) fun r => some r) (
        none))) (
    some (x1))

noncomputable def F110_506 (N : Nat) : Nat → (Int × (List (Int × (Int × (Int × Unit)))) × ByteArray × (List (ByteArray × Int)) × (List Int)) → Option ((List (Int × (Int × (Int × Unit)))))
  | 0, _ => none
  | k + 1, x => B110_506 N (F110_506 N k) x

noncomputable def C110_506 (N : Nat) (k : Nat) : Cut := ⟨[8, 9, 6], X110_506, tellX I110_506 (F110_506 N k) O110_506⟩

theorem B110_506_eq (N : Nat) (f : (Int × (List (Int × (Int × (Int × Unit)))) × ByteArray × (List (ByteArray × Int)) × (List Int)) → Option ((List (Int × (Int × (Int × Unit)))))) (x0 : Int) (x1 : (List (Int × (Int × (Int × Unit))))) (x2 : ByteArray) (x3 : (List (ByteArray × Int))) (x4 : (List Int)) : (roundEv (mkE Tryz.prog ownT (tab110 N) [(122, (C110_122 N N)), (129630, (C110_129630 N N))]) Tryz.f110.ntmps A110 (loopAt (bod Tryz.f110) 506) 506 ⟨[8, 9, 6], X110_506, tellX I110_506 f O110_506⟩ (J110_506 (x0, x1, x2, x3, x4))).run D110_506 = B110_506 N f (x0, x1, x2, x3, x4) := by kernel_rfl

theorem C110_506_ok (N : Nat) (k : Nat) : ∀ c', At (bod Tryz.f110) 506 c' → CutOK Tryz.prog Tryz.f110.ntmps (idsL A110) c' (C110_506 N k) :=
  loop_ok (E := (mkE Tryz.prog ownT (tab110 N) [(122, (C110_122 N N)), (129630, (C110_129630 N N))])) (mkE_ok mix (tab110_ok N)) (cutsIn_ok ⟨fun c' h => (C110_122_ok N N c' h), ⟨fun c' h => (C110_129630_ok N N c' h), trivial⟩⟩) (fuel := 200) (by decide +kernel) (by kernel_rfl) I110_506_ok D110_506_ok (B110_506 N) (F110_506 N) (fun _ => rfl) (fun _ _ => rfl) (fun f x => match x with | (x0, x1, x2, x3, x4) => B110_506_eq N f x0 x1 x2 x3 x4) k

noncomputable def O110 (r : (List (Int × (Int × (Int × Unit))))) : Tr (Pk) := .ret ⟨[.sl 0 (none)], [some (.row (Ty.cons (Ty.int IntKind.i64) (Ty.cons (Ty.int IntKind.i64) (Ty.cons (Ty.int IntKind.i64) Ty.unit))) 52 (r))]⟩

noncomputable def D110 : Pk → Option ((List (Int × (Int × (Int × Unit)))))
  | ⟨[.sl 0 (none)], [some (.row (Ty.cons (Ty.int IntKind.i64) (Ty.cons (Ty.int IntKind.i64) (Ty.cons (Ty.int IntKind.i64) Ty.unit))) 52 x0)]⟩ => some (x0)
  | _ => none

theorem D110_ok : ∀ y r, D110 y = some r → ∀ z, (O110 r).to z → y = z := by
  intro y r h
  unfold D110 at h
  split at h <;> first | (cases h; intro z hz; exact Option.some.inj hz) | cases h

noncomputable def F110 (N : Nat) : (ByteArray × ByteArray) → Option ((List (Int × (Int × (Int × Unit)))))
  | (x0, x1) =>
  Option.bind (F88 N x0) fun y0 =>
  iteP (decide ((↑(ByteArray.size y0 + ByteArray.size x1) : Int) > (9223372036854775807 : Int))) (
    none) (
    Option.bind (F110_122 N N ((0 : Int), (↑(ByteArray.size y0) : Int), y0, y0 ++ x1, [], [])) fun y1 =>
    Option.bind (F110_506 N N ((↑(ByteArray.size (Prod.fst y1)) : Int), [], Prod.fst (Prod.snd y1), Prod.fst (Prod.snd (Prod.snd y1)), Prod.snd (Prod.snd (Prod.snd y1)))) fun y2 =>
    some (y2))

theorem F110_eq (N : Nat) (x0 : ByteArray) (x1 : ByteArray) : (fnEv (mkE Tryz.prog ownT (tab110 N) [(122, (C110_122 N N)), (129630, (C110_129630 N N)), (506, (C110_506 N N))]) Tryz.f110 (J110 (x0, x1))).run D110 = F110 N (x0, x1) := by kernel_rfl

noncomputable def T110 (N : Nat) : Pk → Tr Pk := tell I110 (F110 N) O110

theorem T110_ok (N : Nat) : FOK Tryz.prog 110 (T110 N) :=
  (tell_ok (E := (mkE Tryz.prog ownT (tab110 N) [(122, (C110_122 N N)), (129630, (C110_129630 N N)), (506, (C110_506 N N))])) (mkE_ok mix (tab110_ok N)) Tryz.func110 (show Tryz.f110.body = some (bod Tryz.f110) by kernel_rfl) (by decide +kernel) (F := F110 N) I110_ok D110_ok (args := A110) (fun _ => by kernel_rfl) (fun _ => by show 2 ≤ Tryz.f110.ntmps; exact of_decide_eq_true (by kernel_rfl)) (cutsIn_ok ⟨fun c' h => (C110_122_ok N N c' h), ⟨fun c' h => (C110_129630_ok N N c' h), ⟨fun c' h => (C110_506_ok N N c' h), trivial⟩⟩⟩) (fun x => match x with | (x0, x1) => F110_eq N x0 x1))

/-! ## f18: (*mirador/bitio.Writer).Len -/

noncomputable def I18 : Pk → Option (((List Int) × (Int × (Int × Unit))))
  | ⟨[.radr (.cons (.sl (.int .u8)) (.cons (.int .i64) (.cons (.int .i64) .unit))) [x0] [.i 0 3]], []⟩ => some x0
  | _ => none

noncomputable def J18 (x : ((List Int) × (Int × (Int × Unit)))) : Pk := ⟨[.radr (.cons (.sl (.int .u8)) (.cons (.int .i64) (.cons (.int .i64) .unit))) [(x)] [.i 0 3]], []⟩

theorem I18_ok : ∀ pk x, I18 pk = some x → pk = J18 x := by
  intro pk x h
  unfold I18 at h
  split at h <;> first | (cases h; rfl) | cases h

noncomputable def A18 : List TV := []

noncomputable def tab18 (N : Nat) : List (Nat × (Pk → Tr Pk)) := []

theorem tab18_ok (N : Nat) : TabOK Tryz.prog (tab18 N) := trivial

noncomputable def O18 (r : Int) : Tr (Pk) := .ret ⟨[.v (.int .i64 (r))], []⟩

noncomputable def D18 : Pk → Option (Int)
  | ⟨[.v (.int .i64 x0)], []⟩ => some (x0)
  | _ => none

theorem D18_ok : ∀ y r, D18 y = some r → ∀ z, (O18 r).to z → y = z := by
  intro y r h
  unfold D18 at h
  split at h <;> first | (cases h; intro z hz; exact Option.some.inj hz) | cases h

noncomputable def F18 (N : Nat) : (((List Int) × (Int × (Int × Unit)))) → Option (Int)
  | x0 =>
  some (IntKind.wrap IntKind.i64 (IntKind.wrap IntKind.i64 ((8 : Int) * (↑(List.length (Prod.fst x0)) : Int)) + Prod.fst (Prod.snd (Prod.snd x0))))

theorem F18_eq (N : Nat) (x0 : ((List Int) × (Int × (Int × Unit)))) : (fnEv (mkE Tryz.prog ownT (tab18 N) []) Tryz.f18 (J18 x0)).run D18 = F18 N x0 := by kernel_rfl

noncomputable def T18 (N : Nat) : Pk → Tr Pk := tell I18 (F18 N) O18

theorem T18_ok (N : Nat) : FOK Tryz.prog 18 (T18 N) :=
  (tell_ok (E := (mkE Tryz.prog ownT (tab18 N) [])) (mkE_ok mix (tab18_ok N)) Tryz.func18 (show Tryz.f18.body = some (bod Tryz.f18) by kernel_rfl) (by decide +kernel) (F := F18 N) I18_ok D18_ok (args := A18) (fun _ => by kernel_rfl) (fun _ => by show 1 ≤ Tryz.f18.ntmps; exact of_decide_eq_true (by kernel_rfl)) (cutsIn_ok trivial) (fun x => match x with | x0 => F18_eq N x0))

/-! ## f69: mirador/lz.within -/

noncomputable def I69 : Pk → Option (Int × Int × Int)
  | ⟨[.v (.int .i64 x0), .v (.int .i64 x1), .v (.int .i64 x2)], []⟩ => some (x0, x1, x2)
  | _ => none

noncomputable def J69 (x : Int × Int × Int) : Pk := ⟨[.v (.int .i64 (x.1)), .v (.int .i64 (x.2.1)), .v (.int .i64 (x.2.2))], []⟩

theorem I69_ok : ∀ pk x, I69 pk = some x → pk = J69 x := by
  intro pk x h
  unfold I69 at h
  split at h <;> first | (cases h; rfl) | cases h

noncomputable def A69 : List TV := []

noncomputable def tab69 (N : Nat) : List (Nat × (Pk → Tr Pk)) := []

theorem tab69_ok (N : Nat) : TabOK Tryz.prog (tab69 N) := trivial

noncomputable def O69 (r : Bool) : Tr (Pk) := .ret ⟨[.v (.bool (r))], []⟩

noncomputable def D69 : Pk → Option (Bool)
  | ⟨[.v (.bool x0)], []⟩ => some (x0)
  | _ => none

theorem D69_ok : ∀ y r, D69 y = some r → ∀ z, (O69 r).to z → y = z := by
  intro y r h
  unfold D69 at h
  split at h <;> first | (cases h; intro z hz; exact Option.some.inj hz) | cases h

noncomputable def F69 (N : Nat) : (Int × Int × Int) → Option (Bool)
  | (x0, x1, x2) =>
  iteP (decide (x1 ≤ x0)) (
    some (decide (x0 ≤ x2))) (
    some (false))

theorem F69_eq (N : Nat) (x0 : Int) (x1 : Int) (x2 : Int) : (fnEv (mkE Tryz.prog ownT (tab69 N) []) Tryz.f69 (J69 (x0, x1, x2))).run D69 = F69 N (x0, x1, x2) := by kernel_rfl

noncomputable def T69 (N : Nat) : Pk → Tr Pk := tell I69 (F69 N) O69

theorem T69_ok (N : Nat) : FOK Tryz.prog 69 (T69 N) :=
  (tell_ok (E := (mkE Tryz.prog ownT (tab69 N) [])) (mkE_ok mix (tab69_ok N)) Tryz.func69 (show Tryz.f69.body = some (bod Tryz.f69) by kernel_rfl) (by decide +kernel) (F := F69 N) I69_ok D69_ok (args := A69) (fun _ => by kernel_rfl) (fun _ => by show 3 ≤ Tryz.f69.ntmps; exact of_decide_eq_true (by kernel_rfl)) (cutsIn_ok trivial) (fun x => match x with | (x0, x1, x2) => F69_eq N x0 x1 x2))

/-! ## f27: mirador/lz.Valid -/

noncomputable def I27 : Pk → Option (Int × Int × Int)
  | ⟨[.agg [.v (.int .i64 x0), .v (.int .i64 x1), .v (.int .i64 x2)]], []⟩ => some (x0, x1, x2)
  | _ => none

noncomputable def J27 (x : Int × Int × Int) : Pk := ⟨[.agg [.v (.int .i64 (x.1)), .v (.int .i64 (x.2.1)), .v (.int .i64 (x.2.2))]], []⟩

theorem I27_ok : ∀ pk x, I27 pk = some x → pk = J27 x := by
  intro pk x h
  unfold I27 at h
  split at h <;> first | (cases h; rfl) | cases h

noncomputable def A27 : List TV := []

noncomputable def tab27 (N : Nat) : List (Nat × (Pk → Tr Pk)) := [(69, T69 N)]

theorem tab27_ok (N : Nat) : TabOK Tryz.prog (tab27 N) := ⟨T69_ok N, trivial⟩

noncomputable def O27 (r : Bool) : Tr (Pk) := .ret ⟨[.v (.bool (r))], []⟩

noncomputable def D27 : Pk → Option (Bool)
  | ⟨[.v (.bool x0)], []⟩ => some (x0)
  | _ => none

theorem D27_ok : ∀ y r, D27 y = some r → ∀ z, (O27 r).to z → y = z := by
  intro y r h
  unfold D27 at h
  split at h <;> first | (cases h; intro z hz; exact Option.some.inj hz) | cases h

noncomputable def F27 (N : Nat) : (Int × Int × Int) → Option (Bool)
  | (x0, x1, x2) =>
  iteP (x1 == (0 : Int)) (
    iteP (x2 == (0 : Int)) (
      Option.bind (F69 N (x0, (0 : Int), (255 : Int))) fun y0 =>
      some (y0)) (
      some (false))) (
    iteP (x0 == (0 : Int)) (
      Option.bind (F69 N (x1, (3 : Int), (258 : Int))) fun y1 =>
      iteP (y1) (
        Option.bind (F69 N (x2, (1 : Int), (32768 : Int))) fun y2 =>
        some (y2)) (
        some (false))) (
      some (false)))

theorem F27_eq (N : Nat) (x0 : Int) (x1 : Int) (x2 : Int) : (fnEv (mkE Tryz.prog ownT (tab27 N) []) Tryz.f27 (J27 (x0, x1, x2))).run D27 = F27 N (x0, x1, x2) := by kernel_rfl

noncomputable def T27 (N : Nat) : Pk → Tr Pk := tell I27 (F27 N) O27

theorem T27_ok (N : Nat) : FOK Tryz.prog 27 (T27 N) :=
  (tell_ok (E := (mkE Tryz.prog ownT (tab27 N) [])) (mkE_ok mix (tab27_ok N)) Tryz.func27 (show Tryz.f27.body = some (bod Tryz.f27) by kernel_rfl) (by decide +kernel) (F := F27 N) I27_ok D27_ok (args := A27) (fun _ => by kernel_rfl) (fun _ => by show 1 ≤ Tryz.f27.ntmps; exact of_decide_eq_true (by kernel_rfl)) (cutsIn_ok trivial) (fun x => match x with | (x0, x1, x2) => F27_eq N x0 x1 x2))

/-! ## f101: mirador/symbols.row -/

noncomputable def I101 : Pk → Option (Int × Int × (List Int))
  | ⟨[.sl 0 none, .v (.int .i64 x0), .v (.int .i64 x1)], [some (.row (.int .i64) 3 x2)]⟩ => some (x0, x1, x2)
  | _ => none

noncomputable def J101 (x : Int × Int × (List Int)) : Pk := ⟨[.sl 0 none, .v (.int .i64 (x.1)), .v (.int .i64 (x.2.1))], [some (.row (.int .i64) 3 (x.2.2))]⟩

theorem I101_ok : ∀ pk x, I101 pk = some x → pk = J101 x := by
  intro pk x h
  unfold I101 at h
  split at h <;> first | (cases h; rfl) | cases h

noncomputable def A101 : List TV := []

noncomputable def tab101 (N : Nat) : List (Nat × (Pk → Tr Pk)) := []

theorem tab101_ok (N : Nat) : TabOK Tryz.prog (tab101 N) := trivial

def X101_12 : Ex → List Nat
  | .ret => [6]
  | .exit 0 => [0]
  | _ => []

noncomputable def I101_12 : Pk → Option (Int × Int × (List Int))
  | ⟨[.sl 0 (none), .v (.int .i64 x0), .v (.int .i64 x1)], [some (.row (Ty.int IntKind.i64) 3 x2)]⟩ => some (x0, x1, x2)
  | _ => none

noncomputable def J101_12 (x : Int × Int × (List Int)) : Pk := ⟨[.sl 0 (none), .v (.int .i64 (x.1)), .v (.int .i64 (x.2.1))], [some (.row (Ty.int IntKind.i64) 3 (x.2.2))]⟩

theorem I101_12_ok : ∀ pk x, I101_12 pk = some x → pk = J101_12 x := by
  intro pk x h
  unfold I101_12 at h
  split at h <;> first | (cases h; rfl) | cases h

noncomputable def O101_12 (r : (List Int)) : Tr (Ex × Pk) := .ret (.exit 0, ⟨[.sl 0 (none)], [some (.row (Ty.int IntKind.i64) 3 (r))]⟩)

noncomputable def D101_12 : Ex × Pk → Option ((List Int))
  | (.exit 0, ⟨[.sl 0 (none)], [some (.row (Ty.int IntKind.i64) 3 x0)]⟩) => some (x0)
  | _ => none

theorem D101_12_ok : ∀ y r, D101_12 y = some r → ∀ z, (O101_12 r).to z → y = z := by
  intro y r h
  unfold D101_12 at h
  split at h <;> first | (cases h; intro z hz; exact Option.some.inj hz) | cases h

noncomputable def B101_12 (N : Nat) (f : (Int × Int × (List Int)) → Option ((List Int))) : (Int × Int × (List Int)) → Option ((List Int))
  | (x0, x1, x2) =>
  iteP (decide ((↑(List.length x2) : Int) < x0)) (
    iteP (decide ((List.length x2 + List.length [x1]) * (8 : Nat) ≤ (140737488355328 : Nat) ∧ List.length x2 + List.length [x1] ≤ (140737488355328 : Nat))) (
      Option.bind (f (x0, x1, x2 ++ [x1])) fun r => some r) (
      none)) (
    some (x2))

noncomputable def F101_12 (N : Nat) : Nat → (Int × Int × (List Int)) → Option ((List Int))
  | 0, _ => none
  | k + 1, x => B101_12 N (F101_12 N k) x

noncomputable def C101_12 (N : Nat) (k : Nat) : Cut := ⟨[0, 1, 2], X101_12, tellX I101_12 (F101_12 N k) O101_12⟩

theorem B101_12_eq (N : Nat) (f : (Int × Int × (List Int)) → Option ((List Int))) (x0 : Int) (x1 : Int) (x2 : (List Int)) : (roundEv (mkE Tryz.prog ownT (tab101 N) []) Tryz.f101.ntmps A101 (loopAt (bod Tryz.f101) 12) 12 ⟨[0, 1, 2], X101_12, tellX I101_12 f O101_12⟩ (J101_12 (x0, x1, x2))).run D101_12 = B101_12 N f (x0, x1, x2) := by kernel_rfl

theorem C101_12_ok (N : Nat) (k : Nat) : ∀ c', At (bod Tryz.f101) 12 c' → CutOK Tryz.prog Tryz.f101.ntmps (idsL A101) c' (C101_12 N k) :=
  loop_ok (E := (mkE Tryz.prog ownT (tab101 N) [])) (mkE_ok mix (tab101_ok N)) (cutsIn_ok trivial) (fuel := 200) (by decide +kernel) (by kernel_rfl) I101_12_ok D101_12_ok (B101_12 N) (F101_12 N) (fun _ => rfl) (fun _ _ => rfl) (fun f x => match x with | (x0, x1, x2) => B101_12_eq N f x0 x1 x2) k

noncomputable def O101 (r : (List Int)) : Tr (Pk) := .ret ⟨[.sl 0 (none)], [some (.row (Ty.int IntKind.i64) 3 (r))]⟩

noncomputable def D101 : Pk → Option ((List Int))
  | ⟨[.sl 0 (none)], [some (.row (Ty.int IntKind.i64) 3 x0)]⟩ => some (x0)
  | _ => none

theorem D101_ok : ∀ y r, D101 y = some r → ∀ z, (O101 r).to z → y = z := by
  intro y r h
  unfold D101 at h
  split at h <;> first | (cases h; intro z hz; exact Option.some.inj hz) | cases h

noncomputable def F101 (N : Nat) : (Int × Int × (List Int)) → Option ((List Int))
  | (x0, x1, x2) =>
  Option.bind (F101_12 N N (x0, x1, x2)) fun y0 =>
  some (y0)

theorem F101_eq (N : Nat) (x0 : Int) (x1 : Int) (x2 : (List Int)) : (fnEv (mkE Tryz.prog ownT (tab101 N) [(12, (C101_12 N N))]) Tryz.f101 (J101 (x0, x1, x2))).run D101 = F101 N (x0, x1, x2) := by kernel_rfl

noncomputable def T101 (N : Nat) : Pk → Tr Pk := tell I101 (F101 N) O101

theorem T101_ok (N : Nat) : FOK Tryz.prog 101 (T101 N) :=
  (tell_ok (E := (mkE Tryz.prog ownT (tab101 N) [(12, (C101_12 N N))])) (mkE_ok mix (tab101_ok N)) Tryz.func101 (show Tryz.f101.body = some (bod Tryz.f101) by kernel_rfl) (by decide +kernel) (F := F101 N) I101_ok D101_ok (args := A101) (fun _ => by kernel_rfl) (fun _ => by show 3 ≤ Tryz.f101.ntmps; exact of_decide_eq_true (by kernel_rfl)) (cutsIn_ok ⟨fun c' h => (C101_12_ok N N c' h), trivial⟩) (fun x => match x with | (x0, x1, x2) => F101_eq N x0 x1 x2))

/-! ## f64: mirador/symbols.Fixed -/

noncomputable def I64 : Pk → Option (Unit)
  | ⟨[], []⟩ => some ()
  | _ => none

noncomputable def J64 (x : Unit) : Pk := ⟨[], []⟩

theorem I64_ok : ∀ pk x, I64 pk = some x → pk = J64 x := by
  intro pk x h
  unfold I64 at h
  split at h <;> first | (cases h; rfl) | cases h

noncomputable def A64 : List TV := []

noncomputable def tab64 (N : Nat) : List (Nat × (Pk → Tr Pk)) := [(101, T101 N)]

theorem tab64_ok (N : Nat) : TabOK Tryz.prog (tab64 N) := ⟨T101_ok N, trivial⟩

noncomputable def O64 (r : (List Int) × (List Int)) : Tr (Pk) := .ret ⟨[.tup [.sl 0 (none), .sl 1 (none)]], [some (.row (Ty.int IntKind.i64) 3 (r.1)), some (.row (Ty.int IntKind.i64) 3 (r.2))]⟩

noncomputable def D64 : Pk → Option ((List Int) × (List Int))
  | ⟨[.tup [.sl 0 (none), .sl 1 (none)]], [some (.row (Ty.int IntKind.i64) 3 x0), some (.row (Ty.int IntKind.i64) 3 x1)]⟩ => some ((x0, x1))
  | _ => none

theorem D64_ok : ∀ y r, D64 y = some r → ∀ z, (O64 r).to z → y = z := by
  intro y r h
  unfold D64 at h
  split at h <;> first | (cases h; intro z hz; exact Option.some.inj hz) | cases h

noncomputable def F64 (N : Nat) : (Unit) → Option ((List Int) × (List Int))
  | () =>
  Option.bind (F101 N ((144 : Int), (8 : Int), [])) fun y0 =>
  Option.bind (F101 N ((256 : Int), (9 : Int), y0)) fun y1 =>
  Option.bind (F101 N ((280 : Int), (7 : Int), y1)) fun y2 =>
  Option.bind (F101 N ((288 : Int), (8 : Int), y2)) fun y3 =>
  Option.bind (F101 N ((30 : Int), (5 : Int), [])) fun y4 =>
  some ((y3, y4))

theorem F64_eq (N : Nat)  : (fnEv (mkE Tryz.prog ownT (tab64 N) []) Tryz.f64 (J64 ())).run D64 = F64 N () := by kernel_rfl

noncomputable def T64 (N : Nat) : Pk → Tr Pk := tell I64 (F64 N) O64

theorem T64_ok (N : Nat) : FOK Tryz.prog 64 (T64 N) :=
  (tell_ok (E := (mkE Tryz.prog ownT (tab64 N) [])) (mkE_ok mix (tab64_ok N)) Tryz.func64 (show Tryz.f64.body = some (bod Tryz.f64) by kernel_rfl) (by decide +kernel) (F := F64 N) I64_ok D64_ok (args := A64) (fun _ => by kernel_rfl) (fun _ => by show 0 ≤ Tryz.f64.ntmps; exact of_decide_eq_true (by kernel_rfl)) (cutsIn_ok trivial) (fun x => match x with | () => F64_eq N ))

/-! ## f97: mirador/huffman.counts -/

noncomputable def I97 : Pk → Option ((List Int))
  | ⟨[.ro (.int .i64) x0], []⟩ => some x0
  | _ => none

noncomputable def J97 (x : (List Int)) : Pk := ⟨[.ro (.int .i64) (x)], []⟩

theorem I97_ok : ∀ pk x, I97 pk = some x → pk = J97 x := by
  intro pk x h
  unfold I97 at h
  split at h <;> first | (cases h; rfl) | cases h

noncomputable def A97 : List TV := []

noncomputable def tab97 (N : Nat) : List (Nat × (Pk → Tr Pk)) := []

theorem tab97_ok (N : Nat) : TabOK Tryz.prog (tab97 N) := trivial

def X97_122 : Ex → List Nat
  | .ret => [2, 3]
  | .exit 0 => [4, 2]
  | _ => []

noncomputable def I97_122 : Pk → Option (Int × (List Int) × Int × (List Int) × (List Int))
  | ⟨[.v (.int .i64 x0), .ro (Ty.int IntKind.i64) x1, .v (.int .i64 x2), .adr 0 [], .adr 1 []], [some (.var (.arr (Ty.int IntKind.i64) 16 x3)), some (.var (.arr (Ty.int IntKind.i64) 16 x4))]⟩ => some (x0, x1, x2, x3, x4)
  | _ => none

noncomputable def J97_122 (x : Int × (List Int) × Int × (List Int) × (List Int)) : Pk := ⟨[.v (.int .i64 (x.1)), .ro (Ty.int IntKind.i64) (x.2.1), .v (.int .i64 (x.2.2.1)), .adr 0 [], .adr 1 []], [some (.var (.arr (Ty.int IntKind.i64) 16 (x.2.2.2.1))), some (.var (.arr (Ty.int IntKind.i64) 16 (x.2.2.2.2)))]⟩

theorem I97_122_ok : ∀ pk x, I97_122 pk = some x → pk = J97_122 x := by
  intro pk x h
  unfold I97_122 at h
  split at h <;> first | (cases h; rfl) | cases h

noncomputable def O97_122 (r : ((Int × (List Int)) ⊕ ((List Int) × (List Int)))) : Tr (Ex × Pk) := .sum _ _ r (fun u => .ret (.ret, ⟨[.adr 0 [], .v (.int .i64 (u.1))], [some (.var (.arr (Ty.int IntKind.i64) 16 (u.2)))]⟩)) (fun v => .ret (.exit 0, ⟨[.adr 0 [], .adr 1 []], [some (.var (.arr (Ty.int IntKind.i64) 16 (v.1))), some (.var (.arr (Ty.int IntKind.i64) 16 (v.2)))]⟩))

noncomputable def D97_122 : Ex × Pk → Option (((Int × (List Int)) ⊕ ((List Int) × (List Int))))
  | (.ret, ⟨[.adr 0 [], .v (.int .i64 x0)], [some (.var (.arr (Ty.int IntKind.i64) 16 x1))]⟩) => some (.inl ((x0, x1)))
  | (.exit 0, ⟨[.adr 0 [], .adr 1 []], [some (.var (.arr (Ty.int IntKind.i64) 16 x0)), some (.var (.arr (Ty.int IntKind.i64) 16 x1))]⟩) => some (.inr ((x0, x1)))
  | _ => none

theorem D97_122_ok : ∀ y r, D97_122 y = some r → ∀ z, (O97_122 r).to z → y = z := by
  intro y r h
  unfold D97_122 at h
  split at h <;> first | (cases h; intro z hz; exact Option.some.inj hz) | cases h

noncomputable def B97_122 (N : Nat) (f : (Int × (List Int) × Int × (List Int) × (List Int)) → Option (((Int × (List Int)) ⊕ ((List Int) × (List Int))))) : (Int × (List Int) × Int × (List Int) × (List Int)) → Option (((Int × (List Int)) ⊕ ((List Int) × (List Int))))
  | (x0, x1, x2, x3, x4) =>
  iteP (decide (x2 < x0)) (
    iteP (within x2 (List.length x1)) (
      Option.bind (x1[Int.toNat x2]?) fun y0 =>
      iteP (decide (y0 < (0 : Int))) (
        some (.inl (((50 : Int), x3)))) (
        iteP (decide (y0 > (15 : Int))) (
          some (.inl (((50 : Int), x3)))) (
          iteP (within y0 (16 : Nat)) (
            Option.bind (x3[Int.toNat y0]?) fun y1 =>
            iteP (within y0 (16 : Nat)) (
              Option.bind (x3[Int.toNat y0]?) fun y2 =>
              Option.bind (f (x0, x1, IntKind.wrap IntKind.i64 (x2 + (1 : Int)), List.set x3 (Int.toNat y0) (IntKind.wrap IntKind.i64 (y1 + (1 : Int))), x4)) fun r => match r with | .inl (y) => some (.inl (y)) | .inr (y) => some (.inr (y))) (
              none)) (
            none)))) (
      none)) (
    some (.inr ((x3, x4))))

noncomputable def F97_122 (N : Nat) : Nat → (Int × (List Int) × Int × (List Int) × (List Int)) → Option (((Int × (List Int)) ⊕ ((List Int) × (List Int))))
  | 0, _ => none
  | k + 1, x => B97_122 N (F97_122 N k) x

noncomputable def C97_122 (N : Nat) (k : Nat) : Cut := ⟨[12, 11, 13, 4, 2], X97_122, tellX I97_122 (F97_122 N k) O97_122⟩

theorem B97_122_eq (N : Nat) (f : (Int × (List Int) × Int × (List Int) × (List Int)) → Option (((Int × (List Int)) ⊕ ((List Int) × (List Int))))) (x0 : Int) (x1 : (List Int)) (x2 : Int) (x3 : (List Int)) (x4 : (List Int)) : (roundEv (mkE Tryz.prog ownT (tab97 N) []) Tryz.f97.ntmps A97 (loopAt (bod Tryz.f97) 122) 122 ⟨[12, 11, 13, 4, 2], X97_122, tellX I97_122 f O97_122⟩ (J97_122 (x0, x1, x2, x3, x4))).run D97_122 = B97_122 N f (x0, x1, x2, x3, x4) := by kernel_rfl

theorem C97_122_ok (N : Nat) (k : Nat) : ∀ c', At (bod Tryz.f97) 122 c' → CutOK Tryz.prog Tryz.f97.ntmps (idsL A97) c' (C97_122 N k) :=
  loop_ok (E := (mkE Tryz.prog ownT (tab97 N) [])) (mkE_ok mix (tab97_ok N)) (cutsIn_ok trivial) (fuel := 200) (by decide +kernel) (by kernel_rfl) I97_122_ok D97_122_ok (B97_122 N) (F97_122 N) (fun _ => rfl) (fun _ _ => rfl) (fun f x => match x with | (x0, x1, x2, x3, x4) => B97_122_eq N f x0 x1 x2 x3 x4) k

noncomputable def O97 (r : (List Int) × Int) : Tr (Pk) := .ret ⟨[.tup [.arr (Ty.int IntKind.i64) 16 (r.1), .v (.int .i64 (r.2))]], []⟩

noncomputable def D97 : Pk → Option ((List Int) × Int)
  | ⟨[.tup [.arr (Ty.int IntKind.i64) 16 x0, .v (.int .i64 x1)]], []⟩ => some ((x0, x1))
  | _ => none

theorem D97_ok : ∀ y r, D97 y = some r → ∀ z, (O97 r).to z → y = z := by
  intro y r h
  unfold D97 at h
  split at h <;> first | (cases h; intro z hz; exact Option.some.inj hz) | cases h

noncomputable def F97 (N : Nat) : ((List Int)) → Option ((List Int) × Int)
  | x0 =>
  iteP (decide ((↑(List.length x0) : Int) > (320 : Int))) (
    some (([(0 : Int), (0 : Int), (0 : Int), (0 : Int), (0 : Int), (0 : Int), (0 : Int), (0 : Int), (0 : Int), (0 : Int), (0 : Int), (0 : Int), (0 : Int), (0 : Int), (0 : Int), (0 : Int)], (50 : Int)))) (
    Option.bind (F97_122 N N ((↑(List.length x0) : Int), x0, (0 : Int), [(0 : Int), (0 : Int), (0 : Int), (0 : Int), (0 : Int), (0 : Int), (0 : Int), (0 : Int), (0 : Int), (0 : Int), (0 : Int), (0 : Int), (0 : Int), (0 : Int), (0 : Int), (0 : Int)], [(0 : Int), (0 : Int), (0 : Int), (0 : Int), (0 : Int), (0 : Int), (0 : Int), (0 : Int), (0 : Int), (0 : Int), (0 : Int), (0 : Int), (0 : Int), (0 : Int), (0 : Int), (0 : Int)])) fun y0 =>
    match y0 with
    | .inl y1 =>
      some ((Prod.snd y1, Prod.fst y1))
    | .inr y1 =>
      some ((Prod.fst y1, (0 : Int))))

theorem F97_eq (N : Nat) (x0 : (List Int)) : (fnEv (mkE Tryz.prog ownT (tab97 N) [(122, (C97_122 N N))]) Tryz.f97 (J97 x0)).run D97 = F97 N x0 := by kernel_rfl

noncomputable def T97 (N : Nat) : Pk → Tr Pk := tell I97 (F97 N) O97

theorem T97_ok (N : Nat) : FOK Tryz.prog 97 (T97 N) :=
  (tell_ok (E := (mkE Tryz.prog ownT (tab97 N) [(122, (C97_122 N N))])) (mkE_ok mix (tab97_ok N)) Tryz.func97 (show Tryz.f97.body = some (bod Tryz.f97) by kernel_rfl) (by decide +kernel) (F := F97 N) I97_ok D97_ok (args := A97) (fun _ => by kernel_rfl) (fun _ => by show 1 ≤ Tryz.f97.ntmps; exact of_decide_eq_true (by kernel_rfl)) (cutsIn_ok ⟨fun c' h => (C97_122_ok N N c' h), trivial⟩) (fun x => match x with | x0 => F97_eq N x0))

/-! ## f96: mirador/huffman.Check -/

noncomputable def I96 : Pk → Option ((List Int))
  | ⟨[.ro (.int .i64) x0], []⟩ => some x0
  | _ => none

noncomputable def J96 (x : (List Int)) : Pk := ⟨[.ro (.int .i64) (x)], []⟩

theorem I96_ok : ∀ pk x, I96 pk = some x → pk = J96 x := by
  intro pk x h
  unfold I96 at h
  split at h <;> first | (cases h; rfl) | cases h

noncomputable def A96 : List TV := []

noncomputable def tab96 (N : Nat) : List (Nat × (Pk → Tr Pk)) := [(97, T97 N)]

theorem tab96_ok (N : Nat) : TabOK Tryz.prog (tab96 N) := ⟨T97_ok N, trivial⟩

def X96_122 : Ex → List Nat
  | .ret => [2, 3]
  | .exit 0 => [6, 5]
  | _ => []

noncomputable def I96_122 : Pk → Option (Int × Int × Int × (List Int))
  | ⟨[.v (.int .i64 x0), .v (.int .i64 x1), .v (.int .i64 x2), .adr 0 []], [some (.var (.arr (Ty.int IntKind.i64) 16 x3))]⟩ => some (x0, x1, x2, x3)
  | _ => none

noncomputable def J96_122 (x : Int × Int × Int × (List Int)) : Pk := ⟨[.v (.int .i64 (x.1)), .v (.int .i64 (x.2.1)), .v (.int .i64 (x.2.2.1)), .adr 0 []], [some (.var (.arr (Ty.int IntKind.i64) 16 (x.2.2.2)))]⟩

theorem I96_122_ok : ∀ pk x, I96_122 pk = some x → pk = J96_122 x := by
  intro pk x h
  unfold I96_122 at h
  split at h <;> first | (cases h; rfl) | cases h

noncomputable def O96_122 (r : Int × Int) : Tr (Ex × Pk) := .ret (.exit 0, ⟨[.v (.int .i64 (r.1)), .v (.int .i64 (r.2))], []⟩)

noncomputable def D96_122 : Ex × Pk → Option (Int × Int)
  | (.exit 0, ⟨[.v (.int .i64 x0), .v (.int .i64 x1)], []⟩) => some ((x0, x1))
  | _ => none

theorem D96_122_ok : ∀ y r, D96_122 y = some r → ∀ z, (O96_122 r).to z → y = z := by
  intro y r h
  unfold D96_122 at h
  split at h <;> first | (cases h; intro z hz; exact Option.some.inj hz) | cases h

noncomputable def B96_122 (N : Nat) (f : (Int × Int × Int × (List Int)) → Option (Int × Int)) : (Int × Int × Int × (List Int)) → Option (Int × Int)
  | (x0, x1, x2, x3) =>
  iteP (decide (x2 ≤ (15 : Int))) (
    iteP (x1 == (0 : Int)) (
      iteP (within x2 (16 : Nat)) (
        Option.bind (x3[Int.toNat x2]?) fun y0 =>
        iteP (decide (IntKind.wrap IntKind.i64 (IntKind.wrap IntKind.i64 (x0 * (2 : Int)) - y0) < (0 : Int))) (
          Option.bind (f (IntKind.wrap IntKind.i64 (IntKind.wrap IntKind.i64 (x0 * (2 : Int)) - y0), (50 : Int), IntKind.wrap IntKind.i64 (x2 + (1 : Int)), x3)) fun r => some r) (
          Option.bind (f (IntKind.wrap IntKind.i64 (IntKind.wrap IntKind.i64 (x0 * (2 : Int)) - y0), x1, IntKind.wrap IntKind.i64 (x2 + (1 : Int)), x3)) fun r => some r)) (
        none)) (
      some ((x0, x1)))) (
    some ((x0, x1)))

noncomputable def F96_122 (N : Nat) : Nat → (Int × Int × Int × (List Int)) → Option (Int × Int)
  | 0, _ => none
  | k + 1, x => B96_122 N (F96_122 N k) x

noncomputable def C96_122 (N : Nat) (k : Nat) : Cut := ⟨[6, 5, 7, 4], X96_122, tellX I96_122 (F96_122 N k) O96_122⟩

theorem B96_122_eq (N : Nat) (f : (Int × Int × Int × (List Int)) → Option (Int × Int)) (x0 : Int) (x1 : Int) (x2 : Int) (x3 : (List Int)) : (roundEv (mkE Tryz.prog ownT (tab96 N) []) Tryz.f96.ntmps A96 (loopAt (bod Tryz.f96) 122) 122 ⟨[6, 5, 7, 4], X96_122, tellX I96_122 f O96_122⟩ (J96_122 (x0, x1, x2, x3))).run D96_122 = B96_122 N f (x0, x1, x2, x3) := by kernel_rfl

theorem C96_122_ok (N : Nat) (k : Nat) : ∀ c', At (bod Tryz.f96) 122 c' → CutOK Tryz.prog Tryz.f96.ntmps (idsL A96) c' (C96_122 N k) :=
  loop_ok (E := (mkE Tryz.prog ownT (tab96 N) [])) (mkE_ok mix (tab96_ok N)) (cutsIn_ok trivial) (fuel := 200) (by decide +kernel) (by kernel_rfl) I96_122_ok D96_122_ok (B96_122 N) (F96_122 N) (fun _ => rfl) (fun _ _ => rfl) (fun f x => match x with | (x0, x1, x2, x3) => B96_122_eq N f x0 x1 x2 x3) k

noncomputable def O96 (r : Int × Int) : Tr (Pk) := .ret ⟨[.tup [.v (.int .i64 (r.1)), .v (.int .i64 (r.2))]], []⟩

noncomputable def D96 : Pk → Option (Int × Int)
  | ⟨[.tup [.v (.int .i64 x0), .v (.int .i64 x1)]], []⟩ => some ((x0, x1))
  | _ => none

theorem D96_ok : ∀ y r, D96 y = some r → ∀ z, (O96 r).to z → y = z := by
  intro y r h
  unfold D96 at h
  split at h <;> first | (cases h; intro z hz; exact Option.some.inj hz) | cases h

noncomputable def F96 (N : Nat) : ((List Int)) → Option (Int × Int)
  | x0 =>
  Option.bind (F97 N x0) fun y0 =>
  Option.bind (F96_122 N N ((1 : Int), Prod.snd y0, (1 : Int), Prod.fst y0)) fun y1 =>
  iteP (Prod.snd y1 != (0 : Int)) (
    some (((0 : Int), Prod.snd y1))) (
    some ((Prod.fst y1, (0 : Int))))

theorem F96_eq (N : Nat) (x0 : (List Int)) : (fnEv (mkE Tryz.prog ownT (tab96 N) [(122, (C96_122 N N))]) Tryz.f96 (J96 x0)).run D96 = F96 N x0 := by kernel_rfl

noncomputable def T96 (N : Nat) : Pk → Tr Pk := tell I96 (F96 N) O96

theorem T96_ok (N : Nat) : FOK Tryz.prog 96 (T96 N) :=
  (tell_ok (E := (mkE Tryz.prog ownT (tab96 N) [(122, (C96_122 N N))])) (mkE_ok mix (tab96_ok N)) Tryz.func96 (show Tryz.f96.body = some (bod Tryz.f96) by kernel_rfl) (by decide +kernel) (F := F96 N) I96_ok D96_ok (args := A96) (fun _ => by kernel_rfl) (fun _ => by show 1 ≤ Tryz.f96.ntmps; exact of_decide_eq_true (by kernel_rfl)) (cutsIn_ok ⟨fun c' h => (C96_122_ok N N c' h), trivial⟩) (fun x => match x with | x0 => F96_eq N x0))

/-! ## f57: mirador/huffman.Codes -/

noncomputable def I57 : Pk → Option ((List Int))
  | ⟨[.ro (.int .i64) x0], []⟩ => some x0
  | _ => none

noncomputable def J57 (x : (List Int)) : Pk := ⟨[.ro (.int .i64) (x)], []⟩

theorem I57_ok : ∀ pk x, I57 pk = some x → pk = J57 x := by
  intro pk x h
  unfold I57 at h
  split at h <;> first | (cases h; rfl) | cases h

noncomputable def A57 : List TV := []

noncomputable def tab57 (N : Nat) : List (Nat × (Pk → Tr Pk)) := [(96, T96 N), (97, T97 N)]

theorem tab57_ok (N : Nat) : TabOK Tryz.prog (tab57 N) := ⟨T96_ok N, ⟨T97_ok N, trivial⟩⟩

def X57_250 : Ex → List Nat
  | .ret => [2, 3]
  | .exit 0 => [0, 8]
  | _ => []

def X57_1018 : Ex → List Nat
  | .ret => [2, 3]
  | .exit 2 => [10]
  | _ => []

noncomputable def I57_250 : Pk → Option (Int × (List Int) × (List Int) × (List Int))
  | ⟨[.v (.int .i64 x0), .ro (Ty.int IntKind.i64) x1, .adr 0 [], .adr 1 []], [some (.var (.arr (Ty.int IntKind.i64) 16 x2)), some (.var (.arr (Ty.int IntKind.i64) 16 x3))]⟩ => some (x0, x1, x2, x3)
  | _ => none

noncomputable def J57_250 (x : Int × (List Int) × (List Int) × (List Int)) : Pk := ⟨[.v (.int .i64 (x.1)), .ro (Ty.int IntKind.i64) (x.2.1), .adr 0 [], .adr 1 []], [some (.var (.arr (Ty.int IntKind.i64) 16 (x.2.2.1))), some (.var (.arr (Ty.int IntKind.i64) 16 (x.2.2.2)))]⟩

theorem I57_250_ok : ∀ pk x, I57_250 pk = some x → pk = J57_250 x := by
  intro pk x h
  unfold I57_250 at h
  split at h <;> first | (cases h; rfl) | cases h

noncomputable def O57_250 (r : (List Int) × (List Int)) : Tr (Ex × Pk) := .ret (.exit 0, ⟨[.ro (Ty.int IntKind.i64) (r.1), .adr 0 []], [some (.var (.arr (Ty.int IntKind.i64) 16 (r.2)))]⟩)

noncomputable def D57_250 : Ex × Pk → Option ((List Int) × (List Int))
  | (.exit 0, ⟨[.ro (Ty.int IntKind.i64) x0, .adr 0 []], [some (.var (.arr (Ty.int IntKind.i64) 16 x1))]⟩) => some ((x0, x1))
  | _ => none

theorem D57_250_ok : ∀ y r, D57_250 y = some r → ∀ z, (O57_250 r).to z → y = z := by
  intro y r h
  unfold D57_250 at h
  split at h <;> first | (cases h; intro z hz; exact Option.some.inj hz) | cases h

noncomputable def B57_250 (N : Nat) (f : (Int × (List Int) × (List Int) × (List Int)) → Option ((List Int) × (List Int))) : (Int × (List Int) × (List Int) × (List Int)) → Option ((List Int) × (List Int))
  | (x0, x1, x2, x3) =>
  iteP (decide (x0 < (15 : Int))) (
    iteP (within x0 (16 : Nat)) (
      Option.bind (x3[Int.toNat x0]?) fun y0 =>
      iteP (within x0 (16 : Nat)) (
        Option.bind (x2[Int.toNat x0]?) fun y1 =>
        iteP (within (IntKind.wrap IntKind.i64 (x0 + (1 : Int))) (16 : Nat)) (
          Option.bind (x3[Int.toNat (IntKind.wrap IntKind.i64 (x0 + (1 : Int)))]?) fun y2 =>
          Option.bind (f (IntKind.wrap IntKind.i64 (x0 + (1 : Int)), x1, x2, List.set x3 (Int.toNat (IntKind.wrap IntKind.i64 (x0 + (1 : Int)))) (IntKind.wrap IntKind.i64 (IntKind.wrap IntKind.i64 (y0 + y1) * (2 : Int))))) fun r => some r) (
          none)) (
        none)) (
      none)) (
    some ((x1, x3)))

noncomputable def F57_250 (N : Nat) : Nat → (Int × (List Int) × (List Int) × (List Int)) → Option ((List Int) × (List Int))
  | 0, _ => none
  | k + 1, x => B57_250 N (F57_250 N k) x

noncomputable def C57_250 (N : Nat) (k : Nat) : Cut := ⟨[9, 0, 6, 8], X57_250, tellX I57_250 (F57_250 N k) O57_250⟩

theorem B57_250_eq (N : Nat) (f : (Int × (List Int) × (List Int) × (List Int)) → Option ((List Int) × (List Int))) (x0 : Int) (x1 : (List Int)) (x2 : (List Int)) (x3 : (List Int)) : (roundEv (mkE Tryz.prog ownT (tab57 N) []) Tryz.f57.ntmps A57 (loopAt (bod Tryz.f57) 250) 250 ⟨[9, 0, 6, 8], X57_250, tellX I57_250 f O57_250⟩ (J57_250 (x0, x1, x2, x3))).run D57_250 = B57_250 N f (x0, x1, x2, x3) := by kernel_rfl

theorem C57_250_ok (N : Nat) (k : Nat) : ∀ c', At (bod Tryz.f57) 250 c' → CutOK Tryz.prog Tryz.f57.ntmps (idsL A57) c' (C57_250 N k) :=
  loop_ok (E := (mkE Tryz.prog ownT (tab57 N) [])) (mkE_ok mix (tab57_ok N)) (cutsIn_ok trivial) (fuel := 200) (by decide +kernel) (by kernel_rfl) I57_250_ok D57_250_ok (B57_250 N) (F57_250 N) (fun _ => rfl) (fun _ _ => rfl) (fun f x => match x with | (x0, x1, x2, x3) => B57_250_eq N f x0 x1 x2 x3) k

noncomputable def I57_1018 : Pk → Option (Int × Int × (List Int) × (List (Int × (Int × Unit))) × (List Int))
  | ⟨[.v (.int .i64 x0), .v (.int .i64 x1), .ro (Ty.int IntKind.i64) x2, .sl 0 (none), .adr 1 []], [some (.row (Ty.cons (Ty.int IntKind.i64) (Ty.cons (Ty.int IntKind.i64) Ty.unit)) 105 x3), some (.var (.arr (Ty.int IntKind.i64) 16 x4))]⟩ => some (x0, x1, x2, x3, x4)
  | _ => none

noncomputable def J57_1018 (x : Int × Int × (List Int) × (List (Int × (Int × Unit))) × (List Int)) : Pk := ⟨[.v (.int .i64 (x.1)), .v (.int .i64 (x.2.1)), .ro (Ty.int IntKind.i64) (x.2.2.1), .sl 0 (none), .adr 1 []], [some (.row (Ty.cons (Ty.int IntKind.i64) (Ty.cons (Ty.int IntKind.i64) Ty.unit)) 105 (x.2.2.2.1)), some (.var (.arr (Ty.int IntKind.i64) 16 (x.2.2.2.2)))]⟩

theorem I57_1018_ok : ∀ pk x, I57_1018 pk = some x → pk = J57_1018 x := by
  intro pk x h
  unfold I57_1018 at h
  split at h <;> first | (cases h; rfl) | cases h

noncomputable def O57_1018 (r : (List (Int × (Int × Unit)))) : Tr (Ex × Pk) := .ret (.exit 2, ⟨[.sl 0 (none)], [some (.row (Ty.cons (Ty.int IntKind.i64) (Ty.cons (Ty.int IntKind.i64) Ty.unit)) 105 (r))]⟩)

noncomputable def D57_1018 : Ex × Pk → Option ((List (Int × (Int × Unit))))
  | (.exit 2, ⟨[.sl 0 (none)], [some (.row (Ty.cons (Ty.int IntKind.i64) (Ty.cons (Ty.int IntKind.i64) Ty.unit)) 105 x0)]⟩) => some (x0)
  | _ => none

theorem D57_1018_ok : ∀ y r, D57_1018 y = some r → ∀ z, (O57_1018 r).to z → y = z := by
  intro y r h
  unfold D57_1018 at h
  split at h <;> first | (cases h; intro z hz; exact Option.some.inj hz) | cases h

noncomputable def B57_1018 (N : Nat) (f : (Int × Int × (List Int) × (List (Int × (Int × Unit))) × (List Int)) → Option ((List (Int × (Int × Unit))))) : (Int × Int × (List Int) × (List (Int × (Int × Unit))) × (List Int)) → Option ((List (Int × (Int × Unit))))
  | (x0, x1, x2, x3, x4) =>
  iteP (decide (x0 < x1)) (
    iteP (within x0 (List.length x2)) (
      Option.bind (x2[Int.toNat x0]?) fun y0 =>
      iteP (decide (y0 > (0 : Int))) (
        iteP (within y0 (16 : Nat)) (
          Option.bind (x4[Int.toNat y0]?) fun y1 =>
          iteP (within x0 (List.length x3)) (
            Option.bind (x3[Int.toNat x0]?) fun y2 =>
            iteP (within y0 (16 : Nat)) (
              Option.bind (x4[Int.toNat y0]?) fun y3 =>
              iteP (within y0 (16 : Nat)) (
                Option.bind (x4[Int.toNat y0]?) fun y4 =>
                Option.bind (f (IntKind.wrap IntKind.i64 (x0 + (1 : Int)), x1, x2, List.set x3 (Int.toNat x0) (y1, y0, ()), List.set x4 (Int.toNat y0) (IntKind.wrap IntKind.i64 (y3 + (1 : Int))))) fun r => some r) (
                none)) (
              none)) (
            none)) (
          none)) (
        Option.bind (f (IntKind.wrap IntKind.i64 (x0 + (1 : Int)), x1, x2, x3, x4)) fun r => some r)) (
      none)) (
    some (x3))

noncomputable def F57_1018 (N : Nat) : Nat → (Int × Int × (List Int) × (List (Int × (Int × Unit))) × (List Int)) → Option ((List (Int × (Int × Unit))))
  | 0, _ => none
  | k + 1, x => B57_1018 N (F57_1018 N k) x

noncomputable def C57_1018 (N : Nat) (k : Nat) : Cut := ⟨[46, 45, 44, 10, 8], X57_1018, tellX I57_1018 (F57_1018 N k) O57_1018⟩

theorem B57_1018_eq (N : Nat) (f : (Int × Int × (List Int) × (List (Int × (Int × Unit))) × (List Int)) → Option ((List (Int × (Int × Unit))))) (x0 : Int) (x1 : Int) (x2 : (List Int)) (x3 : (List (Int × (Int × Unit)))) (x4 : (List Int)) : (roundEv (mkE Tryz.prog ownT (tab57 N) [(250, (C57_250 N N))]) Tryz.f57.ntmps A57 (loopAt (bod Tryz.f57) 1018) 1018 ⟨[46, 45, 44, 10, 8], X57_1018, tellX I57_1018 f O57_1018⟩ (J57_1018 (x0, x1, x2, x3, x4))).run D57_1018 = B57_1018 N f (x0, x1, x2, x3, x4) := by kernel_rfl

theorem C57_1018_ok (N : Nat) (k : Nat) : ∀ c', At (bod Tryz.f57) 1018 c' → CutOK Tryz.prog Tryz.f57.ntmps (idsL A57) c' (C57_1018 N k) :=
  loop_ok (E := (mkE Tryz.prog ownT (tab57 N) [(250, (C57_250 N N))])) (mkE_ok mix (tab57_ok N)) (cutsIn_ok ⟨fun c' h => (C57_250_ok N N c' h), trivial⟩) (fuel := 200) (by decide +kernel) (by kernel_rfl) I57_1018_ok D57_1018_ok (B57_1018 N) (F57_1018 N) (fun _ => rfl) (fun _ _ => rfl) (fun f x => match x with | (x0, x1, x2, x3, x4) => B57_1018_eq N f x0 x1 x2 x3 x4) k

noncomputable def O57 (r : Int × (List (Int × (Int × Unit)))) : Tr (Pk) := .ret ⟨[.tup [.sl 0 (none), .v (.int .i64 (r.1))]], [some (.row (Ty.cons (Ty.int IntKind.i64) (Ty.cons (Ty.int IntKind.i64) Ty.unit)) 105 (r.2))]⟩

noncomputable def D57 : Pk → Option (Int × (List (Int × (Int × Unit))))
  | ⟨[.tup [.sl 0 (none), .v (.int .i64 x0)]], [some (.row (Ty.cons (Ty.int IntKind.i64) (Ty.cons (Ty.int IntKind.i64) Ty.unit)) 105 x1)]⟩ => some ((x0, x1))
  | _ => none

theorem D57_ok : ∀ y r, D57 y = some r → ∀ z, (O57 r).to z → y = z := by
  intro y r h
  unfold D57 at h
  split at h <;> first | (cases h; intro z hz; exact Option.some.inj hz) | cases h

noncomputable def F57 (N : Nat) : ((List Int)) → Option (Int × (List (Int × (Int × Unit))))
  | x0 =>
  Option.bind (F96 N x0) fun y0 =>
  iteP (Prod.snd y0 != (0 : Int)) (
    some ((Prod.snd y0, []))) (
    Option.bind (F97 N x0) fun y1 =>
    Option.bind (F57_250 N N ((1 : Int), x0, Prod.fst y1, [(0 : Int), (0 : Int), (0 : Int), (0 : Int), (0 : Int), (0 : Int), (0 : Int), (0 : Int), (0 : Int), (0 : Int), (0 : Int), (0 : Int), (0 : Int), (0 : Int), (0 : Int), (0 : Int)])) fun y2 =>
    iteP (decide ((0 : Int) ≤ (↑(List.length (Prod.fst y2)) : Int) ∧ (↑(List.length (Prod.fst y2)) : Int) ≤ (↑(List.length (Prod.fst y2)) : Int) ∧ (↑(List.length (Prod.fst y2)) : Int) * (16 : Int) ≤ (140737488355328 : Int) ∧ (↑(List.length (Prod.fst y2)) : Int) ≤ (140737488355328 : Int))) (
      Option.bind (F57_1018 N N ((0 : Int), (↑(List.length (Prod.fst y2)) : Int), Prod.fst y2, List.replicate (Int.toNat (↑(List.length (Prod.fst y2)) : Int)) ((0 : Int), (0 : Int), ()), Prod.snd y2)) fun y3 =>
      some (((0 : Int), y3))) (
      none))

theorem F57_eq (N : Nat) (x0 : (List Int)) : (fnEv (mkE Tryz.prog ownT (tab57 N) [(250, (C57_250 N N)), (1018, (C57_1018 N N))]) Tryz.f57 (J57 x0)).run D57 = F57 N x0 := by kernel_rfl

noncomputable def T57 (N : Nat) : Pk → Tr Pk := tell I57 (F57 N) O57

theorem T57_ok (N : Nat) : FOK Tryz.prog 57 (T57 N) :=
  (tell_ok (E := (mkE Tryz.prog ownT (tab57 N) [(250, (C57_250 N N)), (1018, (C57_1018 N N))])) (mkE_ok mix (tab57_ok N)) Tryz.func57 (show Tryz.f57.body = some (bod Tryz.f57) by kernel_rfl) (by decide +kernel) (F := F57 N) I57_ok D57_ok (args := A57) (fun _ => by kernel_rfl) (fun _ => by show 1 ≤ Tryz.f57.ntmps; exact of_decide_eq_true (by kernel_rfl)) (cutsIn_ok ⟨fun c' h => (C57_250_ok N N c' h), ⟨fun c' h => (C57_1018_ok N N c' h), trivial⟩⟩) (fun x => match x with | x0 => F57_eq N x0))

/-! ## f170: mirador/symbols.extra -/

noncomputable def I170 : Pk → Option (Int × Int × Int)
  | ⟨[.v (.int .i64 x0), .v (.int .i64 x1), .v (.int .i64 x2)], []⟩ => some (x0, x1, x2)
  | _ => none

noncomputable def J170 (x : Int × Int × Int) : Pk := ⟨[.v (.int .i64 (x.1)), .v (.int .i64 (x.2.1)), .v (.int .i64 (x.2.2))], []⟩

theorem I170_ok : ∀ pk x, I170 pk = some x → pk = J170 x := by
  intro pk x h
  unfold I170 at h
  split at h <;> first | (cases h; rfl) | cases h

noncomputable def A170 : List TV := []

noncomputable def tab170 (N : Nat) : List (Nat × (Pk → Tr Pk)) := []

theorem tab170_ok (N : Nat) : TabOK Tryz.prog (tab170 N) := trivial

noncomputable def O170 (r : Int) : Tr (Pk) := .ret ⟨[.v (.int .i64 (r))], []⟩

noncomputable def D170 : Pk → Option (Int)
  | ⟨[.v (.int .i64 x0)], []⟩ => some (x0)
  | _ => none

theorem D170_ok : ∀ y r, D170 y = some r → ∀ z, (O170 r).to z → y = z := by
  intro y r h
  unfold D170 at h
  split at h <;> first | (cases h; intro z hz; exact Option.some.inj hz) | cases h

noncomputable def F170 (N : Nat) : (Int × Int × Int) → Option (Int)
  | (x0, x1, x2) =>
  iteP (decide (x2 = (0 : Int))) (
    none) (
    iteP (decide (x1 = (0 : Int))) (
      none) (
      some (IntKind.wrap IntKind.i64 ((if (0 : Int) > IntKind.wrap IntKind.i64 (IntKind.wrap IntKind.i64 (Int.tdiv (IntKind.wrap IntKind.i64 (x0 - x1)) x2) + (1 : Int)) then (0 : Int) else IntKind.wrap IntKind.i64 (IntKind.wrap IntKind.i64 (Int.tdiv (IntKind.wrap IntKind.i64 (x0 - x1)) x2) + (1 : Int))) * if (1 : Int) < IntKind.wrap IntKind.i64 (Int.tdiv x0 x1) then (1 : Int) else IntKind.wrap IntKind.i64 (Int.tdiv x0 x1)))))

theorem F170_eq (N : Nat) (x0 : Int) (x1 : Int) (x2 : Int) : (fnEv (mkE Tryz.prog ownT (tab170 N) []) Tryz.f170 (J170 (x0, x1, x2))).run D170 = F170 N (x0, x1, x2) := by kernel_rfl

noncomputable def T170 (N : Nat) : Pk → Tr Pk := tell I170 (F170 N) O170

theorem T170_ok (N : Nat) : FOK Tryz.prog 170 (T170 N) :=
  (tell_ok (E := (mkE Tryz.prog ownT (tab170 N) [])) (mkE_ok mix (tab170_ok N)) Tryz.func170 (show Tryz.f170.body = some (bod Tryz.f170) by kernel_rfl) (by decide +kernel) (F := F170 N) I170_ok D170_ok (args := A170) (fun _ => by kernel_rfl) (fun _ => by show 3 ≤ Tryz.f170.ntmps; exact of_decide_eq_true (by kernel_rfl)) (cutsIn_ok trivial) (fun x => match x with | (x0, x1, x2) => F170_eq N x0 x1 x2))


end Go.Proofs.YteddgkplkjldcaaGreat.Am

set_option linter.unusedVariables false
set_option maxRecDepth 100000
namespace Go.Proofs.YteddgkplkjldcaaGreat.Am
open Go.Am

/-! ## f158: mirador/symbols.base -/

noncomputable def I158 : Pk → Option (Int × Int × Int × Int)
  | ⟨[.v (.int .i64 x0), .v (.int .i64 x1), .v (.int .i64 x2), .v (.int .i64 x3)], []⟩ => some (x0, x1, x2, x3)
  | _ => none

noncomputable def J158 (x : Int × Int × Int × Int) : Pk := ⟨[.v (.int .i64 (x.1)), .v (.int .i64 (x.2.1)), .v (.int .i64 (x.2.2.1)), .v (.int .i64 (x.2.2.2))], []⟩

theorem I158_ok : ∀ pk x, I158 pk = some x → pk = J158 x := by
  intro pk x h
  unfold I158 at h
  split at h <;> first | (cases h; rfl) | cases h

noncomputable def A158 : List TV := []

noncomputable def tab158 (N : Nat) : List (Nat × (Pk → Tr Pk)) := [(170, T170 N)]

theorem tab158_ok (N : Nat) : TabOK Tryz.prog (tab158 N) := ⟨T170_ok N, trivial⟩

def X158_58 : Ex → List Nat
  | .ret => [8, 9]
  | .exit 0 => [10, 0, 1, 2]
  | _ => []

noncomputable def I158_58 : Pk → Option (Int × Int × Int × Int × Int × Int)
  | ⟨[.v (.int .i64 x0), .v (.int .i64 x1), .v (.int .i64 x2), .v (.int .i64 x3), .v (.int .i64 x4), .v (.int .i64 x5)], []⟩ => some (x0, x1, x2, x3, x4, x5)
  | _ => none

noncomputable def J158_58 (x : Int × Int × Int × Int × Int × Int) : Pk := ⟨[.v (.int .i64 (x.1)), .v (.int .i64 (x.2.1)), .v (.int .i64 (x.2.2.1)), .v (.int .i64 (x.2.2.2.1)), .v (.int .i64 (x.2.2.2.2.1)), .v (.int .i64 (x.2.2.2.2.2))], []⟩

theorem I158_58_ok : ∀ pk x, I158_58 pk = some x → pk = J158_58 x := by
  intro pk x h
  unfold I158_58 at h
  split at h <;> first | (cases h; rfl) | cases h

noncomputable def O158_58 (r : Int × Int × Int × Int) : Tr (Ex × Pk) := .ret (.exit 0, ⟨[.v (.int .i64 (r.1)), .v (.int .i64 (r.2.1)), .v (.int .i64 (r.2.2.1)), .v (.int .i64 (r.2.2.2))], []⟩)

noncomputable def D158_58 : Ex × Pk → Option (Int × Int × Int × Int)
  | (.exit 0, ⟨[.v (.int .i64 x0), .v (.int .i64 x1), .v (.int .i64 x2), .v (.int .i64 x3)], []⟩) => some ((x0, x1, x2, x3))
  | _ => none

theorem D158_58_ok : ∀ y r, D158_58 y = some r → ∀ z, (O158_58 r).to z → y = z := by
  intro y r h
  unfold D158_58 at h
  split at h <;> first | (cases h; intro z hz; exact Option.some.inj hz) | cases h

noncomputable def B158_58 (N : Nat) (f : (Int × Int × Int × Int × Int × Int) → Option (Int × Int × Int × Int)) : (Int × Int × Int × Int × Int × Int) → Option (Int × Int × Int × Int)
  | (x0, x1, x2, x3, x4, x5) =>
  iteP (decide (x1 < x2)) (
    Option.bind (F170 N (x1, x4, x5)) fun y0 =>
    iteP (decide (y0 < (0 : Int))) (
      none) (
      Option.bind (f (IntKind.wrap IntKind.i64 (x0 + IntKind.wrap IntKind.i64 ((1 : Int) * (2 : Int) ^ min (Int.toNat y0) (64 : Nat))), IntKind.wrap IntKind.i64 (x1 + (1 : Int)), x2, x3, x4, x5)) fun r => some r)) (
    some ((x0, x3, x4, x5)))

noncomputable def F158_58 (N : Nat) : Nat → (Int × Int × Int × Int × Int × Int) → Option (Int × Int × Int × Int)
  | 0, _ => none
  | k + 1, x => B158_58 N (F158_58 N k) x

noncomputable def C158_58 (N : Nat) (k : Nat) : Cut := ⟨[10, 14, 13, 0, 1, 2], X158_58, tellX I158_58 (F158_58 N k) O158_58⟩

theorem B158_58_eq (N : Nat) (f : (Int × Int × Int × Int × Int × Int) → Option (Int × Int × Int × Int)) (x0 : Int) (x1 : Int) (x2 : Int) (x3 : Int) (x4 : Int) (x5 : Int) : (roundEv (mkE Tryz.prog ownT (tab158 N) []) Tryz.f158.ntmps A158 (loopAt (bod Tryz.f158) 58) 58 ⟨[10, 14, 13, 0, 1, 2], X158_58, tellX I158_58 f O158_58⟩ (J158_58 (x0, x1, x2, x3, x4, x5))).run D158_58 = B158_58 N f (x0, x1, x2, x3, x4, x5) := by kernel_rfl

theorem C158_58_ok (N : Nat) (k : Nat) : ∀ c', At (bod Tryz.f158) 58 c' → CutOK Tryz.prog Tryz.f158.ntmps (idsL A158) c' (C158_58 N k) :=
  loop_ok (E := (mkE Tryz.prog ownT (tab158 N) [])) (mkE_ok mix (tab158_ok N)) (cutsIn_ok trivial) (fuel := 200) (by decide +kernel) (by kernel_rfl) I158_58_ok D158_58_ok (B158_58 N) (F158_58 N) (fun _ => rfl) (fun _ _ => rfl) (fun f x => match x with | (x0, x1, x2, x3, x4, x5) => B158_58_eq N f x0 x1 x2 x3 x4 x5) k

noncomputable def O158 (r : Int × Int) : Tr (Pk) := .ret ⟨[.tup [.v (.int .i64 (r.1)), .v (.int .i64 (r.2))]], []⟩

noncomputable def D158 : Pk → Option (Int × Int)
  | ⟨[.tup [.v (.int .i64 x0), .v (.int .i64 x1)]], []⟩ => some ((x0, x1))
  | _ => none

theorem D158_ok : ∀ y r, D158 y = some r → ∀ z, (O158 r).to z → y = z := by
  intro y r h
  unfold D158 at h
  split at h <;> first | (cases h; intro z hz; exact Option.some.inj hz) | cases h

noncomputable def F158 (N : Nat) : (Int × Int × Int × Int) → Option (Int × Int)
  | (x0, x1, x2, x3) =>
  Option.bind (F158_58 N N (x3, (0 : Int), x0, x0, x1, x2)) fun y0 =>
  Option.bind (F170 N (Prod.fst (Prod.snd y0), Prod.fst (Prod.snd (Prod.snd y0)), Prod.snd (Prod.snd (Prod.snd y0)))) fun y1 =>
  some ((Prod.fst y0, y1))

theorem F158_eq (N : Nat) (x0 : Int) (x1 : Int) (x2 : Int) (x3 : Int) : (fnEv (mkE Tryz.prog ownT (tab158 N) [(58, (C158_58 N N))]) Tryz.f158 (J158 (x0, x1, x2, x3))).run D158 = F158 N (x0, x1, x2, x3) := by kernel_rfl

noncomputable def T158 (N : Nat) : Pk → Tr Pk := tell I158 (F158 N) O158

theorem T158_ok (N : Nat) : FOK Tryz.prog 158 (T158 N) :=
  (tell_ok (E := (mkE Tryz.prog ownT (tab158 N) [(58, (C158_58 N N))])) (mkE_ok mix (tab158_ok N)) Tryz.func158 (show Tryz.f158.body = some (bod Tryz.f158) by kernel_rfl) (by decide +kernel) (F := F158 N) I158_ok D158_ok (args := A158) (fun _ => by kernel_rfl) (fun _ => by show 4 ≤ Tryz.f158.ntmps; exact of_decide_eq_true (by kernel_rfl)) (cutsIn_ok ⟨fun c' h => (C158_58_ok N N c' h), trivial⟩) (fun x => match x with | (x0, x1, x2, x3) => F158_eq N x0 x1 x2 x3))

/-! ## f131: mirador/symbols.LengthOf -/

noncomputable def I131 : Pk → Option (Int)
  | ⟨[.v (.int .i64 x0)], []⟩ => some x0
  | _ => none

noncomputable def J131 (x : Int) : Pk := ⟨[.v (.int .i64 (x))], []⟩

theorem I131_ok : ∀ pk x, I131 pk = some x → pk = J131 x := by
  intro pk x h
  unfold I131 at h
  split at h <;> first | (cases h; rfl) | cases h

noncomputable def A131 : List TV := []

noncomputable def tab131 (N : Nat) : List (Nat × (Pk → Tr Pk)) := [(158, T158 N)]

theorem tab131_ok (N : Nat) : TabOK Tryz.prog (tab131 N) := ⟨T158_ok N, trivial⟩

noncomputable def O131 (r : Int × Int) : Tr (Pk) := .ret ⟨[.tup [.v (.int .i64 (r.1)), .v (.int .i64 (r.2))]], []⟩

noncomputable def D131 : Pk → Option (Int × Int)
  | ⟨[.tup [.v (.int .i64 x0), .v (.int .i64 x1)]], []⟩ => some ((x0, x1))
  | _ => none

theorem D131_ok : ∀ y r, D131 y = some r → ∀ z, (O131 r).to z → y = z := by
  intro y r h
  unfold D131 at h
  split at h <;> first | (cases h; intro z hz; exact Option.some.inj hz) | cases h

noncomputable def F131 (N : Nat) : (Int) → Option (Int × Int)
  | x0 =>
  iteP (x0 == (285 : Int)) (
    some (((258 : Int), (0 : Int)))) (
    iteP (decide (x0 < (257 : Int))) (
      some (((0 : Int), (0 : Int)))) (
      iteP (decide (x0 > (285 : Int))) (
        some (((0 : Int), (0 : Int)))) (
        Option.bind (F158 N (IntKind.wrap IntKind.i64 (x0 - (257 : Int)), (8 : Int), (4 : Int), (3 : Int))) fun y0 =>
        some ((Prod.fst y0, Prod.snd y0)))))

theorem F131_eq (N : Nat) (x0 : Int) : (fnEv (mkE Tryz.prog ownT (tab131 N) []) Tryz.f131 (J131 x0)).run D131 = F131 N x0 := by kernel_rfl

noncomputable def T131 (N : Nat) : Pk → Tr Pk := tell I131 (F131 N) O131

theorem T131_ok (N : Nat) : FOK Tryz.prog 131 (T131 N) :=
  (tell_ok (E := (mkE Tryz.prog ownT (tab131 N) [])) (mkE_ok mix (tab131_ok N)) Tryz.func131 (show Tryz.f131.body = some (bod Tryz.f131) by kernel_rfl) (by decide +kernel) (F := F131 N) I131_ok D131_ok (args := A131) (fun _ => by kernel_rfl) (fun _ => by show 1 ≤ Tryz.f131.ntmps; exact of_decide_eq_true (by kernel_rfl)) (cutsIn_ok trivial) (fun x => match x with | x0 => F131_eq N x0))

/-! ## f132: mirador/symbols.DistanceOf -/

noncomputable def I132 : Pk → Option (Int)
  | ⟨[.v (.int .i64 x0)], []⟩ => some x0
  | _ => none

noncomputable def J132 (x : Int) : Pk := ⟨[.v (.int .i64 (x))], []⟩

theorem I132_ok : ∀ pk x, I132 pk = some x → pk = J132 x := by
  intro pk x h
  unfold I132 at h
  split at h <;> first | (cases h; rfl) | cases h

noncomputable def A132 : List TV := []

noncomputable def tab132 (N : Nat) : List (Nat × (Pk → Tr Pk)) := [(158, T158 N)]

theorem tab132_ok (N : Nat) : TabOK Tryz.prog (tab132 N) := ⟨T158_ok N, trivial⟩

noncomputable def O132 (r : Int × Int) : Tr (Pk) := .ret ⟨[.tup [.v (.int .i64 (r.1)), .v (.int .i64 (r.2))]], []⟩

noncomputable def D132 : Pk → Option (Int × Int)
  | ⟨[.tup [.v (.int .i64 x0), .v (.int .i64 x1)]], []⟩ => some ((x0, x1))
  | _ => none

theorem D132_ok : ∀ y r, D132 y = some r → ∀ z, (O132 r).to z → y = z := by
  intro y r h
  unfold D132 at h
  split at h <;> first | (cases h; intro z hz; exact Option.some.inj hz) | cases h

noncomputable def F132 (N : Nat) : (Int) → Option (Int × Int)
  | x0 =>
  iteP (decide (x0 < (0 : Int))) (
    some (((0 : Int), (0 : Int)))) (
    iteP (decide (x0 ≥ (30 : Int))) (
      some (((0 : Int), (0 : Int)))) (
      Option.bind (F158 N (x0, (4 : Int), (2 : Int), (1 : Int))) fun y0 =>
      some ((Prod.fst y0, Prod.snd y0))))

theorem F132_eq (N : Nat) (x0 : Int) : (fnEv (mkE Tryz.prog ownT (tab132 N) []) Tryz.f132 (J132 x0)).run D132 = F132 N x0 := by kernel_rfl

noncomputable def T132 (N : Nat) : Pk → Tr Pk := tell I132 (F132 N) O132

theorem T132_ok (N : Nat) : FOK Tryz.prog 132 (T132 N) :=
  (tell_ok (E := (mkE Tryz.prog ownT (tab132 N) [])) (mkE_ok mix (tab132_ok N)) Tryz.func132 (show Tryz.f132.body = some (bod Tryz.f132) by kernel_rfl) (by decide +kernel) (F := F132 N) I132_ok D132_ok (args := A132) (fun _ => by kernel_rfl) (fun _ => by show 1 ≤ Tryz.f132.ntmps; exact of_decide_eq_true (by kernel_rfl)) (cutsIn_ok trivial) (fun x => match x with | x0 => F132_eq N x0))

/-! ## f130a: mirador/symbols.find -/

noncomputable def I130a : Pk → Option (Int × Int × Int)
  | ⟨[.v (.int .i64 x0), .v (.int .i64 x1), .v (.int .i64 x2), .v (.func (.func 131) ⟨[]⟩ ⟨[]⟩)], []⟩ => some (x0, x1, x2)
  | _ => none

noncomputable def J130a (x : Int × Int × Int) : Pk := ⟨[.v (.int .i64 (x.1)), .v (.int .i64 (x.2.1)), .v (.int .i64 (x.2.2)), .v (.func (.func 131) ⟨[]⟩ ⟨[]⟩)], []⟩

theorem I130a_ok : ∀ pk x, I130a pk = some x → pk = J130a x := by
  intro pk x h
  unfold I130a at h
  split at h <;> first | (cases h; rfl) | cases h

noncomputable def A130a : List TV := []

noncomputable def tab130a (N : Nat) : List (Nat × (Pk → Tr Pk)) := [(131, T131 N)]

theorem tab130a_ok (N : Nat) : TabOK Tryz.prog (tab130a N) := ⟨T131_ok N, trivial⟩

def X130a_26 : Ex → List Nat
  | .ret => [8, 9, 10]
  | .exit 0 => []
  | _ => []

noncomputable def I130a_26 : Pk → Option (Int × Int × Int)
  | ⟨[.v (.int .i64 x0), .v ((Value.func (Fn.func (131 : FuncId)) (Array.mk []) (Array.mk []))), .v (.int .i64 x1), .v (.int .i64 x2)], []⟩ => some (x0, x1, x2)
  | _ => none

noncomputable def J130a_26 (x : Int × Int × Int) : Pk := ⟨[.v (.int .i64 (x.1)), .v ((Value.func (Fn.func (131 : FuncId)) (Array.mk []) (Array.mk []))), .v (.int .i64 (x.2.1)), .v (.int .i64 (x.2.2))], []⟩

theorem I130a_26_ok : ∀ pk x, I130a_26 pk = some x → pk = J130a_26 x := by
  intro pk x h
  unfold I130a_26 at h
  split at h <;> first | (cases h; rfl) | cases h

noncomputable def O130a_26 (r : ((Int × Int × Int) ⊕ (Unit))) : Tr (Ex × Pk) := .sum _ _ r (fun u => .ret (.ret, ⟨[.v (.int .i64 (u.1)), .v (.int .i64 (u.2.1)), .v (.int .i64 (u.2.2))], []⟩)) (fun v => .ret (.exit 0, ⟨[], []⟩))

noncomputable def D130a_26 : Ex × Pk → Option (((Int × Int × Int) ⊕ (Unit)))
  | (.ret, ⟨[.v (.int .i64 x0), .v (.int .i64 x1), .v (.int .i64 x2)], []⟩) => some (.inl ((x0, x1, x2)))
  | (.exit 0, ⟨[], []⟩) => some (.inr (()))
  | _ => none

theorem D130a_26_ok : ∀ y r, D130a_26 y = some r → ∀ z, (O130a_26 r).to z → y = z := by
  intro y r h
  unfold D130a_26 at h
  split at h <;> first | (cases h; intro z hz; exact Option.some.inj hz) | cases h

noncomputable def B130a_26 (N : Nat) (f : (Int × Int × Int) → Option (((Int × Int × Int) ⊕ (Unit)))) : (Int × Int × Int) → Option (((Int × Int × Int) ⊕ (Unit)))
  | (x0, x1, x2) =>
  iteP (decide (x1 ≥ x0)) (
    Option.bind (F131 N x1) fun y0 =>
    iteP (decide (Prod.fst y0 ≤ x2)) (
      some (.inl ((x1, IntKind.wrap IntKind.i64 (x2 - Prod.fst y0), Prod.snd y0)))) (
      Option.bind (f (x0, IntKind.wrap IntKind.i64 (x1 - (1 : Int)), x2)) fun r => match r with | .inl (y) => some (.inl (y)) | .inr (y) => some (.inr (y)))) (
    some (.inr (())))

noncomputable def F130a_26 (N : Nat) : Nat → (Int × Int × Int) → Option (((Int × Int × Int) ⊕ (Unit)))
  | 0, _ => none
  | k + 1, x => B130a_26 N (F130a_26 N k) x

noncomputable def C130a_26 (N : Nat) (k : Nat) : Cut := ⟨[1, 3, 11, 0], X130a_26, tellX I130a_26 (F130a_26 N k) O130a_26⟩

theorem B130a_26_eq (N : Nat) (f : (Int × Int × Int) → Option (((Int × Int × Int) ⊕ (Unit)))) (x0 : Int) (x1 : Int) (x2 : Int) : (roundEv (mkE Tryz.prog ownT (tab130a N) []) Tryz.f130.ntmps A130a (loopAt (bod Tryz.f130) 26) 26 ⟨[1, 3, 11, 0], X130a_26, tellX I130a_26 f O130a_26⟩ (J130a_26 (x0, x1, x2))).run D130a_26 = B130a_26 N f (x0, x1, x2) := by kernel_rfl

theorem C130a_26_ok (N : Nat) (k : Nat) : ∀ c', At (bod Tryz.f130) 26 c' → CutOK Tryz.prog Tryz.f130.ntmps (idsL A130a) c' (C130a_26 N k) :=
  loop_ok (E := (mkE Tryz.prog ownT (tab130a N) [])) (mkE_ok mix (tab130a_ok N)) (cutsIn_ok trivial) (fuel := 200) (by decide +kernel) (by kernel_rfl) I130a_26_ok D130a_26_ok (B130a_26 N) (F130a_26 N) (fun _ => rfl) (fun _ _ => rfl) (fun f x => match x with | (x0, x1, x2) => B130a_26_eq N f x0 x1 x2) k

noncomputable def O130a (r : Int × Int × Int) : Tr (Pk) := .ret ⟨[.tup [.v (.int .i64 (r.1)), .v (.int .i64 (r.2.1)), .v (.int .i64 (r.2.2))]], []⟩

noncomputable def D130a : Pk → Option (Int × Int × Int)
  | ⟨[.tup [.v (.int .i64 x0), .v (.int .i64 x1), .v (.int .i64 x2)]], []⟩ => some ((x0, x1, x2))
  | _ => none

theorem D130a_ok : ∀ y r, D130a y = some r → ∀ z, (O130a r).to z → y = z := by
  intro y r h
  unfold D130a at h
  split at h <;> first | (cases h; intro z hz; exact Option.some.inj hz) | cases h

noncomputable def F130a (N : Nat) : (Int × Int × Int) → Option (Int × Int × Int)
  | (x0, x1, x2) =>
  Option.bind (F130a_26 N N (x1, x2, x0)) fun y0 =>
  match y0 with
  | .inl y1 =>
    some ((Prod.fst y1, Prod.fst (Prod.snd y1), Prod.snd (Prod.snd y1)))
  | .inr y1 =>
    some (((0 : Int), (0 : Int), (0 : Int)))

theorem F130a_eq (N : Nat) (x0 : Int) (x1 : Int) (x2 : Int) : (fnEv (mkE Tryz.prog ownT (tab130a N) [(26, (C130a_26 N N))]) Tryz.f130 (J130a (x0, x1, x2))).run D130a = F130a N (x0, x1, x2) := by kernel_rfl

noncomputable def V130a (N : Nat) : Pk → Tr Pk := tell I130a (F130a N) O130a

theorem V130a_ok (N : Nat) : FOK Tryz.prog 130 (V130a N) :=
  (tell_ok (E := (mkE Tryz.prog ownT (tab130a N) [(26, (C130a_26 N N))])) (mkE_ok mix (tab130a_ok N)) Tryz.func130 (show Tryz.f130.body = some (bod Tryz.f130) by kernel_rfl) (by decide +kernel) (F := F130a N) I130a_ok D130a_ok (args := A130a) (fun _ => by kernel_rfl) (fun _ => by show 4 ≤ Tryz.f130.ntmps; exact of_decide_eq_true (by kernel_rfl)) (cutsIn_ok ⟨fun c' h => (C130a_26_ok N N c' h), trivial⟩) (fun x => match x with | (x0, x1, x2) => F130a_eq N x0 x1 x2))

/-! ## f130b: mirador/symbols.find -/

noncomputable def I130b : Pk → Option (Int × Int × Int)
  | ⟨[.v (.int .i64 x0), .v (.int .i64 x1), .v (.int .i64 x2), .v (.func (.func 132) ⟨[]⟩ ⟨[]⟩)], []⟩ => some (x0, x1, x2)
  | _ => none

noncomputable def J130b (x : Int × Int × Int) : Pk := ⟨[.v (.int .i64 (x.1)), .v (.int .i64 (x.2.1)), .v (.int .i64 (x.2.2)), .v (.func (.func 132) ⟨[]⟩ ⟨[]⟩)], []⟩

theorem I130b_ok : ∀ pk x, I130b pk = some x → pk = J130b x := by
  intro pk x h
  unfold I130b at h
  split at h <;> first | (cases h; rfl) | cases h

noncomputable def A130b : List TV := []

noncomputable def tab130b (N : Nat) : List (Nat × (Pk → Tr Pk)) := [(132, T132 N)]

theorem tab130b_ok (N : Nat) : TabOK Tryz.prog (tab130b N) := ⟨T132_ok N, trivial⟩

def X130b_26 : Ex → List Nat
  | .ret => [8, 9, 10]
  | .exit 0 => []
  | _ => []

noncomputable def I130b_26 : Pk → Option (Int × Int × Int)
  | ⟨[.v (.int .i64 x0), .v ((Value.func (Fn.func (132 : FuncId)) (Array.mk []) (Array.mk []))), .v (.int .i64 x1), .v (.int .i64 x2)], []⟩ => some (x0, x1, x2)
  | _ => none

noncomputable def J130b_26 (x : Int × Int × Int) : Pk := ⟨[.v (.int .i64 (x.1)), .v ((Value.func (Fn.func (132 : FuncId)) (Array.mk []) (Array.mk []))), .v (.int .i64 (x.2.1)), .v (.int .i64 (x.2.2))], []⟩

theorem I130b_26_ok : ∀ pk x, I130b_26 pk = some x → pk = J130b_26 x := by
  intro pk x h
  unfold I130b_26 at h
  split at h <;> first | (cases h; rfl) | cases h

noncomputable def O130b_26 (r : ((Int × Int × Int) ⊕ (Unit))) : Tr (Ex × Pk) := .sum _ _ r (fun u => .ret (.ret, ⟨[.v (.int .i64 (u.1)), .v (.int .i64 (u.2.1)), .v (.int .i64 (u.2.2))], []⟩)) (fun v => .ret (.exit 0, ⟨[], []⟩))

noncomputable def D130b_26 : Ex × Pk → Option (((Int × Int × Int) ⊕ (Unit)))
  | (.ret, ⟨[.v (.int .i64 x0), .v (.int .i64 x1), .v (.int .i64 x2)], []⟩) => some (.inl ((x0, x1, x2)))
  | (.exit 0, ⟨[], []⟩) => some (.inr (()))
  | _ => none

theorem D130b_26_ok : ∀ y r, D130b_26 y = some r → ∀ z, (O130b_26 r).to z → y = z := by
  intro y r h
  unfold D130b_26 at h
  split at h <;> first | (cases h; intro z hz; exact Option.some.inj hz) | cases h

noncomputable def B130b_26 (N : Nat) (f : (Int × Int × Int) → Option (((Int × Int × Int) ⊕ (Unit)))) : (Int × Int × Int) → Option (((Int × Int × Int) ⊕ (Unit)))
  | (x0, x1, x2) =>
  iteP (decide (x1 ≥ x0)) (
    Option.bind (F132 N x1) fun y0 =>
    iteP (decide (Prod.fst y0 ≤ x2)) (
      some (.inl ((x1, IntKind.wrap IntKind.i64 (x2 - Prod.fst y0), Prod.snd y0)))) (
      Option.bind (f (x0, IntKind.wrap IntKind.i64 (x1 - (1 : Int)), x2)) fun r => match r with | .inl (y) => some (.inl (y)) | .inr (y) => some (.inr (y)))) (
    some (.inr (())))

noncomputable def F130b_26 (N : Nat) : Nat → (Int × Int × Int) → Option (((Int × Int × Int) ⊕ (Unit)))
  | 0, _ => none
  | k + 1, x => B130b_26 N (F130b_26 N k) x

noncomputable def C130b_26 (N : Nat) (k : Nat) : Cut := ⟨[1, 3, 11, 0], X130b_26, tellX I130b_26 (F130b_26 N k) O130b_26⟩

theorem B130b_26_eq (N : Nat) (f : (Int × Int × Int) → Option (((Int × Int × Int) ⊕ (Unit)))) (x0 : Int) (x1 : Int) (x2 : Int) : (roundEv (mkE Tryz.prog ownT (tab130b N) []) Tryz.f130.ntmps A130b (loopAt (bod Tryz.f130) 26) 26 ⟨[1, 3, 11, 0], X130b_26, tellX I130b_26 f O130b_26⟩ (J130b_26 (x0, x1, x2))).run D130b_26 = B130b_26 N f (x0, x1, x2) := by kernel_rfl

theorem C130b_26_ok (N : Nat) (k : Nat) : ∀ c', At (bod Tryz.f130) 26 c' → CutOK Tryz.prog Tryz.f130.ntmps (idsL A130b) c' (C130b_26 N k) :=
  loop_ok (E := (mkE Tryz.prog ownT (tab130b N) [])) (mkE_ok mix (tab130b_ok N)) (cutsIn_ok trivial) (fuel := 200) (by decide +kernel) (by kernel_rfl) I130b_26_ok D130b_26_ok (B130b_26 N) (F130b_26 N) (fun _ => rfl) (fun _ _ => rfl) (fun f x => match x with | (x0, x1, x2) => B130b_26_eq N f x0 x1 x2) k

noncomputable def O130b (r : Int × Int × Int) : Tr (Pk) := .ret ⟨[.tup [.v (.int .i64 (r.1)), .v (.int .i64 (r.2.1)), .v (.int .i64 (r.2.2))]], []⟩

noncomputable def D130b : Pk → Option (Int × Int × Int)
  | ⟨[.tup [.v (.int .i64 x0), .v (.int .i64 x1), .v (.int .i64 x2)]], []⟩ => some ((x0, x1, x2))
  | _ => none

theorem D130b_ok : ∀ y r, D130b y = some r → ∀ z, (O130b r).to z → y = z := by
  intro y r h
  unfold D130b at h
  split at h <;> first | (cases h; intro z hz; exact Option.some.inj hz) | cases h

noncomputable def F130b (N : Nat) : (Int × Int × Int) → Option (Int × Int × Int)
  | (x0, x1, x2) =>
  Option.bind (F130b_26 N N (x1, x2, x0)) fun y0 =>
  match y0 with
  | .inl y1 =>
    some ((Prod.fst y1, Prod.fst (Prod.snd y1), Prod.snd (Prod.snd y1)))
  | .inr y1 =>
    some (((0 : Int), (0 : Int), (0 : Int)))

theorem F130b_eq (N : Nat) (x0 : Int) (x1 : Int) (x2 : Int) : (fnEv (mkE Tryz.prog ownT (tab130b N) [(26, (C130b_26 N N))]) Tryz.f130 (J130b (x0, x1, x2))).run D130b = F130b N (x0, x1, x2) := by kernel_rfl

noncomputable def V130b (N : Nat) : Pk → Tr Pk := tell I130b (F130b N) O130b

theorem V130b_ok (N : Nat) : FOK Tryz.prog 130 (V130b N) :=
  (tell_ok (E := (mkE Tryz.prog ownT (tab130b N) [(26, (C130b_26 N N))])) (mkE_ok mix (tab130b_ok N)) Tryz.func130 (show Tryz.f130.body = some (bod Tryz.f130) by kernel_rfl) (by decide +kernel) (F := F130b N) I130b_ok D130b_ok (args := A130b) (fun _ => by kernel_rfl) (fun _ => by show 4 ≤ Tryz.f130.ntmps; exact of_decide_eq_true (by kernel_rfl)) (cutsIn_ok ⟨fun c' h => (C130b_26_ok N N c' h), trivial⟩) (fun x => match x with | (x0, x1, x2) => F130b_eq N x0 x1 x2))

noncomputable def T130 (N : Nat) : Pk → Tr Pk := (orT I130a (V130a N) (V130b N))

theorem T130_ok (N : Nat) : FOK Tryz.prog 130 (T130 N) := (orT_ok (V130a_ok N) (V130b_ok N))

/-! ## f103: mirador/symbols.Length -/

noncomputable def I103 : Pk → Option (Int)
  | ⟨[.v (.int .i64 x0)], []⟩ => some x0
  | _ => none

noncomputable def J103 (x : Int) : Pk := ⟨[.v (.int .i64 (x))], []⟩

theorem I103_ok : ∀ pk x, I103 pk = some x → pk = J103 x := by
  intro pk x h
  unfold I103 at h
  split at h <;> first | (cases h; rfl) | cases h

noncomputable def A103 : List TV := []

noncomputable def tab103 (N : Nat) : List (Nat × (Pk → Tr Pk)) := [(130, T130 N)]

theorem tab103_ok (N : Nat) : TabOK Tryz.prog (tab103 N) := ⟨T130_ok N, trivial⟩

noncomputable def O103 (r : Int × Int × Int) : Tr (Pk) := .ret ⟨[.tup [.v (.int .i64 (r.1)), .v (.int .i64 (r.2.1)), .v (.int .i64 (r.2.2))]], []⟩

noncomputable def D103 : Pk → Option (Int × Int × Int)
  | ⟨[.tup [.v (.int .i64 x0), .v (.int .i64 x1), .v (.int .i64 x2)]], []⟩ => some ((x0, x1, x2))
  | _ => none

theorem D103_ok : ∀ y r, D103 y = some r → ∀ z, (O103 r).to z → y = z := by
  intro y r h
  unfold D103 at h
  split at h <;> first | (cases h; intro z hz; exact Option.some.inj hz) | cases h

noncomputable def F103 (N : Nat) : (Int) → Option (Int × Int × Int)
  | x0 =>
  iteP (decide (x0 > (258 : Int))) (
    some (((0 : Int), (0 : Int), (0 : Int)))) (
    Option.bind (F130a N (x0, (257 : Int), (285 : Int))) fun y0 =>
    some ((Prod.fst y0, Prod.fst (Prod.snd y0), Prod.snd (Prod.snd y0))))

theorem F103_eq (N : Nat) (x0 : Int) : (fnEv (mkE Tryz.prog ownT (tab103 N) []) Tryz.f103 (J103 x0)).run D103 = F103 N x0 := by kernel_rfl

noncomputable def T103 (N : Nat) : Pk → Tr Pk := tell I103 (F103 N) O103

theorem T103_ok (N : Nat) : FOK Tryz.prog 103 (T103 N) :=
  (tell_ok (E := (mkE Tryz.prog ownT (tab103 N) [])) (mkE_ok mix (tab103_ok N)) Tryz.func103 (show Tryz.f103.body = some (bod Tryz.f103) by kernel_rfl) (by decide +kernel) (F := F103 N) I103_ok D103_ok (args := A103) (fun _ => by kernel_rfl) (fun _ => by show 1 ≤ Tryz.f103.ntmps; exact of_decide_eq_true (by kernel_rfl)) (cutsIn_ok trivial) (fun x => match x with | x0 => F103_eq N x0))

/-! ## f104: mirador/symbols.Distance -/

noncomputable def I104 : Pk → Option (Int)
  | ⟨[.v (.int .i64 x0)], []⟩ => some x0
  | _ => none

noncomputable def J104 (x : Int) : Pk := ⟨[.v (.int .i64 (x))], []⟩

theorem I104_ok : ∀ pk x, I104 pk = some x → pk = J104 x := by
  intro pk x h
  unfold I104 at h
  split at h <;> first | (cases h; rfl) | cases h

noncomputable def A104 : List TV := []

noncomputable def tab104 (N : Nat) : List (Nat × (Pk → Tr Pk)) := [(130, T130 N)]

theorem tab104_ok (N : Nat) : TabOK Tryz.prog (tab104 N) := ⟨T130_ok N, trivial⟩

noncomputable def O104 (r : Int × Int × Int) : Tr (Pk) := .ret ⟨[.tup [.v (.int .i64 (r.1)), .v (.int .i64 (r.2.1)), .v (.int .i64 (r.2.2))]], []⟩

noncomputable def D104 : Pk → Option (Int × Int × Int)
  | ⟨[.tup [.v (.int .i64 x0), .v (.int .i64 x1), .v (.int .i64 x2)]], []⟩ => some ((x0, x1, x2))
  | _ => none

theorem D104_ok : ∀ y r, D104 y = some r → ∀ z, (O104 r).to z → y = z := by
  intro y r h
  unfold D104 at h
  split at h <;> first | (cases h; intro z hz; exact Option.some.inj hz) | cases h

noncomputable def F104 (N : Nat) : (Int) → Option (Int × Int × Int)
  | x0 =>
  iteP (decide (x0 > (32768 : Int))) (
    some (((0 : Int), (0 : Int), (0 : Int)))) (
    Option.bind (F130b N (x0, (0 : Int), (29 : Int))) fun y0 =>
    some ((Prod.fst y0, Prod.fst (Prod.snd y0), Prod.snd (Prod.snd y0))))

theorem F104_eq (N : Nat) (x0 : Int) : (fnEv (mkE Tryz.prog ownT (tab104 N) []) Tryz.f104 (J104 x0)).run D104 = F104 N x0 := by kernel_rfl

noncomputable def T104 (N : Nat) : Pk → Tr Pk := tell I104 (F104 N) O104

theorem T104_ok (N : Nat) : FOK Tryz.prog 104 (T104 N) :=
  (tell_ok (E := (mkE Tryz.prog ownT (tab104 N) [])) (mkE_ok mix (tab104_ok N)) Tryz.func104 (show Tryz.f104.body = some (bod Tryz.f104) by kernel_rfl) (by decide +kernel) (F := F104 N) I104_ok D104_ok (args := A104) (fun _ => by kernel_rfl) (fun _ => by show 1 ≤ Tryz.f104.ntmps; exact of_decide_eq_true (by kernel_rfl)) (cutsIn_ok trivial) (fun x => match x with | x0 => F104_eq N x0))

/-! ## f66: mirador/symbols.Count -/

noncomputable def I66 : Pk → Option ((List (Int × (Int × (Int × Unit)))))
  | ⟨[.ro (.cons (.int .i64) (.cons (.int .i64) (.cons (.int .i64) .unit))) x0], []⟩ => some x0
  | _ => none

noncomputable def J66 (x : (List (Int × (Int × (Int × Unit))))) : Pk := ⟨[.ro (.cons (.int .i64) (.cons (.int .i64) (.cons (.int .i64) .unit))) (x)], []⟩

theorem I66_ok : ∀ pk x, I66 pk = some x → pk = J66 x := by
  intro pk x h
  unfold I66 at h
  split at h <;> first | (cases h; rfl) | cases h

noncomputable def A66 : List TV := []

noncomputable def tab66 (N : Nat) : List (Nat × (Pk → Tr Pk)) := [(27, T27 N), (103, T103 N), (104, T104 N)]

theorem tab66_ok (N : Nat) : TabOK Tryz.prog (tab66 N) := ⟨T27_ok N, ⟨T103_ok N, ⟨T104_ok N, trivial⟩⟩⟩

def X66_122 : Ex → List Nat
  | .ret => [2, 3]
  | .exit 0 => [2, 3]
  | _ => []

noncomputable def I66_122 : Pk → Option (Int × Int × (List (Int × (Int × (Int × Unit)))) × (List Int) × (List Int))
  | ⟨[.v (.int .i64 x0), .v (.int .i64 x1), .ro (Ty.cons (Ty.int IntKind.i64) (Ty.cons (Ty.int IntKind.i64) (Ty.cons (Ty.int IntKind.i64) Ty.unit))) x2, .sl 0 (none), .sl 1 (none)], [some (.row (Ty.int IntKind.i64) 3 x3), some (.row (Ty.int IntKind.i64) 3 x4)]⟩ => some (x0, x1, x2, x3, x4)
  | _ => none

noncomputable def J66_122 (x : Int × Int × (List (Int × (Int × (Int × Unit)))) × (List Int) × (List Int)) : Pk := ⟨[.v (.int .i64 (x.1)), .v (.int .i64 (x.2.1)), .ro (Ty.cons (Ty.int IntKind.i64) (Ty.cons (Ty.int IntKind.i64) (Ty.cons (Ty.int IntKind.i64) Ty.unit))) (x.2.2.1), .sl 0 (none), .sl 1 (none)], [some (.row (Ty.int IntKind.i64) 3 (x.2.2.2.1)), some (.row (Ty.int IntKind.i64) 3 (x.2.2.2.2))]⟩

theorem I66_122_ok : ∀ pk x, I66_122 pk = some x → pk = J66_122 x := by
  intro pk x h
  unfold I66_122 at h
  split at h <;> first | (cases h; rfl) | cases h

noncomputable def O66_122 (r : (List Int) × (List Int)) : Tr (Ex × Pk) := .ret (.exit 0, ⟨[.sl 0 (none), .sl 1 (none)], [some (.row (Ty.int IntKind.i64) 3 (r.1)), some (.row (Ty.int IntKind.i64) 3 (r.2))]⟩)

noncomputable def D66_122 : Ex × Pk → Option ((List Int) × (List Int))
  | (.exit 0, ⟨[.sl 0 (none), .sl 1 (none)], [some (.row (Ty.int IntKind.i64) 3 x0), some (.row (Ty.int IntKind.i64) 3 x1)]⟩) => some ((x0, x1))
  | _ => none

theorem D66_122_ok : ∀ y r, D66_122 y = some r → ∀ z, (O66_122 r).to z → y = z := by
  intro y r h
  unfold D66_122 at h
  split at h <;> first | (cases h; intro z hz; exact Option.some.inj hz) | cases h

noncomputable def B66_122 (N : Nat) (f : (Int × Int × (List (Int × (Int × (Int × Unit)))) × (List Int) × (List Int)) → Option ((List Int) × (List Int))) : (Int × Int × (List (Int × (Int × (Int × Unit)))) × (List Int) × (List Int)) → Option ((List Int) × (List Int))
  | (x0, x1, x2, x3, x4) =>
  iteP (decide (x0 < x1)) (
    iteP (within x0 (List.length x2)) (
      Option.bind (x2[Int.toNat x0]?) fun y0 =>
      Option.bind (F27 N (Prod.fst y0, Prod.fst (Prod.snd y0), Prod.fst (Prod.snd (Prod.snd y0)))) fun y1 =>
      iteP (!y1) (
        Option.bind (f (IntKind.wrap IntKind.i64 (x0 + (1 : Int)), x1, x2, x3, x4)) fun r => some r) (
        iteP (Prod.fst (Prod.snd y0) == (0 : Int)) (
          iteP (within (Prod.fst y0) (List.length x3)) (
            Option.bind (x3[Int.toNat (Prod.fst y0)]?) fun y2 =>
            iteP (within (Prod.fst y0) (List.length x3)) (
              Option.bind (x3[Int.toNat (Prod.fst y0)]?) fun y3 =>
              Option.bind (f (IntKind.wrap IntKind.i64 (x0 + (1 : Int)), x1, x2, List.set x3 (Int.toNat (Prod.fst y0)) (IntKind.wrap IntKind.i64 (y2 + (1 : Int))), x4)) fun r => some r) (
              none)) (
            none)) (
          Option.bind (F103 N (Prod.fst (Prod.snd y0))) fun y4 =>
          Option.bind (F104 N (Prod.fst (Prod.snd (Prod.snd y0)))) fun y5 =>
          iteP (within (Prod.fst y4) (List.length x3)) (
            Option.bind (x3[Int.toNat (Prod.fst y4)]?) fun y6 =>
            iteP (within (Prod.fst y4) (List.length x3)) (
              Option.bind (x3[Int.toNat (Prod.fst y4)]?) fun y7 =>
              iteP (within (Prod.fst y5) (List.length x4)) (
                Option.bind (x4[Int.toNat (Prod.fst y5)]?) fun y8 =>
                iteP (within (Prod.fst y5) (List.length x4)) (
                  Option.bind (x4[Int.toNat (Prod.fst y5)]?) fun y9 =>
                  Option.bind (f (IntKind.wrap IntKind.i64 (x0 + (1 : Int)), x1, x2, List.set x3 (Int.toNat (Prod.fst y4)) (IntKind.wrap IntKind.i64 (y6 + (1 : Int))), List.set x4 (Int.toNat (Prod.fst y5)) (IntKind.wrap IntKind.i64 (y8 + (1 : Int))))) fun r => some r) (
                  none)) (
                none)) (
              none)) (
            none)))) (
      none)) (
    some ((x3, x4)))

noncomputable def F66_122 (N : Nat) : Nat → (Int × Int × (List (Int × (Int × (Int × Unit)))) × (List Int) × (List Int)) → Option ((List Int) × (List Int))
  | 0, _ => none
  | k + 1, x => B66_122 N (F66_122 N k) x

noncomputable def C66_122 (N : Nat) (k : Nat) : Cut := ⟨[18, 17, 16, 2, 3], X66_122, tellX I66_122 (F66_122 N k) O66_122⟩

theorem B66_122_eq (N : Nat) (f : (Int × Int × (List (Int × (Int × (Int × Unit)))) × (List Int) × (List Int)) → Option ((List Int) × (List Int))) (x0 : Int) (x1 : Int) (x2 : (List (Int × (Int × (Int × Unit))))) (x3 : (List Int)) (x4 : (List Int)) : (roundEv (mkE Tryz.prog ownT (tab66 N) []) Tryz.f66.ntmps A66 (loopAt (bod Tryz.f66) 122) 122 ⟨[18, 17, 16, 2, 3], X66_122, tellX I66_122 f O66_122⟩ (J66_122 (x0, x1, x2, x3, x4))).run D66_122 = B66_122 N f (x0, x1, x2, x3, x4) := by kernel_rfl

theorem C66_122_ok (N : Nat) (k : Nat) : ∀ c', At (bod Tryz.f66) 122 c' → CutOK Tryz.prog Tryz.f66.ntmps (idsL A66) c' (C66_122 N k) :=
  loop_ok (E := (mkE Tryz.prog ownT (tab66 N) [])) (mkE_ok mix (tab66_ok N)) (cutsIn_ok trivial) (fuel := 200) (by decide +kernel) (by kernel_rfl) I66_122_ok D66_122_ok (B66_122 N) (F66_122 N) (fun _ => rfl) (fun _ _ => rfl) (fun f x => match x with | (x0, x1, x2, x3, x4) => B66_122_eq N f x0 x1 x2 x3 x4) k

noncomputable def O66 (r : (List Int) × (List Int)) : Tr (Pk) := .ret ⟨[.tup [.sl 0 (none), .sl 1 (none)]], [some (.row (Ty.int IntKind.i64) 3 (r.1)), some (.row (Ty.int IntKind.i64) 3 (r.2))]⟩

noncomputable def D66 : Pk → Option ((List Int) × (List Int))
  | ⟨[.tup [.sl 0 (none), .sl 1 (none)]], [some (.row (Ty.int IntKind.i64) 3 x0), some (.row (Ty.int IntKind.i64) 3 x1)]⟩ => some ((x0, x1))
  | _ => none

theorem D66_ok : ∀ y r, D66 y = some r → ∀ z, (O66 r).to z → y = z := by
  intro y r h
  unfold D66 at h
  split at h <;> first | (cases h; intro z hz; exact Option.some.inj hz) | cases h

noncomputable def F66 (N : Nat) : ((List (Int × (Int × (Int × Unit))))) → Option ((List Int) × (List Int))
  | x0 =>
  Option.bind (F66_122 N N ((0 : Int), (↑(List.length x0) : Int), x0, [(0 : Int), (0 : Int), (0 : Int), (0 : Int), (0 : Int), (0 : Int), (0 : Int), (0 : Int), (0 : Int), (0 : Int), (0 : Int), (0 : Int), (0 : Int), (0 : Int), (0 : Int), (0 : Int), (0 : Int), (0 : Int), (0 : Int), (0 : Int), (0 : Int), (0 : Int), (0 : Int), (0 : Int), (0 : Int), (0 : Int), (0 : Int), (0 : Int), (0 : Int), (0 : Int), (0 : Int), (0 : Int), (0 : Int), (0 : Int), (0 : Int), (0 : Int), (0 : Int), (0 : Int), (0 : Int), (0 : Int), (0 : Int), (0 : Int), (0 : Int), (0 : Int), (0 : Int), (0 : Int), (0 : Int), (0 : Int), (0 : Int), (0 : Int), (0 : Int), (0 : Int), (0 : Int), (0 : Int), (0 : Int), (0 : Int), (0 : Int), (0 : Int), (0 : Int), (0 : Int), (0 : Int), (0 : Int), (0 : Int), (0 : Int), (0 : Int), (0 : Int), (0 : Int), (0 : Int), (0 : Int), (0 : Int), (0 : Int), (0 : Int), (0 : Int), (0 : Int), (0 : Int), (0 : Int), (0 : Int), (0 : Int), (0 : Int), (0 : Int), (0 : Int), (0 : Int), (0 : Int), (0 : Int), (0 : Int), (0 : Int), (0 : Int), (0 : Int), (0 : Int), (0 : Int), (0 : Int), (0 : Int), (0 : Int), (0 : Int), (0 : Int), (0 : Int), (0 : Int), (0 : Int), (0 : Int), (0 : Int), (0 : Int), (0 : Int), (0 : Int), (0 : Int), (0 : Int), (0 : Int), (0 : Int), (0 : Int), (0 : Int), (0 : Int), (0 : Int), (0 : Int), (0 : Int), (0 : Int), (0 : Int), (0 : Int), (0 : Int), (0 : Int), (0 : Int), (0 : Int), (0 : Int), (0 : Int), (0 : Int), (0 : Int), (0 : Int), (0 : Int), (0 : Int), (0 : Int), (0 : Int), (0 : Int), (0 : Int), (0 : Int), (0 : Int), (0 : Int), (0 : Int), (0 : Int), (0 : Int), (0 : Int), (0 : Int), (0 : Int), (0 : Int), (0 : Int), (0 : Int), (0 : Int), (0 : Int), (0 : Int), (0 : Int), (0 : Int), (0 : Int), (0 : Int), (0 : Int), (0 : Int), (0 : Int), (0 : Int), (0 : Int), (0 : Int), (0 : Int), (0 : Int), (0 : Int), (0 : Int), (0 : Int), (0 : Int), (0 : Int), (0 : Int), (0 : Int), (0 : Int), (0 : Int), (0 : Int), (0 : Int), (0 : Int), (0 : Int), (0 : Int), (0 : Int), (0 : Int), (0 : Int), (0 : Int), (0 : Int), (0 : Int), (0 : Int), (0 : Int), (0 : Int), (0 : Int), (0 : Int), (0 : Int), (0 : Int), (0 : Int), (0 : Int), (0 : Int), (0 : Int), (0 : Int), (0 : Int), (0 : Int), (0 : Int), (0 : Int), (0 : Int), (0 : Int), (0 : Int), (0 : Int), (0 : Int), (0 : Int), (0 : Int), (0 : Int), (0 : Int), (0 : Int), (0 : Int), (0 : Int), (0 : Int), (0 : Int), (0 : Int), (0 : Int), (0 : Int), (0 : Int), (0 : Int), (0 : Int), (0 : Int), (0 : Int), (0 : Int), (0 : Int), (0 : Int), (0 : Int), (0 : Int), (0 : Int), (0 : Int), (0 : Int), (0 : Int), (0 : Int), (0 : Int), (0 : Int), (0 : Int), (0 : Int), (0 : Int), (0 : Int), (0 : Int), (0 : Int), (0 : Int), (0 : Int), (0 : Int), (0 : Int), (0 : Int), (0 : Int), (0 : Int), (0 : Int), (0 : Int), (0 : Int), (0 : Int), (0 : Int), (0 : Int), (0 : Int), (0 : Int), (0 : Int), (0 : Int), (0 : Int), (0 : Int), (0 : Int), (0 : Int), (0 : Int), (1 : Int), (0 : Int), (0 : Int), (0 : Int), (0 : Int), (0 : Int), (0 : Int), (0 : Int), (0 : Int), (0 : Int), (0 : Int), (0 : Int), (0 : Int), (0 : Int), (0 : Int), (0 : Int), (0 : Int), (0 : Int), (0 : Int), (0 : Int), (0 : Int), (0 : Int), (0 : Int), (0 : Int), (0 : Int), (0 : Int), (0 : Int), (0 : Int), (0 : Int), (0 : Int)], List.replicate (30 : Nat) (0 : Int))) fun y0 =>
  some ((Prod.fst y0, Prod.snd y0))

theorem F66_eq (N : Nat) (x0 : (List (Int × (Int × (Int × Unit))))) : (fnEv (mkE Tryz.prog ownT (tab66 N) [(122, (C66_122 N N))]) Tryz.f66 (J66 x0)).run D66 = F66 N x0 := by kernel_rfl

noncomputable def T66 (N : Nat) : Pk → Tr Pk := tell I66 (F66 N) O66

theorem T66_ok (N : Nat) : FOK Tryz.prog 66 (T66 N) :=
  (tell_ok (E := (mkE Tryz.prog ownT (tab66 N) [(122, (C66_122 N N))])) (mkE_ok mix (tab66_ok N)) Tryz.func66 (show Tryz.f66.body = some (bod Tryz.f66) by kernel_rfl) (by decide +kernel) (F := F66 N) I66_ok D66_ok (args := A66) (fun _ => by kernel_rfl) (fun _ => by show 1 ≤ Tryz.f66.ntmps; exact of_decide_eq_true (by kernel_rfl)) (cutsIn_ok ⟨fun c' h => (C66_122_ok N N c' h), trivial⟩) (fun x => match x with | x0 => F66_eq N x0))

/-! ## f102: mirador/symbols.has -/

noncomputable def I102 : Pk → Option ((List (Int × (Int × Unit))) × (List Int))
  | ⟨[.ro (.cons (.int .i64) (.cons (.int .i64) .unit)) x0, .ro (.int .i64) x1], []⟩ => some (x0, x1)
  | _ => none

noncomputable def J102 (x : (List (Int × (Int × Unit))) × (List Int)) : Pk := ⟨[.ro (.cons (.int .i64) (.cons (.int .i64) .unit)) (x.1), .ro (.int .i64) (x.2)], []⟩

theorem I102_ok : ∀ pk x, I102 pk = some x → pk = J102 x := by
  intro pk x h
  unfold I102 at h
  split at h <;> first | (cases h; rfl) | cases h

noncomputable def A102 : List TV := []

noncomputable def tab102 (N : Nat) : List (Nat × (Pk → Tr Pk)) := []

theorem tab102_ok (N : Nat) : TabOK Tryz.prog (tab102 N) := trivial

def X102_26 : Ex → List Nat
  | .ret => [4]
  | .exit 0 => []
  | _ => []

noncomputable def I102_26 : Pk → Option (Int × (List Int) × (List (Int × (Int × Unit))) × Int)
  | ⟨[.v (.int .i64 x0), .ro (Ty.int IntKind.i64) x1, .ro (Ty.cons (Ty.int IntKind.i64) (Ty.cons (Ty.int IntKind.i64) Ty.unit)) x2, .v (.int .i64 x3)], []⟩ => some (x0, x1, x2, x3)
  | _ => none

noncomputable def J102_26 (x : Int × (List Int) × (List (Int × (Int × Unit))) × Int) : Pk := ⟨[.v (.int .i64 (x.1)), .ro (Ty.int IntKind.i64) (x.2.1), .ro (Ty.cons (Ty.int IntKind.i64) (Ty.cons (Ty.int IntKind.i64) Ty.unit)) (x.2.2.1), .v (.int .i64 (x.2.2.2))], []⟩

theorem I102_26_ok : ∀ pk x, I102_26 pk = some x → pk = J102_26 x := by
  intro pk x h
  unfold I102_26 at h
  split at h <;> first | (cases h; rfl) | cases h

noncomputable def O102_26 (r : ((Bool) ⊕ (Unit))) : Tr (Ex × Pk) := .sum _ _ r (fun u => .ret (.ret, ⟨[.v (.bool (u))], []⟩)) (fun v => .ret (.exit 0, ⟨[], []⟩))

noncomputable def D102_26 : Ex × Pk → Option (((Bool) ⊕ (Unit)))
  | (.ret, ⟨[.v (.bool x0)], []⟩) => some (.inl (x0))
  | (.exit 0, ⟨[], []⟩) => some (.inr (()))
  | _ => none

theorem D102_26_ok : ∀ y r, D102_26 y = some r → ∀ z, (O102_26 r).to z → y = z := by
  intro y r h
  unfold D102_26 at h
  split at h <;> first | (cases h; intro z hz; exact Option.some.inj hz) | cases h

noncomputable def B102_26 (N : Nat) (f : (Int × (List Int) × (List (Int × (Int × Unit))) × Int) → Option (((Bool) ⊕ (Unit)))) : (Int × (List Int) × (List (Int × (Int × Unit))) × Int) → Option (((Bool) ⊕ (Unit)))
  | (x0, x1, x2, x3) =>
  iteP (decide (x3 < x0)) (
    iteP (within x3 (List.length x1)) (
      Option.bind (x1[Int.toNat x3]?) fun y0 =>
      iteP (decide (y0 > (0 : Int))) (
        iteP (decide (x3 ≥ (↑(List.length x2) : Int))) (
          some (.inl (false))) (
          iteP (within x3 (List.length x2)) (
            Option.bind (x2[Int.toNat x3]?) fun y1 =>
            iteP (Prod.fst (Prod.snd y1) == (0 : Int)) (
              some (.inl (false))) (
              Option.bind (f (x0, x1, x2, IntKind.wrap IntKind.i64 (x3 + (1 : Int)))) fun r => match r with | .inl (y) => some (.inl (y)) | .inr (y) => some (.inr (y)))) (
            none))) (
        Option.bind (f (x0, x1, x2, IntKind.wrap IntKind.i64 (x3 + (1 : Int)))) fun r => match r with | .inl (y) => some (.inl (y)) | .inr (y) => some (.inr (y)))) (
      none)) (
    some (.inr (())))

noncomputable def F102_26 (N : Nat) : Nat → (Int × (List Int) × (List (Int × (Int × Unit))) × Int) → Option (((Bool) ⊕ (Unit)))
  | 0, _ => none
  | k + 1, x => B102_26 N (F102_26 N k) x

noncomputable def C102_26 (N : Nat) (k : Nat) : Cut := ⟨[8, 7, 0, 9], X102_26, tellX I102_26 (F102_26 N k) O102_26⟩

theorem B102_26_eq (N : Nat) (f : (Int × (List Int) × (List (Int × (Int × Unit))) × Int) → Option (((Bool) ⊕ (Unit)))) (x0 : Int) (x1 : (List Int)) (x2 : (List (Int × (Int × Unit)))) (x3 : Int) : (roundEv (mkE Tryz.prog ownT (tab102 N) []) Tryz.f102.ntmps A102 (loopAt (bod Tryz.f102) 26) 26 ⟨[8, 7, 0, 9], X102_26, tellX I102_26 f O102_26⟩ (J102_26 (x0, x1, x2, x3))).run D102_26 = B102_26 N f (x0, x1, x2, x3) := by kernel_rfl

theorem C102_26_ok (N : Nat) (k : Nat) : ∀ c', At (bod Tryz.f102) 26 c' → CutOK Tryz.prog Tryz.f102.ntmps (idsL A102) c' (C102_26 N k) :=
  loop_ok (E := (mkE Tryz.prog ownT (tab102 N) [])) (mkE_ok mix (tab102_ok N)) (cutsIn_ok trivial) (fuel := 200) (by decide +kernel) (by kernel_rfl) I102_26_ok D102_26_ok (B102_26 N) (F102_26 N) (fun _ => rfl) (fun _ _ => rfl) (fun f x => match x with | (x0, x1, x2, x3) => B102_26_eq N f x0 x1 x2 x3) k

noncomputable def O102 (r : Bool) : Tr (Pk) := .ret ⟨[.v (.bool (r))], []⟩

noncomputable def D102 : Pk → Option (Bool)
  | ⟨[.v (.bool x0)], []⟩ => some (x0)
  | _ => none

theorem D102_ok : ∀ y r, D102 y = some r → ∀ z, (O102 r).to z → y = z := by
  intro y r h
  unfold D102 at h
  split at h <;> first | (cases h; intro z hz; exact Option.some.inj hz) | cases h

noncomputable def F102 (N : Nat) : ((List (Int × (Int × Unit))) × (List Int)) → Option (Bool)
  | (x0, x1) =>
  Option.bind (F102_26 N N ((↑(List.length x1) : Int), x1, x0, (0 : Int))) fun y0 =>
  match y0 with
  | .inl y1 =>
    some (y1)
  | .inr y1 =>
    some (true)

theorem F102_eq (N : Nat) (x0 : (List (Int × (Int × Unit)))) (x1 : (List Int)) : (fnEv (mkE Tryz.prog ownT (tab102 N) [(26, (C102_26 N N))]) Tryz.f102 (J102 (x0, x1))).run D102 = F102 N (x0, x1) := by kernel_rfl

noncomputable def T102 (N : Nat) : Pk → Tr Pk := tell I102 (F102 N) O102

theorem T102_ok (N : Nat) : FOK Tryz.prog 102 (T102 N) :=
  (tell_ok (E := (mkE Tryz.prog ownT (tab102 N) [(26, (C102_26 N N))])) (mkE_ok mix (tab102_ok N)) Tryz.func102 (show Tryz.f102.body = some (bod Tryz.f102) by kernel_rfl) (by decide +kernel) (F := F102 N) I102_ok D102_ok (args := A102) (fun _ => by kernel_rfl) (fun _ => by show 2 ≤ Tryz.f102.ntmps; exact of_decide_eq_true (by kernel_rfl)) (cutsIn_ok ⟨fun c' h => (C102_26_ok N N c' h), trivial⟩) (fun x => match x with | (x0, x1) => F102_eq N x0 x1))

/-! ## f156: math/bits.ReverseBytes64 -/

noncomputable def I156 : Pk → Option (Int)
  | ⟨[.v (.int .u64 x0)], []⟩ => some x0
  | _ => none

noncomputable def J156 (x : Int) : Pk := ⟨[.v (.int .u64 (x))], []⟩

theorem I156_ok : ∀ pk x, I156 pk = some x → pk = J156 x := by
  intro pk x h
  unfold I156 at h
  split at h <;> first | (cases h; rfl) | cases h

noncomputable def A156 : List TV := []

noncomputable def tab156 (N : Nat) : List (Nat × (Pk → Tr Pk)) := []

theorem tab156_ok (N : Nat) : TabOK Tryz.prog (tab156 N) := trivial

noncomputable def O156 (r : Int) : Tr (Pk) := .ret ⟨[.v (.int .u64 (r))], []⟩

noncomputable def D156 : Pk → Option (Int)
  | ⟨[.v (.int .u64 x0)], []⟩ => some (x0)
  | _ => none

theorem D156_ok : ∀ y r, D156 y = some r → ∀ z, (O156 r).to z → y = z := by
  intro y r h
  unfold D156 at h
  split at h <;> first | (cases h; intro z hz; exact Option.some.inj hz) | cases h

noncomputable def F156 (N : Nat) : (Int) → Option (Int)
  | x0 =>
  some (IntKind.wrap IntKind.u64 (↑(BitVec.toNat (BitVec.ofInt (64 : Nat) (Int.fdiv (IntKind.wrap IntKind.u64 (↑(BitVec.toNat (BitVec.ofInt (64 : Nat) (IntKind.wrap IntKind.u64 (↑(BitVec.toNat (BitVec.ofInt (64 : Nat) (Int.fdiv (IntKind.wrap IntKind.u64 (↑(BitVec.toNat (BitVec.ofInt (64 : Nat) (IntKind.wrap IntKind.u64 (↑(BitVec.toNat (BitVec.ofInt (64 : Nat) (Int.fdiv x0 (256 : Int)) &&& BitVec.ofInt (64 : Nat) (71777214294589695 : Int))) : Int)) ||| BitVec.ofInt (64 : Nat) (IntKind.wrap IntKind.u64 (IntKind.wrap IntKind.u64 (↑(BitVec.toNat (BitVec.ofInt (64 : Nat) x0 &&& BitVec.ofInt (64 : Nat) (71777214294589695 : Int))) : Int) * (256 : Int))))) : Int)) (65536 : Int)) &&& BitVec.ofInt (64 : Nat) (281470681808895 : Int))) : Int)) ||| BitVec.ofInt (64 : Nat) (IntKind.wrap IntKind.u64 (IntKind.wrap IntKind.u64 (↑(BitVec.toNat (BitVec.ofInt (64 : Nat) (IntKind.wrap IntKind.u64 (↑(BitVec.toNat (BitVec.ofInt (64 : Nat) (IntKind.wrap IntKind.u64 (↑(BitVec.toNat (BitVec.ofInt (64 : Nat) (Int.fdiv x0 (256 : Int)) &&& BitVec.ofInt (64 : Nat) (71777214294589695 : Int))) : Int)) ||| BitVec.ofInt (64 : Nat) (IntKind.wrap IntKind.u64 (IntKind.wrap IntKind.u64 (↑(BitVec.toNat (BitVec.ofInt (64 : Nat) x0 &&& BitVec.ofInt (64 : Nat) (71777214294589695 : Int))) : Int) * (256 : Int))))) : Int)) &&& BitVec.ofInt (64 : Nat) (281470681808895 : Int))) : Int) * (65536 : Int))))) : Int)) (4294967296 : Int)) ||| BitVec.ofInt (64 : Nat) (IntKind.wrap IntKind.u64 (IntKind.wrap IntKind.u64 (↑(BitVec.toNat (BitVec.ofInt (64 : Nat) (IntKind.wrap IntKind.u64 (↑(BitVec.toNat (BitVec.ofInt (64 : Nat) (Int.fdiv (IntKind.wrap IntKind.u64 (↑(BitVec.toNat (BitVec.ofInt (64 : Nat) (IntKind.wrap IntKind.u64 (↑(BitVec.toNat (BitVec.ofInt (64 : Nat) (Int.fdiv x0 (256 : Int)) &&& BitVec.ofInt (64 : Nat) (71777214294589695 : Int))) : Int)) ||| BitVec.ofInt (64 : Nat) (IntKind.wrap IntKind.u64 (IntKind.wrap IntKind.u64 (↑(BitVec.toNat (BitVec.ofInt (64 : Nat) x0 &&& BitVec.ofInt (64 : Nat) (71777214294589695 : Int))) : Int) * (256 : Int))))) : Int)) (65536 : Int)) &&& BitVec.ofInt (64 : Nat) (281470681808895 : Int))) : Int)) ||| BitVec.ofInt (64 : Nat) (IntKind.wrap IntKind.u64 (IntKind.wrap IntKind.u64 (↑(BitVec.toNat (BitVec.ofInt (64 : Nat) (IntKind.wrap IntKind.u64 (↑(BitVec.toNat (BitVec.ofInt (64 : Nat) (IntKind.wrap IntKind.u64 (↑(BitVec.toNat (BitVec.ofInt (64 : Nat) (Int.fdiv x0 (256 : Int)) &&& BitVec.ofInt (64 : Nat) (71777214294589695 : Int))) : Int)) ||| BitVec.ofInt (64 : Nat) (IntKind.wrap IntKind.u64 (IntKind.wrap IntKind.u64 (↑(BitVec.toNat (BitVec.ofInt (64 : Nat) x0 &&& BitVec.ofInt (64 : Nat) (71777214294589695 : Int))) : Int) * (256 : Int))))) : Int)) &&& BitVec.ofInt (64 : Nat) (281470681808895 : Int))) : Int) * (65536 : Int))))) : Int) * (4294967296 : Int))))) : Int))

theorem F156_eq (N : Nat) (x0 : Int) : (fnEv (mkE Tryz.prog ownT (tab156 N) []) Tryz.f156 (J156 x0)).run D156 = F156 N x0 := by kernel_rfl

noncomputable def T156 (N : Nat) : Pk → Tr Pk := tell I156 (F156 N) O156

theorem T156_ok (N : Nat) : FOK Tryz.prog 156 (T156 N) :=
  (tell_ok (E := (mkE Tryz.prog ownT (tab156 N) [])) (mkE_ok mix (tab156_ok N)) Tryz.func156 (show Tryz.f156.body = some (bod Tryz.f156) by kernel_rfl) (by decide +kernel) (F := F156 N) I156_ok D156_ok (args := A156) (fun _ => by kernel_rfl) (fun _ => by show 1 ≤ Tryz.f156.ntmps; exact of_decide_eq_true (by kernel_rfl)) (cutsIn_ok trivial) (fun x => match x with | x0 => F156_eq N x0))

/-! ## f128: math/bits.Reverse64 -/

noncomputable def I128 : Pk → Option (Int)
  | ⟨[.v (.int .u64 x0)], []⟩ => some x0
  | _ => none

noncomputable def J128 (x : Int) : Pk := ⟨[.v (.int .u64 (x))], []⟩

theorem I128_ok : ∀ pk x, I128 pk = some x → pk = J128 x := by
  intro pk x h
  unfold I128 at h
  split at h <;> first | (cases h; rfl) | cases h

noncomputable def A128 : List TV := []

noncomputable def tab128 (N : Nat) : List (Nat × (Pk → Tr Pk)) := [(156, T156 N)]

theorem tab128_ok (N : Nat) : TabOK Tryz.prog (tab128 N) := ⟨T156_ok N, trivial⟩

noncomputable def O128 (r : Int) : Tr (Pk) := .ret ⟨[.v (.int .u64 (r))], []⟩

noncomputable def D128 : Pk → Option (Int)
  | ⟨[.v (.int .u64 x0)], []⟩ => some (x0)
  | _ => none

theorem D128_ok : ∀ y r, D128 y = some r → ∀ z, (O128 r).to z → y = z := by
  intro y r h
  unfold D128 at h
  split at h <;> first | (cases h; intro z hz; exact Option.some.inj hz) | cases h

noncomputable def F128 (N : Nat) : (Int) → Option (Int)
  | x0 =>
  Option.bind (F156 N (IntKind.wrap IntKind.u64 (↑(BitVec.toNat (BitVec.ofInt (64 : Nat) (IntKind.wrap IntKind.u64 (↑(BitVec.toNat (BitVec.ofInt (64 : Nat) (Int.fdiv (IntKind.wrap IntKind.u64 (↑(BitVec.toNat (BitVec.ofInt (64 : Nat) (IntKind.wrap IntKind.u64 (↑(BitVec.toNat (BitVec.ofInt (64 : Nat) (Int.fdiv (IntKind.wrap IntKind.u64 (↑(BitVec.toNat (BitVec.ofInt (64 : Nat) (IntKind.wrap IntKind.u64 (↑(BitVec.toNat (BitVec.ofInt (64 : Nat) (Int.fdiv x0 (2 : Int)) &&& BitVec.ofInt (64 : Nat) (6148914691236517205 : Int))) : Int)) ||| BitVec.ofInt (64 : Nat) (IntKind.wrap IntKind.u64 (IntKind.wrap IntKind.u64 (↑(BitVec.toNat (BitVec.ofInt (64 : Nat) x0 &&& BitVec.ofInt (64 : Nat) (6148914691236517205 : Int))) : Int) * (2 : Int))))) : Int)) (4 : Int)) &&& BitVec.ofInt (64 : Nat) (3689348814741910323 : Int))) : Int)) ||| BitVec.ofInt (64 : Nat) (IntKind.wrap IntKind.u64 (IntKind.wrap IntKind.u64 (↑(BitVec.toNat (BitVec.ofInt (64 : Nat) (IntKind.wrap IntKind.u64 (↑(BitVec.toNat (BitVec.ofInt (64 : Nat) (IntKind.wrap IntKind.u64 (↑(BitVec.toNat (BitVec.ofInt (64 : Nat) (Int.fdiv x0 (2 : Int)) &&& BitVec.ofInt (64 : Nat) (6148914691236517205 : Int))) : Int)) ||| BitVec.ofInt (64 : Nat) (IntKind.wrap IntKind.u64 (IntKind.wrap IntKind.u64 (↑(BitVec.toNat (BitVec.ofInt (64 : Nat) x0 &&& BitVec.ofInt (64 : Nat) (6148914691236517205 : Int))) : Int) * (2 : Int))))) : Int)) &&& BitVec.ofInt (64 : Nat) (3689348814741910323 : Int))) : Int) * (4 : Int))))) : Int)) (16 : Int)) &&& BitVec.ofInt (64 : Nat) (1085102592571150095 : Int))) : Int)) ||| BitVec.ofInt (64 : Nat) (IntKind.wrap IntKind.u64 (IntKind.wrap IntKind.u64 (↑(BitVec.toNat (BitVec.ofInt (64 : Nat) (IntKind.wrap IntKind.u64 (↑(BitVec.toNat (BitVec.ofInt (64 : Nat) (IntKind.wrap IntKind.u64 (↑(BitVec.toNat (BitVec.ofInt (64 : Nat) (Int.fdiv (IntKind.wrap IntKind.u64 (↑(BitVec.toNat (BitVec.ofInt (64 : Nat) (IntKind.wrap IntKind.u64 (↑(BitVec.toNat (BitVec.ofInt (64 : Nat) (Int.fdiv x0 (2 : Int)) &&& BitVec.ofInt (64 : Nat) (6148914691236517205 : Int))) : Int)) ||| BitVec.ofInt (64 : Nat) (IntKind.wrap IntKind.u64 (IntKind.wrap IntKind.u64 (↑(BitVec.toNat (BitVec.ofInt (64 : Nat) x0 &&& BitVec.ofInt (64 : Nat) (6148914691236517205 : Int))) : Int) * (2 : Int))))) : Int)) (4 : Int)) &&& BitVec.ofInt (64 : Nat) (3689348814741910323 : Int))) : Int)) ||| BitVec.ofInt (64 : Nat) (IntKind.wrap IntKind.u64 (IntKind.wrap IntKind.u64 (↑(BitVec.toNat (BitVec.ofInt (64 : Nat) (IntKind.wrap IntKind.u64 (↑(BitVec.toNat (BitVec.ofInt (64 : Nat) (IntKind.wrap IntKind.u64 (↑(BitVec.toNat (BitVec.ofInt (64 : Nat) (Int.fdiv x0 (2 : Int)) &&& BitVec.ofInt (64 : Nat) (6148914691236517205 : Int))) : Int)) ||| BitVec.ofInt (64 : Nat) (IntKind.wrap IntKind.u64 (IntKind.wrap IntKind.u64 (↑(BitVec.toNat (BitVec.ofInt (64 : Nat) x0 &&& BitVec.ofInt (64 : Nat) (6148914691236517205 : Int))) : Int) * (2 : Int))))) : Int)) &&& BitVec.ofInt (64 : Nat) (3689348814741910323 : Int))) : Int) * (4 : Int))))) : Int)) &&& BitVec.ofInt (64 : Nat) (1085102592571150095 : Int))) : Int) * (16 : Int))))) : Int))) fun y0 =>
  some (y0)

theorem F128_eq (N : Nat) (x0 : Int) : (fnEv (mkE Tryz.prog ownT (tab128 N) []) Tryz.f128 (J128 x0)).run D128 = F128 N x0 := by kernel_rfl

noncomputable def T128 (N : Nat) : Pk → Tr Pk := tell I128 (F128 N) O128

theorem T128_ok (N : Nat) : FOK Tryz.prog 128 (T128 N) :=
  (tell_ok (E := (mkE Tryz.prog ownT (tab128 N) [])) (mkE_ok mix (tab128_ok N)) Tryz.func128 (show Tryz.f128.body = some (bod Tryz.f128) by kernel_rfl) (by decide +kernel) (F := F128 N) I128_ok D128_ok (args := A128) (fun _ => by kernel_rfl) (fun _ => by show 1 ≤ Tryz.f128.ntmps; exact of_decide_eq_true (by kernel_rfl)) (cutsIn_ok trivial) (fun x => match x with | x0 => F128_eq N x0))

/-! ## f98: mirador/bitio.Reverse -/

noncomputable def I98 : Pk → Option (Int × Int)
  | ⟨[.agg [.v (.int .i64 x0), .v (.int .i64 x1)]], []⟩ => some (x0, x1)
  | _ => none

noncomputable def J98 (x : Int × Int) : Pk := ⟨[.agg [.v (.int .i64 (x.1)), .v (.int .i64 (x.2))]], []⟩

theorem I98_ok : ∀ pk x, I98 pk = some x → pk = J98 x := by
  intro pk x h
  unfold I98 at h
  split at h <;> first | (cases h; rfl) | cases h

noncomputable def A98 : List TV := []

noncomputable def tab98 (N : Nat) : List (Nat × (Pk → Tr Pk)) := [(44, T44 N), (45, T45 N), (128, T128 N)]

theorem tab98_ok (N : Nat) : TabOK Tryz.prog (tab98 N) := ⟨T44_ok N, ⟨T45_ok N, ⟨T128_ok N, trivial⟩⟩⟩

noncomputable def O98 (r : Int) : Tr (Pk) := .ret ⟨[.v (.int .i64 (r))], []⟩

noncomputable def D98 : Pk → Option (Int)
  | ⟨[.v (.int .i64 x0)], []⟩ => some (x0)
  | _ => none

theorem D98_ok : ∀ y r, D98 y = some r → ∀ z, (O98 r).to z → y = z := by
  intro y r h
  unfold D98 at h
  split at h <;> first | (cases h; intro z hz; exact Option.some.inj hz) | cases h

noncomputable def F98 (N : Nat) : (Int × Int) → Option (Int)
  | (x0, x1) =>
  Option.bind (F44 N x1) fun y0 =>
  Option.bind (F45 N (y0, x0)) fun y1 =>
  Option.bind (F128 N (IntKind.wrap IntKind.u64 y1)) fun y2 =>
  iteP (decide (IntKind.wrap IntKind.i64 ((64 : Int) - y0) < (0 : Int))) (
    none) (
    some (IntKind.wrap IntKind.i64 (Int.fdiv y2 ((2 : Int) ^ min (Int.toNat (IntKind.wrap IntKind.i64 ((64 : Int) - y0))) (64 : Nat)))))

theorem F98_eq (N : Nat) (x0 : Int) (x1 : Int) : (fnEv (mkE Tryz.prog ownT (tab98 N) []) Tryz.f98 (J98 (x0, x1))).run D98 = F98 N (x0, x1) := by kernel_rfl

noncomputable def T98 (N : Nat) : Pk → Tr Pk := tell I98 (F98 N) O98

theorem T98_ok (N : Nat) : FOK Tryz.prog 98 (T98 N) :=
  (tell_ok (E := (mkE Tryz.prog ownT (tab98 N) [])) (mkE_ok mix (tab98_ok N)) Tryz.func98 (show Tryz.f98.body = some (bod Tryz.f98) by kernel_rfl) (by decide +kernel) (F := F98 N) I98_ok D98_ok (args := A98) (fun _ => by kernel_rfl) (fun _ => by show 1 ≤ Tryz.f98.ntmps; exact of_decide_eq_true (by kernel_rfl)) (cutsIn_ok trivial) (fun x => match x with | (x0, x1) => F98_eq N x0 x1))

/-! ## f59: (*mirador/bitio.Writer).Code -/

noncomputable def I59 : Pk → Option (Int × Int × Int × Int × (List Int))
  | ⟨[.adr 0 [], .agg [.v (.int .i64 x0), .v (.int .i64 x1)]], [some (.var (.agg [.sl 1 none, .v (.int .i64 x2), .v (.int .i64 x3)])), some (.row (.int .u8) 5 x4)]⟩ => some (x0, x1, x2, x3, x4)
  | _ => none

noncomputable def J59 (x : Int × Int × Int × Int × (List Int)) : Pk := ⟨[.adr 0 [], .agg [.v (.int .i64 (x.1)), .v (.int .i64 (x.2.1))]], [some (.var (.agg [.sl 1 none, .v (.int .i64 (x.2.2.1)), .v (.int .i64 (x.2.2.2.1))])), some (.row (.int .u8) 5 (x.2.2.2.2))]⟩

theorem I59_ok : ∀ pk x, I59 pk = some x → pk = J59 x := by
  intro pk x h
  unfold I59 at h
  split at h <;> first | (cases h; rfl) | cases h

noncomputable def A59 : List TV := [.adr 0 []]

noncomputable def tab59 (N : Nat) : List (Nat × (Pk → Tr Pk)) := [(98, T98 N), (14, T14 N)]

theorem tab59_ok (N : Nat) : TabOK Tryz.prog (tab59 N) := ⟨T98_ok N, ⟨T14_ok N, trivial⟩⟩

noncomputable def O59 (r : Int × Int × (List Int)) : Tr (Pk) := .ret ⟨[.tup []], [some (.var (.agg [.sl 1 (none), .v (.int .i64 (r.1)), .v (.int .i64 (r.2.1))])), some (.row (Ty.int IntKind.u8) 5 (r.2.2))]⟩

noncomputable def D59 : Pk → Option (Int × Int × (List Int))
  | ⟨[.tup []], [some (.var (.agg [.sl 1 (none), .v (.int .i64 x0), .v (.int .i64 x1)])), some (.row (Ty.int IntKind.u8) 5 x2)]⟩ => some ((x0, x1, x2))
  | _ => none

theorem D59_ok : ∀ y r, D59 y = some r → ∀ z, (O59 r).to z → y = z := by
  intro y r h
  unfold D59 at h
  split at h <;> first | (cases h; intro z hz; exact Option.some.inj hz) | cases h

noncomputable def F59 (N : Nat) : (Int × Int × Int × Int × (List Int)) → Option (Int × Int × (List Int))
  | (x0, x1, x2, x3, x4) =>
  Option.bind (F98 N (x0, x1)) fun y0 =>
  Option.bind (F14 N (x1, y0, x2, x3, x4)) fun y1 =>
  some ((Prod.fst y1, Prod.fst (Prod.snd y1), Prod.snd (Prod.snd y1)))

theorem F59_eq (N : Nat) (x0 : Int) (x1 : Int) (x2 : Int) (x3 : Int) (x4 : (List Int)) : (fnEv (mkE Tryz.prog ownT (tab59 N) []) Tryz.f59 (J59 (x0, x1, x2, x3, x4))).run D59 = F59 N (x0, x1, x2, x3, x4) := by kernel_rfl

noncomputable def T59 (N : Nat) : Pk → Tr Pk := tell I59 (F59 N) O59

theorem T59_ok (N : Nat) : FOK Tryz.prog 59 (T59 N) :=
  (tell_ok (E := (mkE Tryz.prog ownT (tab59 N) [])) (mkE_ok mix (tab59_ok N)) Tryz.func59 (show Tryz.f59.body = some (bod Tryz.f59) by kernel_rfl) (by decide +kernel) (F := F59 N) I59_ok D59_ok (args := A59) (fun _ => by kernel_rfl) (fun _ => by show 2 ≤ Tryz.f59.ntmps; exact of_decide_eq_true (by kernel_rfl)) (cutsIn_ok trivial) (fun x => match x with | (x0, x1, x2, x3, x4) => F59_eq N x0 x1 x2 x3 x4))


end Go.Proofs.YteddgkplkjldcaaGreat.Am
