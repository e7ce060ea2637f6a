/- The seat's Go functions come to the Lean functions written here, wherever these give an answer (part A). -/
import Derived.Test.YteddgkplkjldcaaGreatAmC
import Derived.KernelRfl
import Derived.Test.YteddgkplkjldcaaGreatProg
set_option linter.unusedVariables false
set_option maxRecDepth 100000
namespace Go.Proofs.YteddgkplkjldcaaGreat.Am
open Go.Am
theorem mix : Tryz.prog.follows .mixedOrders = true := by kernel_rfl
def ownT : FuncId → List Nat := ownL [(16, [1, 0, 0]), (18, [2]), (19, [2]), (43, [2]), (49, [1]), (79, [2]), (86, [2]), (89, [2, 0, 0]), (92, [3, 0]), (101, [1, 0, 0]), (113, [2]), (121, [2]), (124, [1]), (125, [4, 0]), (133, [2]), (136, [0, 5, 5]), (137, [1, 1]), (140, [2]), (144, [4]), (153, [3, 0]), (154, [4, 0, 0]), (160, [0, 5, 5, 5]), (161, [2]), (162, [2]), (168, [4, 0, 0, 0]), (169, [4, 0, 0, 0, 0]), (173, [4, 0, 0, 0, 0]), (174, [4, 0, 0, 0, 0])]
@[reducible] def s44 : SP := ⟨[.int .i64], []⟩
noncomputable def tab44 (N : Nat) : Tabs := []
theorem tab44_ok (N : Nat) : TabOK Tryz.prog (tab44 N) := trivial
@[reducible] def w44 : List SP := [⟨[.int .i64], []⟩]
noncomputable def F44 (N : Nat) : (Int) → Option (Int)
  | x0 =>
  some (if (32 : Int) < if (0 : Int) > x0 then (0 : Int) else x0 then (32 : Int) else if (0 : Int) > x0 then (0 : Int) else x0)
noncomputable def T44 (N : Nat) : Pk → Tr Pk := tellS s44 w44 (F44 N)
theorem T44_ok (N : Nat) : FOK Tryz.prog 44 (T44 N) :=
  (fn_ok2 ownT mix (tab44_ok N) Tryz.func44 s44 w44 [] (cuts := []) trivial (fun _ => by kernel_rfl) (by kernel_rfl) (F44 N) (fun x => by kernel_rfl))
@[reducible] def s45 : SP := ⟨[.int .i64, .int .i64], []⟩
noncomputable def tab45 (N : Nat) : Tabs := []
theorem tab45_ok (N : Nat) : TabOK Tryz.prog (tab45 N) := trivial
@[reducible] def w45 : List SP := [⟨[.int .i64], []⟩]
noncomputable def F45 (N : Nat) : (Int × Int) → Option (Int)
  | (x0, x1) =>
  iteP (decide (x0 < 0)) (
  none) (
  some (IntKind.wrap .i64 (↑(BitVec.toNat (BitVec.ofInt (64 : Nat) x1 &&& BitVec.ofInt (64 : Nat) (IntKind.wrap .i64 (IntKind.wrap .i64 ((1 : Int) * (2 : Int) ^ min (Int.toNat x0) (64 : Nat)) - 1)))) : Int)))
noncomputable def T45 (N : Nat) : Pk → Tr Pk := tellS s45 w45 (F45 N)
theorem T45_ok (N : Nat) : FOK Tryz.prog 45 (T45 N) :=
  (fn_ok2 ownT mix (tab45_ok N) Tryz.func45 s45 w45 [] (cuts := []) trivial (fun _ => by kernel_rfl) (by kernel_rfl) (F45 N) (fun x => by kernel_rfl))
@[reducible] def s14 : SP := ⟨[.adr 0 [], .int .i64, .int .i64], [.var (.agg [.sl 1, .int .i64, .int .i64]), .row (.int .u8) 5]⟩
noncomputable def tab14 (N : Nat) : Tabs := [(44, T44 N), (45, T45 N)]
theorem tab14_ok (N : Nat) : TabOK Tryz.prog (tab14 N) := ⟨T44_ok N, T45_ok N, trivial⟩
@[reducible] def L14_30 : LD := ⟨30, [0], [(.ret, []), (.exit 0, [])], ⟨[.adr 0 []], [.var (.agg [.sl 1, .int .i64, .int .i64]), .row (.int .u8) 5]⟩, [(.exit 0, ⟨[], [.var (.agg [.sl 1, .int .i64, .int .i64]), .row (.int .u8) 5]⟩)]⟩
abbrev P14_30 : Type := Int × Int × (List Int)
abbrev R14_30 : Type := Int × Int × (List Int)
noncomputable def B14_30 (N : Nat) (f : P14_30 → Option R14_30) : P14_30 → Option R14_30
  | (x0, x1, x2) =>
  iteP (decide (x1 ≥ 8)) (
  iteP (decide ((List.length x2 + List.length [IntKind.wrap .u8 x0]) * 1 ≤ (140737488355328 : Nat) ∧ List.length x2 + List.length [IntKind.wrap .u8 x0] ≤ 140737488355328)) (
  Option.bind (f (Int.fdiv x0 (256 : Int), IntKind.wrap .i64 (x1 - 8), x2 ++ [IntKind.wrap .u8 x0])) fun r => some r) (
  none)) (
  some ((x0, x1, x2)))
noncomputable def F14_30 (N : Nat) : Nat → P14_30 → Option R14_30
  | 0, _ => none
  | k + 1, x => B14_30 N (F14_30 N k) x
theorem C14_30_ok (N : Nat) (k : Nat) : CutAt Tryz.prog Tryz.f14 [0] 30 (L14_30.cut (F14_30 N k)) :=
  L14_30.loopT ownT mix (tab14_ok N) Tryz.f14 [0] (cuts := []) trivial (by decide +kernel) (by kernel_rfl) (B14_30 N) (F14_30 N) (fun _ => rfl) (fun _ _ => rfl) (fun f x => by kernel_rfl) k
@[reducible] def w14 : List SP := [⟨[.tup []], [.var (.agg [.sl 1, .int .i64, .int .i64]), .row (.int .u8) 5]⟩]
noncomputable def F14 (N : Nat) : (Int × Int × Int × Int × (List Int)) → Option (Int × Int × (List Int))
  | (x0, x1, x2, x3, x4) =>
  Option.bind (F44 N x0) fun y0 =>
  Option.bind (F45 N (y0, x1)) fun y1 =>
  iteP (decide (x3 < 0)) (
  none) (
  Option.bind (F14_30 N N (IntKind.wrap .i64 (↑(BitVec.toNat (BitVec.ofInt (64 : Nat) x2 ||| BitVec.ofInt (64 : Nat) (IntKind.wrap .i64 (y1 * 2 ^ min (Int.toNat x3) (64 : Nat))))) : Int), IntKind.wrap .i64 (x3 + y0), x4)) fun y2 =>
  some ((y2.1, y2.2.1, y2.2.2)))
noncomputable def T14 (N : Nat) : Pk → Tr Pk := tellS s14 w14 (F14 N)
theorem T14_ok (N : Nat) : FOK Tryz.prog 14 (T14 N) :=
  (fn_ok2 ownT mix (tab14_ok N) Tryz.func14 s14 w14 [0] (cuts := [(30, L14_30.cut (F14_30 N N))]) ⟨C14_30_ok N N, trivial⟩ (fun _ => by kernel_rfl) (by kernel_rfl) (F14 N) (fun x => by kernel_rfl))
@[reducible] def s46 : SP := ⟨[.adr 0 [], .bool, .int .i64], [.var (.agg [.sl 1, .int .i64, .int .i64]), .row (.int .u8) 5]⟩
noncomputable def tab46 (N : Nat) : Tabs := [(14, T14 N)]
theorem tab46_ok (N : Nat) : TabOK Tryz.prog (tab46 N) := ⟨T14_ok N, trivial⟩
@[reducible] def w46 : List SP := [⟨[.tup []], [.var (.agg [.sl 1, .int .i64, .int .i64]), .row (.int .u8) 5]⟩]
noncomputable def F46 (N : Nat) : (Bool × Int × Int × Int × (List Int)) → Option (Int × Int × (List Int))
  | (x0, x1, x2, x3, x4) =>
  iteP (x0) (
  Option.bind (F14 N ((1 : Int), (1 : Int), x2, x3, x4)) fun y0 =>
  Option.bind (F14 N ((2 : Int), x1, y0.1, y0.2.1, y0.2.2)) fun y1 =>
  some ((y1.1, y1.2.1, y1.2.2))) (
  Option.bind (F14 N ((1 : Int), (0 : Int), x2, x3, x4)) fun y2 =>
  Option.bind (F14 N ((2 : Int), x1, y2.1, y2.2.1, y2.2.2)) fun y3 =>
  some ((y3.1, y3.2.1, y3.2.2)))
noncomputable def T46 (N : Nat) : Pk → Tr Pk := tellS s46 w46 (F46 N)
theorem T46_ok (N : Nat) : FOK Tryz.prog 46 (T46 N) :=
  (fn_ok2 ownT mix (tab46_ok N) Tryz.func46 s46 w46 [0] (cuts := []) trivial (fun _ => by kernel_rfl) (by kernel_rfl) (F46 N) (fun x => by kernel_rfl))
@[reducible] def s47 : SP := ⟨[.adr 0 []], [.var (.agg [.sl 1, .int .i64, .int .i64]), .row (.int .u8) 5]⟩
noncomputable def tab47 (N : Nat) : Tabs := [(14, T14 N)]
theorem tab47_ok (N : Nat) : TabOK Tryz.prog (tab47 N) := ⟨T14_ok N, trivial⟩
@[reducible] def w47 : List SP := [⟨[.tup []], [.var (.agg [.sl 1, .int .i64, .int .i64]), .row (.int .u8) 5]⟩]
noncomputable def F47 (N : Nat) : (Int × Int × (List Int)) → Option (Int × Int × (List Int))
  | (x0, x1, x2) =>
  Option.bind (F14 N (Int.tmod (IntKind.wrap .i64 ((8 : Int) - x1)) (8 : Int), (0 : Int), x0, x1, x2)) fun y0 =>
  some ((y0.1, y0.2.1, y0.2.2))
noncomputable def T47 (N : Nat) : Pk → Tr Pk := tellS s47 w47 (F47 N)
theorem T47_ok (N : Nat) : FOK Tryz.prog 47 (T47 N) :=
  (fn_ok2 ownT mix (tab47_ok N) Tryz.func47 s47 w47 [0] (cuts := []) trivial (fun _ => by kernel_rfl) (by kernel_rfl) (F47 N) (fun x => by kernel_rfl))
@[reducible] def s48 : SP := ⟨[.adr 0 [], .str], [.var (.agg [.sl 1, .int .i64, .int .i64]), .row (.int .u8) 5]⟩
noncomputable def tab48 (N : Nat) : Tabs := [(47, T47 N)]
theorem tab48_ok (N : Nat) : TabOK Tryz.prog (tab48 N) := ⟨T47_ok N, trivial⟩
@[reducible] def w48 : List SP := [⟨[.tup []], [.var (.agg [.sl 1, .int .i64, .int .i64]), .row (.int .u8) 5]⟩]
noncomputable def F48 (N : Nat) : (ByteArray × Int × Int × (List Int)) → Option (Int × Int × (List Int))
  | (x0, x1, x2, x3) =>
  Option.bind (F47 N (x1, x2, x3)) fun y0 =>
  iteP (decide ((List.length y0.2.2 + List.length (bytesOf x0)) * 1 ≤ (140737488355328 : Nat) ∧ List.length y0.2.2 + List.length (bytesOf x0) ≤ 140737488355328)) (
  some ((y0.1, y0.2.1, y0.2.2 ++ bytesOf x0))) (
  none)
noncomputable def T48 (N : Nat) : Pk → Tr Pk := tellS s48 w48 (F48 N)
theorem T48_ok (N : Nat) : FOK Tryz.prog 48 (T48 N) :=
  (fn_ok2 ownT mix (tab48_ok N) Tryz.func48 s48 w48 [0] (cuts := []) trivial (fun _ => by kernel_rfl) (by kernel_rfl) (F48 N) (fun x => by kernel_rfl))
@[reducible] def s15 : SP := ⟨[.adr 0 [], .str, .bool], [.var (.agg [.sl 1, .int .i64, .int .i64]), .row (.int .u8) 5]⟩
noncomputable def tab15 (N : Nat) : Tabs := [(46, T46 N), (47, T47 N), (14, T14 N), (48, T48 N)]
theorem tab15_ok (N : Nat) : TabOK Tryz.prog (tab15 N) := ⟨T46_ok N, T47_ok N, T14_ok N, T48_ok N, trivial⟩
@[reducible] def L15_2 : LD := ⟨2, [1, 2, 0], [(.ret, []), (.exit 0, [])], ⟨[.str, .bool, .adr 0 []], [.var (.agg [.sl 1, .int .i64, .int .i64]), .row (.int .u8) 5]⟩, [(.ret, ⟨[], [.var (.agg [.sl 1, .int .i64, .int .i64]), .row (.int .u8) 5]⟩)]⟩
abbrev P15_2 : Type := ByteArray × Bool × Int × Int × (List Int)
abbrev R15_2 : Type := Int × Int × (List Int)
noncomputable def B15_2 (N : Nat) (f : P15_2 → Option R15_2) : P15_2 → Option R15_2
  | (x0, x1, x2, x3, x4) =>
  iteP (x1) (
  Option.bind (F46 N ((if (65535 : Int) < (↑(ByteArray.size x0) : Int) then (65535 : Int) else (↑(ByteArray.size x0) : Int)) == (↑(ByteArray.size x0) : Int), (0 : Int), x2, x3, x4)) fun y0 =>
  Option.bind (F47 N (y0.1, y0.2.1, y0.2.2)) fun y1 =>
  Option.bind (F14 N ((16 : Int), if (65535 : Int) < (↑(ByteArray.size x0) : Int) then (65535 : Int) else (↑(ByteArray.size x0) : Int), y1.1, y1.2.1, y1.2.2)) fun y2 =>
  Option.bind (F14 N ((16 : Int), IntKind.wrap .i64 (↑(BitVec.toNat (BitVec.ofInt (64 : Nat) (if (65535 : Int) < (↑(ByteArray.size x0) : Int) then (65535 : Int) else (↑(ByteArray.size x0) : Int)) ^^^ BitVec.ofInt (64 : Nat) (65535 : Int))) : Int), y2.1, y2.2.1, y2.2.2)) fun y3 =>
  iteP (decide (((0 : Int) ≤ if (65535 : Int) < (↑(ByteArray.size x0) : Int) then (65535 : Int) else (↑(ByteArray.size x0) : Int)) ∧ (if (65535 : Int) < (↑(ByteArray.size x0) : Int) then (65535 : Int) else (↑(ByteArray.size x0) : Int)) ≤ (↑(ByteArray.size x0) : Int))) (
  Option.bind (F48 N (ByteArray.extract x0 (0 : Nat) (Int.toNat (if (65535 : Int) < (↑(ByteArray.size x0) : Int) then (65535 : Int) else (↑(ByteArray.size x0) : Int))), y3.1, y3.2.1, y3.2.2)) fun y4 =>
  iteP (decide (((0 : Int) ≤ if (65535 : Int) < (↑(ByteArray.size x0) : Int) then (65535 : Int) else (↑(ByteArray.size x0) : Int)) ∧ (if (65535 : Int) < (↑(ByteArray.size x0) : Int) then (65535 : Int) else (↑(ByteArray.size x0) : Int)) ≤ (↑(ByteArray.size x0) : Int))) (
  iteP (ByteArray.toList (ByteArray.extract x0 (Int.toNat (if (65535 : Int) < (↑(ByteArray.size x0) : Int) then (65535 : Int) else (↑(ByteArray.size x0) : Int))) (ByteArray.size x0)) == []) (
  some ((y4.1, y4.2.1, y4.2.2))) (
  Option.bind (f (ByteArray.extract x0 (Int.toNat (if (65535 : Int) < (↑(ByteArray.size x0) : Int) then (65535 : Int) else (↑(ByteArray.size x0) : Int))) (ByteArray.size x0), x1, y4.1, y4.2.1, y4.2.2)) fun r => some r)) (
  none)) (
  none)) (
  Option.bind (F46 N (false, (0 : Int), x2, x3, x4)) fun y5 =>
  Option.bind (F47 N (y5.1, y5.2.1, y5.2.2)) fun y6 =>
  Option.bind (F14 N ((16 : Int), if (65535 : Int) < (↑(ByteArray.size x0) : Int) then (65535 : Int) else (↑(ByteArray.size x0) : Int), y6.1, y6.2.1, y6.2.2)) fun y7 =>
  Option.bind (F14 N ((16 : Int), IntKind.wrap .i64 (↑(BitVec.toNat (BitVec.ofInt (64 : Nat) (if (65535 : Int) < (↑(ByteArray.size x0) : Int) then (65535 : Int) else (↑(ByteArray.size x0) : Int)) ^^^ BitVec.ofInt (64 : Nat) (65535 : Int))) : Int), y7.1, y7.2.1, y7.2.2)) fun y8 =>
  iteP (decide (((0 : Int) ≤ if (65535 : Int) < (↑(ByteArray.size x0) : Int) then (65535 : Int) else (↑(ByteArray.size x0) : Int)) ∧ (if (65535 : Int) < (↑(ByteArray.size x0) : Int) then (65535 : Int) else (↑(ByteArray.size x0) : Int)) ≤ (↑(ByteArray.size x0) : Int))) (
  Option.bind (F48 N (ByteArray.extract x0 (0 : Nat) (Int.toNat (if (65535 : Int) < (↑(ByteArray.size x0) : Int) then (65535 : Int) else (↑(ByteArray.size x0) : Int))), y8.1, y8.2.1, y8.2.2)) fun y9 =>
  iteP (decide (((0 : Int) ≤ if (65535 : Int) < (↑(ByteArray.size x0) : Int) then (65535 : Int) else (↑(ByteArray.size x0) : Int)) ∧ (if (65535 : Int) < (↑(ByteArray.size x0) : Int) then (65535 : Int) else (↑(ByteArray.size x0) : Int)) ≤ (↑(ByteArray.size x0) : Int))) (
  iteP (ByteArray.toList (ByteArray.extract x0 (Int.toNat (if (65535 : Int) < (↑(ByteArray.size x0) : Int) then (65535 : Int) else (↑(ByteArray.size x0) : Int))) (ByteArray.size x0)) == []) (
  some ((y9.1, y9.2.1, y9.2.2))) (
  Option.bind (f (ByteArray.extract x0 (Int.toNat (if (65535 : Int) < (↑(ByteArray.size x0) : Int) then (65535 : Int) else (↑(ByteArray.size x0) : Int))) (ByteArray.size x0), x1, y9.1, y9.2.1, y9.2.2)) fun r => some r)) (
  none)) (
  none))
noncomputable def F15_2 (N : Nat) : Nat → P15_2 → Option R15_2
  | 0, _ => none
  | k + 1, x => B15_2 N (F15_2 N k) x
theorem C15_2_ok (N : Nat) (k : Nat) : CutAt Tryz.prog Tryz.f15 [0] 2 (L15_2.cut (F15_2 N k)) :=
  L15_2.loopT ownT mix (tab15_ok N) Tryz.f15 [0] (cuts := []) trivial (by decide +kernel) (by kernel_rfl) (B15_2 N) (F15_2 N) (fun _ => rfl) (fun _ _ => rfl) (fun f x => by kernel_rfl) k
@[reducible] def w15 : List SP := [⟨[.tup []], [.var (.agg [.sl 1, .int .i64, .int .i64]), .row (.int .u8) 5]⟩]
noncomputable def F15 (N : Nat) : (ByteArray × Bool × Int × Int × (List Int)) → Option (Int × Int × (List Int))
  | (x0, x1, x2, x3, x4) =>
  Option.bind (F15_2 N N (x0, x1, x2, x3, x4)) fun y0 =>
  some ((y0.1, y0.2.1, y0.2.2))
noncomputable def T15 (N : Nat) : Pk → Tr Pk := tellS s15 w15 (F15 N)
theorem T15_ok (N : Nat) : FOK Tryz.prog 15 (T15 N) :=
  (fn_ok2 ownT mix (tab15_ok N) Tryz.func15 s15 w15 [0] (cuts := [(2, L15_2.cut (F15_2 N N))]) ⟨C15_2_ok N N, trivial⟩ (fun _ => by kernel_rfl) (by kernel_rfl) (F15 N) (fun x => by kernel_rfl))
@[reducible] def s88 : SP := ⟨[.str], []⟩
noncomputable def tab88 (N : Nat) : Tabs := []
theorem tab88_ok (N : Nat) : TabOK Tryz.prog (tab88 N) := trivial
@[reducible] def w88 : List SP := [⟨[.str], []⟩]
noncomputable def F88 (N : Nat) : (ByteArray) → Option (ByteArray)
  | x0 =>
  iteP (decide (((0 : Int) ≤ if (0 : Int) > IntKind.wrap .i64 ((↑(ByteArray.size x0) : Int) - (32768 : Int)) then (0 : Int) else IntKind.wrap .i64 ((↑(ByteArray.size x0) : Int) - (32768 : Int))) ∧ (if (0 : Int) > IntKind.wrap .i64 ((↑(ByteArray.size x0) : Int) - (32768 : Int)) then (0 : Int) else IntKind.wrap .i64 ((↑(ByteArray.size x0) : Int) - (32768 : Int))) ≤ (↑(ByteArray.size x0) : Int))) (
  some (ByteArray.extract x0 (Int.toNat (if (0 : Int) > IntKind.wrap .i64 ((↑(ByteArray.size x0) : Int) - (32768 : Int)) then (0 : Int) else IntKind.wrap .i64 ((↑(ByteArray.size x0) : Int) - (32768 : Int)))) (ByteArray.size x0))) (
  none)
noncomputable def T88 (N : Nat) : Pk → Tr Pk := tellS s88 w88 (F88 N)
theorem T88_ok (N : Nat) : FOK Tryz.prog 88 (T88 N) :=
  (fn_ok2 ownT mix (tab88_ok N) Tryz.func88 s88 w88 [] (cuts := []) trivial (fun _ => by kernel_rfl) (by kernel_rfl) (F88 N) (fun x => by kernel_rfl))
@[reducible] def s134 : SP := ⟨[.adr 0 [], .int .i64], [.var (.agg [.str, .mp 1, .sl 2]), .map (.str) (.int .i64), .row (.int .i64) 3]⟩
noncomputable def tab134 (N : Nat) : Tabs := []
theorem tab134_ok (N : Nat) : TabOK Tryz.prog (tab134 N) := trivial
@[reducible] def w134 : List SP := [⟨[.tup []], [.var (.agg [.str, .mp 1, .sl 2]), .map (.str) (.int .i64), .row (.int .i64) 3]⟩]
noncomputable def F134 (N : Nat) : (Int × ByteArray × (List (ByteArray × Int)) × (List Int)) → Option (ByteArray × (List (ByteArray × Int)) × (List Int))
  | (x0, x1, x2, x3) =>
  iteP (decide (IntKind.wrap .i64 (x0 + 3) ≤ (↑(ByteArray.size x1) : Int))) (
  iteP (decide ((0 : Int) ≤ IntKind.wrap .i64 (x0 + 3) ∧ IntKind.wrap .i64 (x0 + 3) ≤ (↑(ByteArray.size x1) : Int))) (
  iteP (decide ((0 : Int) ≤ x0 ∧ x0 ≤ (↑(Int.toNat (IntKind.wrap .i64 (x0 + 3))) : Int))) (
  iteP (mapHas Ty.str (ByteArray.extract x1 (Int.toNat x0) (Int.toNat (IntKind.wrap .i64 (x0 + 3)))) x2) (
  iteP (decide ((List.length x3 + List.length [mapGet Ty.str (ByteArray.extract x1 (Int.toNat x0) (Int.toNat (IntKind.wrap .i64 (x0 + 3)))) (0 : Int) x2]) * 8 ≤ (140737488355328 : Nat) ∧ List.length x3 + List.length [mapGet Ty.str (ByteArray.extract x1 (Int.toNat x0) (Int.toNat (IntKind.wrap .i64 (x0 + 3)))) (0 : Int) x2] ≤ 140737488355328)) (
  some ((x1, mapPut Ty.str (ByteArray.extract x1 (Int.toNat x0) (Int.toNat (IntKind.wrap .i64 (x0 + 3)))) x0 x2, x3 ++ [mapGet Ty.str (ByteArray.extract x1 (Int.toNat x0) (Int.toNat (IntKind.wrap .i64 (x0 + 3)))) (0 : Int) x2]))) (
  none)) (
  iteP (decide ((List.length x3 + 1) * 8 ≤ (140737488355328 : Nat) ∧ List.length x3 + 1 ≤ (140737488355328 : Nat))) (
  some ((x1, mapPut Ty.str (ByteArray.extract x1 (Int.toNat x0) (Int.toNat (IntKind.wrap .i64 (x0 + 3)))) x0 x2, x3 ++ [(-1 : Int)]))) (
  none))) (
  none)) (
  none)) (
  iteP (decide ((List.length x3 + 1) * 8 ≤ (140737488355328 : Nat) ∧ List.length x3 + 1 ≤ (140737488355328 : Nat))) (
  some ((x1, x2, x3 ++ [(-1 : Int)]))) (
  none))
noncomputable def T134 (N : Nat) : Pk → Tr Pk := tellS s134 w134 (F134 N)
theorem T134_ok (N : Nat) : FOK Tryz.prog 134 (T134 N) :=
  (fn_ok2 ownT mix (tab134_ok N) Tryz.func134 s134 w134 [0] (cuts := []) trivial (fun _ => by kernel_rfl) (by kernel_rfl) (F134 N) (fun x => by kernel_rfl))
@[reducible] def s159 : SP := ⟨[.adr 0 [], .int .i64, .int .i64], [.var (.agg [.str, .mp 1, .sl 2]), .map (.str) (.int .i64), .row (.int .i64) 3]⟩
noncomputable def tab159 (N : Nat) : Tabs := []
theorem tab159_ok (N : Nat) : TabOK Tryz.prog (tab159 N) := trivial
@[reducible] def L159_28 : LD := ⟨28, [7, 1, 0, 2], [(.ret, [6]), (.exit 0, [7])], ⟨[.int .i64, .int .i64, .adr 0 [], .int .i64], [.var (.agg [.str, .mp 1, .sl 2]), .map (.str) (.int .i64), .row (.int .i64) 3]⟩, [(.exit 0, ⟨[.int .i64], [.var (.agg [.str, .mp 1, .sl 2]), .map (.str) (.int .i64), .row (.int .i64) 3]⟩)]⟩
abbrev P159_28 : Type := Int × Int × Int × ByteArray × (List (ByteArray × Int)) × (List Int)
abbrev R159_28 : Type := Int × ByteArray × (List (ByteArray × Int)) × (List Int)
noncomputable def B159_28 (N : Nat) (f : P159_28 → Option R159_28) : P159_28 → Option R159_28
  | (x0, x1, x2, x3, x4, x5) =>
  iteP (decide (x0 < 258)) (
  iteP (decide (IntKind.wrap .i64 (x2 + x0) < (↑(ByteArray.size x3) : Int))) (
  iteP (decide ((0 : Int) ≤ IntKind.wrap .i64 (x1 + x0))) (
  Option.bind (x3[Int.toNat (IntKind.wrap .i64 (x1 + x0))]?) fun y0 =>
  iteP (decide ((0 : Int) ≤ IntKind.wrap .i64 (x2 + x0))) (
  Option.bind (x3[Int.toNat (IntKind.wrap .i64 (x2 + x0))]?) fun y1 =>
  iteP ((↑(UInt8.toNat y0) : Int) == (↑(UInt8.toNat y1) : Int)) (
  Option.bind (f (IntKind.wrap .i64 (x0 + 1), x1, x2, x3, x4, x5)) fun r => some r) (
  some ((x0, x3, x4, x5)))) (
  none)) (
  none)) (
  some ((x0, x3, x4, x5)))) (
  some ((x0, x3, x4, x5)))
noncomputable def F159_28 (N : Nat) : Nat → P159_28 → Option R159_28
  | 0, _ => none
  | k + 1, x => B159_28 N (F159_28 N k) x
theorem C159_28_ok (N : Nat) (k : Nat) : CutAt Tryz.prog Tryz.f159 [0] 28 (L159_28.cut (F159_28 N k)) :=
  L159_28.loopT ownT mix (tab159_ok N) Tryz.f159 [0] (cuts := []) trivial (by decide +kernel) (by kernel_rfl) (B159_28 N) (F159_28 N) (fun _ => rfl) (fun _ _ => rfl) (fun f x => by kernel_rfl) k
@[reducible] def w159 : List SP := [⟨[.int .i64], [.var (.agg [.str, .mp 1, .sl 2]), .map (.str) (.int .i64), .row (.int .i64) 3]⟩]
noncomputable def F159 (N : Nat) : (Int × Int × ByteArray × (List (ByteArray × Int)) × (List Int)) → Option (Int × ByteArray × (List (ByteArray × Int)) × (List Int))
  | (x0, x1, x2, x3, x4) =>
  Option.bind (F159_28 N N ((0 : Int), x0, x1, x2, x3, x4)) fun y0 =>
  some ((y0.1, y0.2.1, y0.2.2.1, y0.2.2.2))
noncomputable def T159 (N : Nat) : Pk → Tr Pk := tellS s159 w159 (F159 N)
theorem T159_ok (N : Nat) : FOK Tryz.prog 159 (T159 N) :=
  (fn_ok2 ownT mix (tab159_ok N) Tryz.func159 s159 w159 [0] (cuts := [(28, L159_28.cut (F159_28 N N))]) ⟨C159_28_ok N N, trivial⟩ (fun _ => by kernel_rfl) (by kernel_rfl) (F159 N) (fun x => by kernel_rfl))
@[reducible] def s135 : SP := ⟨[.adr 0 [], .int .i64], [.var (.agg [.str, .mp 1, .sl 2]), .map (.str) (.int .i64), .row (.int .i64) 3]⟩
noncomputable def tab135 (N : Nat) : Tabs := [(159, T159 N)]
theorem tab135_ok (N : Nat) : TabOK Tryz.prog (tab135 N) := ⟨T159_ok N, trivial⟩
@[reducible] def L135_1001 : LD := ⟨1001, [7, 9, 8, 4, 1, 6, 0], [(.ret, [4, 5]), (.exit 0, [6, 4]), (.normal, [7, 9, 8, 4, 1, 6, 0])], ⟨[.int .i64, .int .i64, .bool, .adr 1 [], .int .i64, .adr 2 [], .adr 0 []], [.var (.agg [.str, .mp 3, .sl 4]), .var (.agg [.int .i64, .int .i64, .int .i64]), .var (.agg [.int .i64, .int .i64, .int .i64]), .map (.str) (.int .i64), .row (.int .i64) 3]⟩, [(.normal, ⟨[.int .i64, .int .i64, .bool, .adr 1 [], .int .i64, .adr 2 [], .adr 0 []], [.var (.agg [.str, .mp 3, .sl 4]), .var (.agg [.int .i64, .int .i64, .int .i64]), .var (.agg [.int .i64, .int .i64, .int .i64]), .map (.str) (.int .i64), .row (.int .i64) 3]⟩)]⟩
noncomputable def F135_1001 (N : Nat) : (Int × Int × Bool × Int × ByteArray × Int × Int × Int × Int × Int × Int × (List (ByteArray × Int)) × (List Int)) → Option (Int × Int × Bool × Int × ByteArray × Int × Int × Int × Int × Int × Int × (List (ByteArray × Int)) × (List Int))
  | (x0, x1, x2, x3, x4, x5, x6, x7, x8, x9, x10, x11, x12) =>
  Option.bind (F159 N (x0, x3, x4, x11, x12)) fun y0 =>
  iteP (decide (y0.1 > x9)) (
  iteP (within x0 (List.length y0.2.2.2)) (
  Option.bind (y0.2.2.2[Int.toNat x0]?) fun y1 =>
  some ((y1, IntKind.wrap .i64 (x1 + 1), x2, x3, y0.2.1, x5, x6, x7, (0 : Int), y0.1, IntKind.wrap .i64 (x3 - x0), y0.2.2.1, y0.2.2.2))) (
  none)) (
  iteP (within x0 (List.length y0.2.2.2)) (
  Option.bind (y0.2.2.2[Int.toNat x0]?) fun y2 =>
  some ((y2, IntKind.wrap .i64 (x1 + 1), x2, x3, y0.2.1, x5, x6, x7, x8, x9, x10, y0.2.2.1, y0.2.2.2))) (
  none))
theorem C135_1001_ok (N : Nat) (k : Nat) : CutAt Tryz.prog Tryz.f135 [0] 1001 (L135_1001.cut (F135_1001 N)) :=
  L135_1001.pieceT ownT mix (tab135_ok N) Tryz.f135 [0] (cuts := []) trivial (by decide +kernel) (by kernel_rfl) (F135_1001 N) (fun x => by kernel_rfl)
@[reducible] def L135_250 : LD := ⟨250, [7, 9, 8, 4, 1, 6, 0], [(.ret, [4, 5]), (.exit 0, [6, 4])], ⟨[.int .i64, .int .i64, .bool, .adr 1 [], .int .i64, .adr 2 [], .adr 0 []], [.var (.agg [.str, .mp 3, .sl 4]), .var (.agg [.int .i64, .int .i64, .int .i64]), .var (.agg [.int .i64, .int .i64, .int .i64]), .map (.str) (.int .i64), .row (.int .i64) 3]⟩, [(.exit 0, ⟨[.adr 1 [], .adr 2 []], [.var (.agg [.str, .mp 3, .sl 4]), .var (.agg [.int .i64, .int .i64, .int .i64]), .var (.agg [.int .i64, .int .i64, .int .i64]), .map (.str) (.int .i64), .row (.int .i64) 3]⟩)]⟩
abbrev P135_250 : Type := Int × Int × Bool × Int × ByteArray × Int × Int × Int × Int × Int × Int × (List (ByteArray × Int)) × (List Int)
abbrev R135_250 : Type := ByteArray × Int × Int × Int × Int × Int × Int × (List (ByteArray × Int)) × (List Int)
noncomputable def B135_250 (N : Nat) (f : P135_250 → Option R135_250) : P135_250 → Option R135_250
  | (x0, x1, x2, x3, x4, x5, x6, x7, x8, x9, x10, x11, x12) =>
  iteP (x2) (
  iteP (decide (x1 < 64)) (
  iteP (decide (x0 ≥ 0)) (
  iteP (decide (IntKind.wrap .i64 (x3 - x0) ≤ 32768)) (
  Option.bind (F135_1001 N (x0, x1, x2, x3, x4, x5, x6, x7, x8, x9, x10, x11, x12)) fun y0 =>
  Option.bind (f (y0.1, y0.2.1, y0.2.2.1, y0.2.2.2.1, y0.2.2.2.2.1, y0.2.2.2.2.2.1, y0.2.2.2.2.2.2.1, y0.2.2.2.2.2.2.2.1, y0.2.2.2.2.2.2.2.2.1, y0.2.2.2.2.2.2.2.2.2.1, y0.2.2.2.2.2.2.2.2.2.2.1, y0.2.2.2.2.2.2.2.2.2.2.2.1, y0.2.2.2.2.2.2.2.2.2.2.2.2)) fun r => some r) (
  some ((x4, x8, x9, x10, x5, x6, x7, x11, x12)))) (
  some ((x4, x8, x9, x10, x5, x6, x7, x11, x12)))) (
  some ((x4, x8, x9, x10, x5, x6, x7, x11, x12)))) (
  some ((x4, x8, x9, x10, x5, x6, x7, x11, x12)))
noncomputable def F135_250 (N : Nat) : Nat → P135_250 → Option R135_250
  | 0, _ => none
  | k + 1, x => B135_250 N (F135_250 N k) x
theorem C135_250_ok (N : Nat) (k : Nat) : CutAt Tryz.prog Tryz.f135 [0] 250 (L135_250.cut (F135_250 N k)) :=
  L135_250.loopT ownT mix (tab135_ok N) Tryz.f135 [0] (cuts := [(1001, L135_1001.cut (F135_1001 N))]) ⟨C135_1001_ok N N, trivial⟩ (by decide +kernel) (by kernel_rfl) (B135_250 N) (F135_250 N) (fun _ => rfl) (fun _ _ => rfl) (fun f x => by kernel_rfl) k
@[reducible] def w135 : List SP := [⟨[.tup [.agg [.int .i64, .int .i64, .int .i64], .bool]], [.var (.agg [.str, .mp 1, .sl 2]), .map (.str) (.int .i64), .row (.int .i64) 3]⟩]
noncomputable def F135 (N : Nat) : (Int × ByteArray × (List (ByteArray × Int)) × (List Int)) → Option (Int × Int × Int × Bool × ByteArray × (List (ByteArray × Int)) × (List Int))
  | (x0, x1, x2, x3) =>
  iteP (decide (IntKind.wrap .i64 (x0 + 3) > (↑(ByteArray.size x1) : Int))) (
  some (((0 : Int), (0 : Int), (0 : Int), false, x1, x2, x3))) (
  iteP (decide ((0 : Int) ≤ IntKind.wrap .i64 (x0 + 3) ∧ IntKind.wrap .i64 (x0 + 3) ≤ (↑(ByteArray.size x1) : Int))) (
  iteP (decide ((0 : Int) ≤ x0 ∧ x0 ≤ (↑(Int.toNat (IntKind.wrap .i64 (x0 + 3))) : Int))) (
  Option.bind (F135_250 N N (mapGet Ty.str (ByteArray.extract x1 (Int.toNat x0) (Int.toNat (IntKind.wrap .i64 (x0 + 3)))) (0 : Int) x2, (0 : Int), mapHas Ty.str (ByteArray.extract x1 (Int.toNat x0) (Int.toNat (IntKind.wrap .i64 (x0 + 3)))) x2, x0, x1, (0 : Int), (0 : Int), (0 : Int), (0 : Int), (0 : Int), (0 : Int), x2, x3)) fun y0 =>
  some ((y0.2.1, y0.2.2.1, y0.2.2.2.1, decide (y0.2.2.1 ≥ 3), y0.1, y0.2.2.2.2.2.2.2.1, y0.2.2.2.2.2.2.2.2))) (
  none)) (
  none))
noncomputable def T135 (N : Nat) : Pk → Tr Pk := tellS s135 w135 (F135 N)
theorem T135_ok (N : Nat) : FOK Tryz.prog 135 (T135 N) :=
  (fn_ok2 ownT mix (tab135_ok N) Tryz.func135 s135 w135 [0] (cuts := [(1001, L135_1001.cut (F135_1001 N)), (250, L135_250.cut (F135_250 N N))]) ⟨C135_1001_ok N N, C135_250_ok N N, trivial⟩ (fun _ => by kernel_rfl) (by kernel_rfl) (F135 N) (fun x => by kernel_rfl))
@[reducible] def s110 : SP := ⟨[.str, .str], []⟩
noncomputable def tab110 (N : Nat) : Tabs := [(88, T88 N), (134, T134 N), (135, T135 N)]
theorem tab110_ok (N : Nat) : TabOK Tryz.prog (tab110 N) := ⟨T88_ok N, T134_ok N, T135_ok N, trivial⟩
@[reducible] def L110_122 : LD := ⟨122, [22, 21, 5, 6], [(.ret, [4]), (.exit 0, [5, 6])], ⟨[.int .i64, .int .i64, .str, .adr 0 []], [.var (.agg [.str, .mp 1, .sl 2]), .map (.str) (.int .i64), .row (.int .i64) 3]⟩, [(.exit 0, ⟨[.str, .adr 0 []], [.var (.agg [.str, .mp 1, .sl 2]), .map (.str) (.int .i64), .row (.int .i64) 3]⟩)]⟩
abbrev P110_122 : Type := Int × Int × ByteArray × ByteArray × (List (ByteArray × Int)) × (List Int)
abbrev R110_122 : Type := ByteArray × ByteArray × (List (ByteArray × Int)) × (List Int)
noncomputable def B110_122 (N : Nat) (f : P110_122 → Option R110_122) : P110_122 → Option R110_122
  | (x0, x1, x2, x3, x4, x5) =>
  iteP (decide (x0 < x1)) (
  Option.bind (F134 N (x0, x3, x4, x5)) fun y0 =>
  Option.bind (f (IntKind.wrap .i64 (x0 + 1), x1, x2, y0.1, y0.2.1, y0.2.2)) fun r => some r) (
  some ((x2, x3, x4, x5)))
noncomputable def F110_122 (N : Nat) : Nat → P110_122 → Option R110_122
  | 0, _ => none
  | k + 1, x => B110_122 N (F110_122 N k) x
theorem C110_122_ok (N : Nat) (k : Nat) : CutAt Tryz.prog Tryz.f110 [] 122 (L110_122.cut (F110_122 N k)) :=
  L110_122.loopT ownT mix (tab110_ok N) Tryz.f110 [] (cuts := []) trivial (by decide +kernel) (by kernel_rfl) (B110_122 N) (F110_122 N) (fun _ => rfl) (fun _ _ => rfl) (fun f x => by kernel_rfl) k
@[reducible] def y0 : Ty := (.cons (.int .i64) (.cons (.int .i64) (.cons (.int .i64) .unit)))
@[reducible] def L110_129630 : LD := ⟨129630, [9, 61, 60, 8, 6], [(.ret, [4]), (.exit 4, [8, 9, 6]), (.exit 3, [8, 9, 6]), (.exit 2, [8])], ⟨[.int .i64, .int .i64, .int .i64, .sl 0, .adr 1 []], [.row y0 52, .var (.agg [.str, .mp 2, .sl 3]), .map (.str) (.int .i64), .row (.int .i64) 3]⟩, [(.exit 4, ⟨[.sl 0, .int .i64, .adr 1 []], [.row y0 52, .var (.agg [.str, .mp 2, .sl 3]), .map (.str) (.int .i64), .row (.int .i64) 3]⟩)]⟩
abbrev P110_129630 : Type := Int × Int × Int × (List (Int × (Int × (Int × Unit)))) × ByteArray × (List (ByteArray × Int)) × (List Int)
abbrev R110_129630 : Type := Int × (List (Int × (Int × (Int × Unit)))) × ByteArray × (List (ByteArray × Int)) × (List Int)
noncomputable def B110_129630 (N : Nat) (f : P110_129630 → Option R110_129630) : P110_129630 → Option R110_129630
  | (x0, x1, x2, x3, x4, x5, x6) =>
  iteP (decide (x1 < x2)) (
  Option.bind (F134 N (x0, x4, x5, x6)) fun y0 =>
  Option.bind (f (IntKind.wrap .i64 (x0 + 1), IntKind.wrap .i64 (x1 + 1), x2, x3, y0.1, y0.2.1, y0.2.2)) fun r => some r) (
  some ((x0, x3, x4, x5, x6)))
noncomputable def F110_129630 (N : Nat) : Nat → P110_129630 → Option R110_129630
  | 0, _ => none
  | k + 1, x => B110_129630 N (F110_129630 N k) x
theorem C110_129630_ok (N : Nat) (k : Nat) : CutAt Tryz.prog Tryz.f110 [] 129630 (L110_129630.cut (F110_129630 N k)) :=
  L110_129630.loopT ownT mix (tab110_ok N) Tryz.f110 [] (cuts := [(122, L110_122.cut (F110_122 N N))]) ⟨C110_122_ok N N, trivial⟩ (by decide +kernel) (by kernel_rfl) (B110_129630 N) (F110_129630 N) (fun _ => rfl) (fun _ _ => rfl) (fun f x => by kernel_rfl) k
@[reducible] def L110_506 : LD := ⟨506, [8, 9, 6], [(.ret, [4]), (.exit 2, [8])], ⟨[.sl 0, .int .i64, .adr 1 []], [.row y0 52, .var (.agg [.str, .mp 2, .sl 3]), .map (.str) (.int .i64), .row (.int .i64) 3]⟩, [(.exit 2, ⟨[.sl 0], [.row y0 52]⟩)]⟩
abbrev P110_506 : Type := Int × (List (Int × (Int × (Int × Unit)))) × ByteArray × (List (ByteArray × Int)) × (List Int)
abbrev R110_506 : Type := (List (Int × (Int × (Int × Unit))))
noncomputable def B110_506 (N : Nat) (f : P110_506 → Option R110_506) : P110_506 → Option R110_506
  | (x0, x1, x2, x3, x4) =>
  iteP (decide (x0 < (↑(ByteArray.size x2) : Int))) (
  Option.bind (F135 N (x0, x2, x3, x4)) fun y0 =>
  iteP (!y0.2.2.2.1) (
  iteP (decide ((0 : Int) ≤ x0)) (
  Option.bind (y0.2.2.2.2.1[Int.toNat x0]?) fun y1 =>
  iteP (decide ((List.length x1 + List.length [(IntKind.wrap .i64 (↑(UInt8.toNat y1) : Int), (0 : Int), (0 : Int), ())]) * 24 ≤ (140737488355328 : Nat) ∧ List.length x1 + List.length [(IntKind.wrap .i64 (↑(UInt8.toNat y1) : Int), (0 : Int), (0 : Int), ())] ≤ 140737488355328)) (
  Option.bind (F110_129630 N N (x0, (0 : Int), (1 : Int), x1 ++ [(IntKind.wrap .i64 (↑(UInt8.toNat y1) : Int), (0 : Int), (0 : Int), ())], y0.2.2.2.2.1, y0.2.2.2.2.2.1, y0.2.2.2.2.2.2)) fun y2 =>
  Option.bind (f (y2.1, y2.2.1, y2.2.2.1, y2.2.2.2.1, y2.2.2.2.2)) fun r => some r) (
  none)) (
  none)) (
  iteP (decide ((List.length x1 + List.length [(y0.1, y0.2.1, y0.2.2.1, ())]) * 24 ≤ (140737488355328 : Nat) ∧ List.length x1 + List.length [(y0.1, y0.2.1, y0.2.2.1, ())] ≤ 140737488355328)) (
  Option.bind (F110_129630 N N (x0, (0 : Int), if (1 : Int) > y0.2.1 then (1 : Int) else y0.2.1, x1 ++ [(y0.1, y0.2.1, y0.2.2.1, ())], y0.2.2.2.2.1, y0.2.2.2.2.2.1, y0.2.2.2.2.2.2)) fun y3 =>
  Option.bind (f (y3.1, y3.2.1, y3.2.2.1, y3.2.2.2.1, y3.2.2.2.2)) fun r => some r) (
  none))) (
  some (x1))
noncomputable def F110_506 (N : Nat) : Nat → P110_506 → Option R110_506
  | 0, _ => none
  | k + 1, x => B110_506 N (F110_506 N k) x
theorem C110_506_ok (N : Nat) (k : Nat) : CutAt Tryz.prog Tryz.f110 [] 506 (L110_506.cut (F110_506 N k)) :=
  L110_506.loopT ownT mix (tab110_ok N) Tryz.f110 [] (cuts := [(122, L110_122.cut (F110_122 N N)), (129630, L110_129630.cut (F110_129630 N N))]) ⟨C110_122_ok N N, C110_129630_ok N N, trivial⟩ (by decide +kernel) (by kernel_rfl) (B110_506 N) (F110_506 N) (fun _ => rfl) (fun _ _ => rfl) (fun f x => by kernel_rfl) k
@[reducible] def w110 : List SP := [⟨[.sl 0], [.row y0 52]⟩]
noncomputable def F110 (N : Nat) : (ByteArray × ByteArray) → Option ((List (Int × (Int × (Int × Unit)))))
  | (x0, x1) =>
  Option.bind (F88 N x0) fun y0 =>
  iteP (decide ((↑(ByteArray.size y0 + ByteArray.size x1) : Int) > (9223372036854775807 : Int))) (
  none) (
  Option.bind (F110_122 N N ((0 : Int), (↑(ByteArray.size y0) : Int), y0, y0 ++ x1, [], [])) fun y1 =>
  Option.bind (F110_506 N N ((↑(ByteArray.size y1.1) : Int), [], y1.2.1, y1.2.2.1, y1.2.2.2)) fun y2 =>
  some (y2))
noncomputable def T110 (N : Nat) : Pk → Tr Pk := tellS s110 w110 (F110 N)
theorem T110_ok (N : Nat) : FOK Tryz.prog 110 (T110 N) :=
  (fn_ok2 ownT mix (tab110_ok N) Tryz.func110 s110 w110 [] (cuts := [(122, L110_122.cut (F110_122 N N)), (129630, L110_129630.cut (F110_129630 N N)), (506, L110_506.cut (F110_506 N N))]) ⟨C110_122_ok N N, C110_129630_ok N N, C110_506_ok N N, trivial⟩ (fun _ => by kernel_rfl) (by kernel_rfl) (F110 N) (fun x => by kernel_rfl))
@[reducible] def y1 : Ty := (.cons (.sl (.int .u8)) (.cons (.int .i64) (.cons (.int .i64) .unit)))
@[reducible] def s18 : SP := ⟨[.radr y1 [.i 0 3]], []⟩
noncomputable def tab18 (N : Nat) : Tabs := []
theorem tab18_ok (N : Nat) : TabOK Tryz.prog (tab18 N) := trivial
@[reducible] def w18 : List SP := [⟨[.int .i64], []⟩]
noncomputable def F18 (N : Nat) : (((List Int) × (Int × (Int × Unit)))) → Option (Int)
  | x0 =>
  some (IntKind.wrap .i64 (IntKind.wrap .i64 ((8 : Int) * (↑(List.length x0.1) : Int)) + x0.2.2.1))
noncomputable def T18 (N : Nat) : Pk → Tr Pk := tellS s18 w18 (F18 N)
theorem T18_ok (N : Nat) : FOK Tryz.prog 18 (T18 N) :=
  (fn_ok2 ownT mix (tab18_ok N) Tryz.func18 s18 w18 [] (cuts := []) trivial (fun _ => by kernel_rfl) (by kernel_rfl) (F18 N) (fun x => by kernel_rfl))
@[reducible] def s69 : SP := ⟨[.int .i64, .int .i64, .int .i64], []⟩
noncomputable def tab69 (N : Nat) : Tabs := []
theorem tab69_ok (N : Nat) : TabOK Tryz.prog (tab69 N) := trivial
@[reducible] def w69 : List SP := [⟨[.bool], []⟩]
noncomputable def F69 (N : Nat) : (Int × Int × Int) → Option (Bool)
  | (x0, x1, x2) =>
  iteP (decide (x1 ≤ x0)) (
  some (decide (x0 ≤ x2))) (
  some (false))
noncomputable def T69 (N : Nat) : Pk → Tr Pk := tellS s69 w69 (F69 N)
theorem T69_ok (N : Nat) : FOK Tryz.prog 69 (T69 N) :=
  (fn_ok2 ownT mix (tab69_ok N) Tryz.func69 s69 w69 [] (cuts := []) trivial (fun _ => by kernel_rfl) (by kernel_rfl) (F69 N) (fun x => by kernel_rfl))
@[reducible] def s27 : SP := ⟨[.agg [.int .i64, .int .i64, .int .i64]], []⟩
noncomputable def tab27 (N : Nat) : Tabs := [(69, T69 N)]
theorem tab27_ok (N : Nat) : TabOK Tryz.prog (tab27 N) := ⟨T69_ok N, trivial⟩
@[reducible] def w27 : List SP := [⟨[.bool], []⟩]
noncomputable def F27 (N : Nat) : (Int × Int × Int) → Option (Bool)
  | (x0, x1, x2) =>
  iteP (x1 == 0) (
  iteP (x2 == 0) (
  Option.bind (F69 N (x0, (0 : Int), (255 : Int))) fun y0 =>
  some (y0)) (
  some (false))) (
  iteP (x0 == 0) (
  Option.bind (F69 N (x1, (3 : Int), (258 : Int))) fun y1 =>
  iteP (y1) (
  Option.bind (F69 N (x2, (1 : Int), (32768 : Int))) fun y2 =>
  some (y2)) (
  some (false))) (
  some (false)))
noncomputable def T27 (N : Nat) : Pk → Tr Pk := tellS s27 w27 (F27 N)
theorem T27_ok (N : Nat) : FOK Tryz.prog 27 (T27 N) :=
  (fn_ok2 ownT mix (tab27_ok N) Tryz.func27 s27 w27 [] (cuts := []) trivial (fun _ => by kernel_rfl) (by kernel_rfl) (F27 N) (fun x => by kernel_rfl))
@[reducible] def s101 : SP := ⟨[.sl 0, .int .i64, .int .i64], [.row (.int .i64) 3]⟩
noncomputable def tab101 (N : Nat) : Tabs := []
theorem tab101_ok (N : Nat) : TabOK Tryz.prog (tab101 N) := trivial
@[reducible] def L101_12 : LD := ⟨12, [0, 1, 2], [(.ret, [6]), (.exit 0, [0])], ⟨[.sl 0, .int .i64, .int .i64], [.row (.int .i64) 3]⟩, [(.exit 0, ⟨[.sl 0], [.row (.int .i64) 3]⟩)]⟩
abbrev P101_12 : Type := Int × Int × (List Int)
abbrev R101_12 : Type := (List Int)
noncomputable def B101_12 (N : Nat) (f : P101_12 → Option R101_12) : P101_12 → Option R101_12
  | (x0, x1, x2) =>
  iteP (decide ((↑(List.length x2) : Int) < x0)) (
  iteP (decide ((List.length x2 + List.length [x1]) * 8 ≤ (140737488355328 : Nat) ∧ List.length x2 + List.length [x1] ≤ 140737488355328)) (
  Option.bind (f (x0, x1, x2 ++ [x1])) fun r => some r) (
  none)) (
  some (x2))
noncomputable def F101_12 (N : Nat) : Nat → P101_12 → Option R101_12
  | 0, _ => none
  | k + 1, x => B101_12 N (F101_12 N k) x
theorem C101_12_ok (N : Nat) (k : Nat) : CutAt Tryz.prog Tryz.f101 [] 12 (L101_12.cut (F101_12 N k)) :=
  L101_12.loopT ownT mix (tab101_ok N) Tryz.f101 [] (cuts := []) trivial (by decide +kernel) (by kernel_rfl) (B101_12 N) (F101_12 N) (fun _ => rfl) (fun _ _ => rfl) (fun f x => by kernel_rfl) k
@[reducible] def w101 : List SP := [⟨[.sl 0], [.row (.int .i64) 3]⟩]
noncomputable def F101 (N : Nat) : (Int × Int × (List Int)) → Option ((List Int))
  | (x0, x1, x2) =>
  Option.bind (F101_12 N N (x0, x1, x2)) fun y0 =>
  some (y0)
noncomputable def T101 (N : Nat) : Pk → Tr Pk := tellS s101 w101 (F101 N)
theorem T101_ok (N : Nat) : FOK Tryz.prog 101 (T101 N) :=
  (fn_ok2 ownT mix (tab101_ok N) Tryz.func101 s101 w101 [] (cuts := [(12, L101_12.cut (F101_12 N N))]) ⟨C101_12_ok N N, trivial⟩ (fun _ => by kernel_rfl) (by kernel_rfl) (F101 N) (fun x => by kernel_rfl))
@[reducible] def s64 : SP := ⟨[], []⟩
noncomputable def tab64 (N : Nat) : Tabs := [(101, T101 N)]
theorem tab64_ok (N : Nat) : TabOK Tryz.prog (tab64 N) := ⟨T101_ok N, trivial⟩
@[reducible] def w64 : List SP := [⟨[.tup [.sl 0, .sl 1]], [.row (.int .i64) 3, .row (.int .i64) 3]⟩]
noncomputable def F64 (N : Nat) : (Unit) → Option ((List Int) × (List Int))
  | () =>
  Option.bind (F101 N ((144 : Int), (8 : Int), [])) fun y0 =>
  Option.bind (F101 N ((256 : Int), (9 : Int), y0)) fun y1 =>
  Option.bind (F101 N ((280 : Int), (7 : Int), y1)) fun y2 =>
  Option.bind (F101 N ((288 : Int), (8 : Int), y2)) fun y3 =>
  Option.bind (F101 N ((30 : Int), (5 : Int), [])) fun y4 =>
  some ((y3, y4))
noncomputable def T64 (N : Nat) : Pk → Tr Pk := tellS s64 w64 (F64 N)
theorem T64_ok (N : Nat) : FOK Tryz.prog 64 (T64 N) :=
  (fn_ok2 ownT mix (tab64_ok N) Tryz.func64 s64 w64 [] (cuts := []) trivial (fun _ => by kernel_rfl) (by kernel_rfl) (F64 N) (fun x => by kernel_rfl))
@[reducible] def s97 : SP := ⟨[.ro (.int .i64)], []⟩
noncomputable def tab97 (N : Nat) : Tabs := []
theorem tab97_ok (N : Nat) : TabOK Tryz.prog (tab97 N) := trivial
@[reducible] def L97_122 : LD := ⟨122, [12, 11, 13, 4, 2], [(.ret, [2, 3]), (.exit 0, [4, 2])], ⟨[.int .i64, .ro (.int .i64), .int .i64, .adr 0 [], .adr 1 []], [.var (.arr (.int .i64) 16), .var (.arr (.int .i64) 16)]⟩, [(.ret, ⟨[.adr 0 [], .int .i64], [.var (.arr (.int .i64) 16)]⟩), (.exit 0, ⟨[.adr 0 [], .adr 1 []], [.var (.arr (.int .i64) 16), .var (.arr (.int .i64) 16)]⟩)]⟩
abbrev P97_122 : Type := Int × (List Int) × Int × (List Int) × (List Int)
abbrev R97_122 : Type := ((Int × (List Int)) ⊕ ((List Int) × (List Int)))
noncomputable def B97_122 (N : Nat) (f : P97_122 → Option R97_122) : P97_122 → Option R97_122
  | (x0, x1, x2, x3, x4) =>
  iteP (decide (x2 < x0)) (
  iteP (within x2 (List.length x1)) (
  Option.bind (x1[Int.toNat x2]?) fun y0 =>
  iteP (decide (y0 < 0)) (
  some (.inl (((50 : Int), x3)))) (
  iteP (decide (y0 > 15)) (
  some (.inl (((50 : Int), x3)))) (
  iteP (within y0 (16 : Nat)) (
  Option.bind (x3[Int.toNat y0]?) fun y1 =>
  iteP (within y0 (16 : Nat)) (
  Option.bind (x3[Int.toNat y0]?) fun y2 =>
  Option.bind (f (x0, x1, IntKind.wrap .i64 (x2 + 1), List.set x3 (Int.toNat y0) (IntKind.wrap .i64 (y1 + 1)), x4)) fun r => match r with | .inl y => some (.inl y) | .inr y => some (.inr y)) (
  none)) (
  none)))) (
  none)) (
  some (.inr ((x3, x4))))
noncomputable def F97_122 (N : Nat) : Nat → P97_122 → Option R97_122
  | 0, _ => none
  | k + 1, x => B97_122 N (F97_122 N k) x
theorem C97_122_ok (N : Nat) (k : Nat) : CutAt Tryz.prog Tryz.f97 [] 122 (L97_122.cut (F97_122 N k)) :=
  L97_122.loopT ownT mix (tab97_ok N) Tryz.f97 [] (cuts := []) trivial (by decide +kernel) (by kernel_rfl) (B97_122 N) (F97_122 N) (fun _ => rfl) (fun _ _ => rfl) (fun f x => by kernel_rfl) k
@[reducible] def w97 : List SP := [⟨[.tup [.arr (.int .i64) 16, .int .i64]], []⟩]
noncomputable def F97 (N : Nat) : ((List Int)) → Option ((List Int) × Int)
  | x0 =>
  iteP (decide ((↑(List.length x0) : Int) > (320 : Int))) (
  some (([(0 : Int), (0 : Int), (0 : Int), (0 : Int), (0 : Int), (0 : Int), (0 : Int), (0 : Int), (0 : Int), (0 : Int), (0 : Int), (0 : Int), (0 : Int), (0 : Int), (0 : Int), (0 : Int)], (50 : Int)))) (
  Option.bind (F97_122 N N ((↑(List.length x0) : Int), x0, (0 : Int), [(0 : Int), (0 : Int), (0 : Int), (0 : Int), (0 : Int), (0 : Int), (0 : Int), (0 : Int), (0 : Int), (0 : Int), (0 : Int), (0 : Int), (0 : Int), (0 : Int), (0 : Int), (0 : Int)], [(0 : Int), (0 : Int), (0 : Int), (0 : Int), (0 : Int), (0 : Int), (0 : Int), (0 : Int), (0 : Int), (0 : Int), (0 : Int), (0 : Int), (0 : Int), (0 : Int), (0 : Int), (0 : Int)])) fun y0 =>
  match y0 with
  | .inl y1 =>
  some ((y1.2, y1.1))
  | .inr y1 =>
  some ((y1.1, (0 : Int))))
noncomputable def T97 (N : Nat) : Pk → Tr Pk := tellS s97 w97 (F97 N)
theorem T97_ok (N : Nat) : FOK Tryz.prog 97 (T97 N) :=
  (fn_ok2 ownT mix (tab97_ok N) Tryz.func97 s97 w97 [] (cuts := [(122, L97_122.cut (F97_122 N N))]) ⟨C97_122_ok N N, trivial⟩ (fun _ => by kernel_rfl) (by kernel_rfl) (F97 N) (fun x => by kernel_rfl))
@[reducible] def s96 : SP := ⟨[.ro (.int .i64)], []⟩
noncomputable def tab96 (N : Nat) : Tabs := [(97, T97 N)]
theorem tab96_ok (N : Nat) : TabOK Tryz.prog (tab96 N) := ⟨T97_ok N, trivial⟩
@[reducible] def L96_122 : LD := ⟨122, [6, 5, 7, 4], [(.ret, [2, 3]), (.exit 0, [6, 5])], ⟨[.int .i64, .int .i64, .int .i64, .adr 0 []], [.var (.arr (.int .i64) 16)]⟩, [(.exit 0, ⟨[.int .i64, .int .i64], []⟩)]⟩
abbrev P96_122 : Type := Int × Int × Int × (List Int)
abbrev R96_122 : Type := Int × Int
noncomputable def B96_122 (N : Nat) (f : P96_122 → Option R96_122) : P96_122 → Option R96_122
  | (x0, x1, x2, x3) =>
  iteP (decide (x2 ≤ 15)) (
  iteP (x1 == 0) (
  iteP (within x2 (16 : Nat)) (
  Option.bind (x3[Int.toNat x2]?) fun y0 =>
  iteP (decide (IntKind.wrap .i64 (IntKind.wrap .i64 (x0 * 2) - y0) < 0)) (
  Option.bind (f (IntKind.wrap .i64 (IntKind.wrap .i64 (x0 * 2) - y0), (50 : Int), IntKind.wrap .i64 (x2 + 1), x3)) fun r => some r) (
  Option.bind (f (IntKind.wrap .i64 (IntKind.wrap .i64 (x0 * 2) - y0), x1, IntKind.wrap .i64 (x2 + 1), x3)) fun r => some r)) (
  none)) (
  some ((x0, x1)))) (
  some ((x0, x1)))
noncomputable def F96_122 (N : Nat) : Nat → P96_122 → Option R96_122
  | 0, _ => none
  | k + 1, x => B96_122 N (F96_122 N k) x
theorem C96_122_ok (N : Nat) (k : Nat) : CutAt Tryz.prog Tryz.f96 [] 122 (L96_122.cut (F96_122 N k)) :=
  L96_122.loopT ownT mix (tab96_ok N) Tryz.f96 [] (cuts := []) trivial (by decide +kernel) (by kernel_rfl) (B96_122 N) (F96_122 N) (fun _ => rfl) (fun _ _ => rfl) (fun f x => by kernel_rfl) k
@[reducible] def w96 : List SP := [⟨[.tup [.int .i64, .int .i64]], []⟩]
noncomputable def F96 (N : Nat) : ((List Int)) → Option (Int × Int)
  | x0 =>
  Option.bind (F97 N x0) fun y0 =>
  Option.bind (F96_122 N N ((1 : Int), y0.2, (1 : Int), y0.1)) fun y1 =>
  iteP (y1.2 != 0) (
  some (((0 : Int), y1.2))) (
  some ((y1.1, (0 : Int))))
noncomputable def T96 (N : Nat) : Pk → Tr Pk := tellS s96 w96 (F96 N)
theorem T96_ok (N : Nat) : FOK Tryz.prog 96 (T96 N) :=
  (fn_ok2 ownT mix (tab96_ok N) Tryz.func96 s96 w96 [] (cuts := [(122, L96_122.cut (F96_122 N N))]) ⟨C96_122_ok N N, trivial⟩ (fun _ => by kernel_rfl) (by kernel_rfl) (F96 N) (fun x => by kernel_rfl))
@[reducible] def s57 : SP := ⟨[.ro (.int .i64)], []⟩
noncomputable def tab57 (N : Nat) : Tabs := [(96, T96 N), (97, T97 N)]
theorem tab57_ok (N : Nat) : TabOK Tryz.prog (tab57 N) := ⟨T96_ok N, T97_ok N, trivial⟩
@[reducible] def y2 : Ty := (.cons (.int .i64) (.cons (.int .i64) .unit))
@[reducible] def L57_250 : LD := ⟨250, [9, 0, 6, 8], [(.ret, [2, 3]), (.exit 0, [0, 8])], ⟨[.int .i64, .ro (.int .i64), .adr 0 [], .adr 1 []], [.var (.arr (.int .i64) 16), .var (.arr (.int .i64) 16)]⟩, [(.exit 0, ⟨[.ro (.int .i64), .adr 0 []], [.var (.arr (.int .i64) 16)]⟩)]⟩
abbrev P57_250 : Type := Int × (List Int) × (List Int) × (List Int)
abbrev R57_250 : Type := (List Int) × (List Int)
noncomputable def B57_250 (N : Nat) (f : P57_250 → Option R57_250) : P57_250 → Option R57_250
  | (x0, x1, x2, x3) =>
  iteP (decide (x0 < 15)) (
  iteP (within x0 (16 : Nat)) (
  Option.bind (x3[Int.toNat x0]?) fun y0 =>
  iteP (within x0 (16 : Nat)) (
  Option.bind (x2[Int.toNat x0]?) fun y1 =>
  iteP (within (IntKind.wrap .i64 (x0 + 1)) (16 : Nat)) (
  Option.bind (x3[Int.toNat (IntKind.wrap .i64 (x0 + 1))]?) fun y2 =>
  Option.bind (f (IntKind.wrap .i64 (x0 + 1), x1, x2, List.set x3 (Int.toNat (IntKind.wrap .i64 (x0 + 1))) (IntKind.wrap .i64 (IntKind.wrap .i64 (y0 + y1) * 2)))) fun r => some r) (
  none)) (
  none)) (
  none)) (
  some ((x1, x3)))
noncomputable def F57_250 (N : Nat) : Nat → P57_250 → Option R57_250
  | 0, _ => none
  | k + 1, x => B57_250 N (F57_250 N k) x
theorem C57_250_ok (N : Nat) (k : Nat) : CutAt Tryz.prog Tryz.f57 [] 250 (L57_250.cut (F57_250 N k)) :=
  L57_250.loopT ownT mix (tab57_ok N) Tryz.f57 [] (cuts := []) trivial (by decide +kernel) (by kernel_rfl) (B57_250 N) (F57_250 N) (fun _ => rfl) (fun _ _ => rfl) (fun f x => by kernel_rfl) k
@[reducible] def L57_1018 : LD := ⟨1018, [46, 45, 44, 10, 8], [(.ret, [2, 3]), (.exit 2, [10])], ⟨[.int .i64, .int .i64, .ro (.int .i64), .sl 0, .adr 1 []], [.row y2 105, .var (.arr (.int .i64) 16)]⟩, [(.exit 2, ⟨[.sl 0], [.row y2 105]⟩)]⟩
abbrev P57_1018 : Type := Int × Int × (List Int) × (List (Int × (Int × Unit))) × (List Int)
abbrev R57_1018 : Type := (List (Int × (Int × Unit)))
noncomputable def B57_1018 (N : Nat) (f : P57_1018 → Option R57_1018) : P57_1018 → Option R57_1018
  | (x0, x1, x2, x3, x4) =>
  iteP (decide (x0 < x1)) (
  iteP (within x0 (List.length x2)) (
  Option.bind (x2[Int.toNat x0]?) fun y0 =>
  iteP (decide (y0 > 0)) (
  iteP (within y0 (16 : Nat)) (
  Option.bind (x4[Int.toNat y0]?) fun y1 =>
  iteP (within x0 (List.length x3)) (
  Option.bind (x3[Int.toNat x0]?) fun y2 =>
  iteP (within y0 (16 : Nat)) (
  Option.bind (x4[Int.toNat y0]?) fun y3 =>
  iteP (within y0 (16 : Nat)) (
  Option.bind (x4[Int.toNat y0]?) fun y4 =>
  Option.bind (f (IntKind.wrap .i64 (x0 + 1), x1, x2, List.set x3 (Int.toNat x0) (y1, y0, ()), List.set x4 (Int.toNat y0) (IntKind.wrap .i64 (y3 + 1)))) fun r => some r) (
  none)) (
  none)) (
  none)) (
  none)) (
  Option.bind (f (IntKind.wrap .i64 (x0 + 1), x1, x2, x3, x4)) fun r => some r)) (
  none)) (
  some (x3))
noncomputable def F57_1018 (N : Nat) : Nat → P57_1018 → Option R57_1018
  | 0, _ => none
  | k + 1, x => B57_1018 N (F57_1018 N k) x
theorem C57_1018_ok (N : Nat) (k : Nat) : CutAt Tryz.prog Tryz.f57 [] 1018 (L57_1018.cut (F57_1018 N k)) :=
  L57_1018.loopT ownT mix (tab57_ok N) Tryz.f57 [] (cuts := [(250, L57_250.cut (F57_250 N N))]) ⟨C57_250_ok N N, trivial⟩ (by decide +kernel) (by kernel_rfl) (B57_1018 N) (F57_1018 N) (fun _ => rfl) (fun _ _ => rfl) (fun f x => by kernel_rfl) k
@[reducible] def w57 : List SP := [⟨[.tup [.sl 0, .int .i64]], [.row y2 105]⟩]
noncomputable def F57 (N : Nat) : ((List Int)) → Option (Int × (List (Int × (Int × Unit))))
  | x0 =>
  Option.bind (F96 N x0) fun y0 =>
  iteP (y0.2 != 0) (
  some ((y0.2, []))) (
  Option.bind (F97 N x0) fun y1 =>
  Option.bind (F57_250 N N ((1 : Int), x0, y1.1, [(0 : Int), (0 : Int), (0 : Int), (0 : Int), (0 : Int), (0 : Int), (0 : Int), (0 : Int), (0 : Int), (0 : Int), (0 : Int), (0 : Int), (0 : Int), (0 : Int), (0 : Int), (0 : Int)])) fun y2 =>
  iteP (decide ((0 : Int) ≤ (↑(List.length y2.1) : Int) ∧ (↑(List.length y2.1) : Int) ≤ (↑(List.length y2.1) : Int) ∧ (↑(List.length y2.1) : Int) * (16 : Int) ≤ (140737488355328 : Int) ∧ (↑(List.length y2.1) : Int) ≤ (140737488355328 : Int))) (
  Option.bind (F57_1018 N N ((0 : Int), (↑(List.length y2.1) : Int), y2.1, List.replicate (Int.toNat (↑(List.length y2.1) : Int)) ((0 : Int), (0 : Int), ()), y2.2)) fun y3 =>
  some (((0 : Int), y3))) (
  none))
noncomputable def T57 (N : Nat) : Pk → Tr Pk := tellS s57 w57 (F57 N)
theorem T57_ok (N : Nat) : FOK Tryz.prog 57 (T57 N) :=
  (fn_ok2 ownT mix (tab57_ok N) Tryz.func57 s57 w57 [] (cuts := [(250, L57_250.cut (F57_250 N N)), (1018, L57_1018.cut (F57_1018 N N))]) ⟨C57_250_ok N N, C57_1018_ok N N, trivial⟩ (fun _ => by kernel_rfl) (by kernel_rfl) (F57 N) (fun x => by kernel_rfl))
@[reducible] def s170 : SP := ⟨[.int .i64, .int .i64, .int .i64], []⟩
noncomputable def tab170 (N : Nat) : Tabs := []
theorem tab170_ok (N : Nat) : TabOK Tryz.prog (tab170 N) := trivial
@[reducible] def w170 : List SP := [⟨[.int .i64], []⟩]
noncomputable def F170 (N : Nat) : (Int × Int × Int) → Option (Int)
  | (x0, x1, x2) =>
  iteP (decide (x2 = (0 : Int))) (
  none) (
  iteP (decide (x1 = (0 : Int))) (
  none) (
  some (IntKind.wrap .i64 ((if (0 : Int) > IntKind.wrap .i64 (IntKind.wrap .i64 (Int.tdiv (IntKind.wrap .i64 (x0 - x1)) x2) + 1) then (0 : Int) else IntKind.wrap .i64 (IntKind.wrap .i64 (Int.tdiv (IntKind.wrap .i64 (x0 - x1)) x2) + 1)) * if (1 : Int) < IntKind.wrap .i64 (Int.tdiv x0 x1) then (1 : Int) else IntKind.wrap .i64 (Int.tdiv x0 x1)))))
noncomputable def T170 (N : Nat) : Pk → Tr Pk := tellS s170 w170 (F170 N)
theorem T170_ok (N : Nat) : FOK Tryz.prog 170 (T170 N) :=
  (fn_ok2 ownT mix (tab170_ok N) Tryz.func170 s170 w170 [] (cuts := []) trivial (fun _ => by kernel_rfl) (by kernel_rfl) (F170 N) (fun x => by kernel_rfl))
@[reducible] def s158 : SP := ⟨[.int .i64, .int .i64, .int .i64, .int .i64], []⟩
noncomputable def tab158 (N : Nat) : Tabs := [(170, T170 N)]
theorem tab158_ok (N : Nat) : TabOK Tryz.prog (tab158 N) := ⟨T170_ok N, trivial⟩
@[reducible] def L158_58 : LD := ⟨58, [10, 14, 13, 0, 1, 2], [(.ret, [8, 9]), (.exit 0, [10, 0, 1, 2])], ⟨[.int .i64, .int .i64, .int .i64, .int .i64, .int .i64, .int .i64], []⟩, [(.exit 0, ⟨[.int .i64, .int .i64, .int .i64, .int .i64], []⟩)]⟩
abbrev P158_58 : Type := Int × Int × Int × Int × Int × Int
abbrev R158_58 : Type := Int × Int × Int × Int
noncomputable def B158_58 (N : Nat) (f : P158_58 → Option R158_58) : P158_58 → Option R158_58
  | (x0, x1, x2, x3, x4, x5) =>
  iteP (decide (x1 < x2)) (
  Option.bind (F170 N (x1, x4, x5)) fun y0 =>
  iteP (decide (y0 < 0)) (
  none) (
  Option.bind (f (IntKind.wrap .i64 (x0 + IntKind.wrap .i64 ((1 : Int) * (2 : Int) ^ min (Int.toNat y0) (64 : Nat))), IntKind.wrap .i64 (x1 + 1), x2, x3, x4, x5)) fun r => some r)) (
  some ((x0, x3, x4, x5)))
noncomputable def F158_58 (N : Nat) : Nat → P158_58 → Option R158_58
  | 0, _ => none
  | k + 1, x => B158_58 N (F158_58 N k) x
theorem C158_58_ok (N : Nat) (k : Nat) : CutAt Tryz.prog Tryz.f158 [] 58 (L158_58.cut (F158_58 N k)) :=
  L158_58.loopT ownT mix (tab158_ok N) Tryz.f158 [] (cuts := []) trivial (by decide +kernel) (by kernel_rfl) (B158_58 N) (F158_58 N) (fun _ => rfl) (fun _ _ => rfl) (fun f x => by kernel_rfl) k
@[reducible] def w158 : List SP := [⟨[.tup [.int .i64, .int .i64]], []⟩]
noncomputable def F158 (N : Nat) : (Int × Int × Int × Int) → Option (Int × Int)
  | (x0, x1, x2, x3) =>
  Option.bind (F158_58 N N (x3, (0 : Int), x0, x0, x1, x2)) fun y0 =>
  Option.bind (F170 N (y0.2.1, y0.2.2.1, y0.2.2.2)) fun y1 =>
  some ((y0.1, y1))
noncomputable def T158 (N : Nat) : Pk → Tr Pk := tellS s158 w158 (F158 N)
theorem T158_ok (N : Nat) : FOK Tryz.prog 158 (T158 N) :=
  (fn_ok2 ownT mix (tab158_ok N) Tryz.func158 s158 w158 [] (cuts := [(58, L158_58.cut (F158_58 N N))]) ⟨C158_58_ok N N, trivial⟩ (fun _ => by kernel_rfl) (by kernel_rfl) (F158 N) (fun x => by kernel_rfl))
@[reducible] def s131 : SP := ⟨[.int .i64], []⟩
noncomputable def tab131 (N : Nat) : Tabs := [(158, T158 N)]
theorem tab131_ok (N : Nat) : TabOK Tryz.prog (tab131 N) := ⟨T158_ok N, trivial⟩
@[reducible] def w131 : List SP := [⟨[.tup [.int .i64, .int .i64]], []⟩]
noncomputable def F131 (N : Nat) : (Int) → Option (Int × Int)
  | x0 =>
  iteP (x0 == 285) (
  some (((258 : Int), (0 : Int)))) (
  iteP (decide (x0 < 257)) (
  some (((0 : Int), (0 : Int)))) (
  iteP (decide (x0 > 285)) (
  some (((0 : Int), (0 : Int)))) (
  Option.bind (F158 N (IntKind.wrap .i64 (x0 - 257), (8 : Int), (4 : Int), (3 : Int))) fun y0 =>
  some ((y0.1, y0.2)))))
noncomputable def T131 (N : Nat) : Pk → Tr Pk := tellS s131 w131 (F131 N)
theorem T131_ok (N : Nat) : FOK Tryz.prog 131 (T131 N) :=
  (fn_ok2 ownT mix (tab131_ok N) Tryz.func131 s131 w131 [] (cuts := []) trivial (fun _ => by kernel_rfl) (by kernel_rfl) (F131 N) (fun x => by kernel_rfl))
@[reducible] def s132 : SP := ⟨[.int .i64], []⟩
noncomputable def tab132 (N : Nat) : Tabs := [(158, T158 N)]
theorem tab132_ok (N : Nat) : TabOK Tryz.prog (tab132 N) := ⟨T158_ok N, trivial⟩
@[reducible] def w132 : List SP := [⟨[.tup [.int .i64, .int .i64]], []⟩]
noncomputable def F132 (N : Nat) : (Int) → Option (Int × Int)
  | x0 =>
  iteP (decide (x0 < 0)) (
  some (((0 : Int), (0 : Int)))) (
  iteP (decide (x0 ≥ 30)) (
  some (((0 : Int), (0 : Int)))) (
  Option.bind (F158 N (x0, (4 : Int), (2 : Int), (1 : Int))) fun y0 =>
  some ((y0.1, y0.2))))
noncomputable def T132 (N : Nat) : Pk → Tr Pk := tellS s132 w132 (F132 N)
theorem T132_ok (N : Nat) : FOK Tryz.prog 132 (T132 N) :=
  (fn_ok2 ownT mix (tab132_ok N) Tryz.func132 s132 w132 [] (cuts := []) trivial (fun _ => by kernel_rfl) (by kernel_rfl) (F132 N) (fun x => by kernel_rfl))
@[reducible] def s130a : SP := ⟨[.int .i64, .int .i64, .int .i64, .fn 131], []⟩
noncomputable def tab130a (N : Nat) : Tabs := [(131, T131 N)]
theorem tab130a_ok (N : Nat) : TabOK Tryz.prog (tab130a N) := ⟨T131_ok N, trivial⟩
@[reducible] def L130a_26 : LD := ⟨26, [1, 3, 11, 0], [(.ret, [8, 9, 10]), (.exit 0, [])], ⟨[.int .i64, .fn 131, .int .i64, .int .i64], []⟩, [(.ret, ⟨[.int .i64, .int .i64, .int .i64], []⟩), (.exit 0, ⟨[], []⟩)]⟩
abbrev P130a_26 : Type := Int × Int × Int
abbrev R130a_26 : Type := ((Int × Int × Int) ⊕ (Unit))
noncomputable def B130a_26 (N : Nat) (f : P130a_26 → Option R130a_26) : P130a_26 → Option R130a_26
  | (x0, x1, x2) =>
  iteP (decide (x1 ≥ x0)) (
  Option.bind (F131 N x1) fun y0 =>
  iteP (decide (y0.1 ≤ x2)) (
  some (.inl ((x1, IntKind.wrap .i64 (x2 - y0.1), y0.2)))) (
  Option.bind (f (x0, IntKind.wrap .i64 (x1 - 1), x2)) fun r => match r with | .inl y => some (.inl y) | .inr y => some (.inr y))) (
  some (.inr (())))
noncomputable def F130a_26 (N : Nat) : Nat → P130a_26 → Option R130a_26
  | 0, _ => none
  | k + 1, x => B130a_26 N (F130a_26 N k) x
theorem C130a_26_ok (N : Nat) (k : Nat) : CutAt Tryz.prog Tryz.f130 [] 26 (L130a_26.cut (F130a_26 N k)) :=
  L130a_26.loopT ownT mix (tab130a_ok N) Tryz.f130 [] (cuts := []) trivial (by decide +kernel) (by kernel_rfl) (B130a_26 N) (F130a_26 N) (fun _ => rfl) (fun _ _ => rfl) (fun f x => by kernel_rfl) k
@[reducible] def w130a : List SP := [⟨[.tup [.int .i64, .int .i64, .int .i64]], []⟩]
noncomputable def F130a (N : Nat) : (Int × Int × Int) → Option (Int × Int × Int)
  | (x0, x1, x2) =>
  Option.bind (F130a_26 N N (x1, x2, x0)) fun y0 =>
  match y0 with
  | .inl y1 =>
  some ((y1.1, y1.2.1, y1.2.2))
  | .inr y1 =>
  some (((0 : Int), (0 : Int), (0 : Int)))
noncomputable def V130a (N : Nat) : Pk → Tr Pk := tellS s130a w130a (F130a N)
theorem V130a_ok (N : Nat) : FOK Tryz.prog 130 (V130a N) :=
  (fn_ok2 ownT mix (tab130a_ok N) Tryz.func130 s130a w130a [] (cuts := [(26, L130a_26.cut (F130a_26 N N))]) ⟨C130a_26_ok N N, trivial⟩ (fun _ => by kernel_rfl) (by kernel_rfl) (F130a N) (fun x => by kernel_rfl))
@[reducible] def s130b : SP := ⟨[.int .i64, .int .i64, .int .i64, .fn 132], []⟩
noncomputable def tab130b (N : Nat) : Tabs := [(132, T132 N)]
theorem tab130b_ok (N : Nat) : TabOK Tryz.prog (tab130b N) := ⟨T132_ok N, trivial⟩
@[reducible] def L130b_26 : LD := ⟨26, [1, 3, 11, 0], [(.ret, [8, 9, 10]), (.exit 0, [])], ⟨[.int .i64, .fn 132, .int .i64, .int .i64], []⟩, [(.ret, ⟨[.int .i64, .int .i64, .int .i64], []⟩), (.exit 0, ⟨[], []⟩)]⟩
abbrev P130b_26 : Type := Int × Int × Int
abbrev R130b_26 : Type := ((Int × Int × Int) ⊕ (Unit))
noncomputable def B130b_26 (N : Nat) (f : P130b_26 → Option R130b_26) : P130b_26 → Option R130b_26
  | (x0, x1, x2) =>
  iteP (decide (x1 ≥ x0)) (
  Option.bind (F132 N x1) fun y0 =>
  iteP (decide (y0.1 ≤ x2)) (
  some (.inl ((x1, IntKind.wrap .i64 (x2 - y0.1), y0.2)))) (
  Option.bind (f (x0, IntKind.wrap .i64 (x1 - 1), x2)) fun r => match r with | .inl y => some (.inl y) | .inr y => some (.inr y))) (
  some (.inr (())))
noncomputable def F130b_26 (N : Nat) : Nat → P130b_26 → Option R130b_26
  | 0, _ => none
  | k + 1, x => B130b_26 N (F130b_26 N k) x
theorem C130b_26_ok (N : Nat) (k : Nat) : CutAt Tryz.prog Tryz.f130 [] 26 (L130b_26.cut (F130b_26 N k)) :=
  L130b_26.loopT ownT mix (tab130b_ok N) Tryz.f130 [] (cuts := []) trivial (by decide +kernel) (by kernel_rfl) (B130b_26 N) (F130b_26 N) (fun _ => rfl) (fun _ _ => rfl) (fun f x => by kernel_rfl) k
@[reducible] def w130b : List SP := [⟨[.tup [.int .i64, .int .i64, .int .i64]], []⟩]
noncomputable def F130b (N : Nat) : (Int × Int × Int) → Option (Int × Int × Int)
  | (x0, x1, x2) =>
  Option.bind (F130b_26 N N (x1, x2, x0)) fun y0 =>
  match y0 with
  | .inl y1 =>
  some ((y1.1, y1.2.1, y1.2.2))
  | .inr y1 =>
  some (((0 : Int), (0 : Int), (0 : Int)))
noncomputable def V130b (N : Nat) : Pk → Tr Pk := tellS s130b w130b (F130b N)
theorem V130b_ok (N : Nat) : FOK Tryz.prog 130 (V130b N) :=
  (fn_ok2 ownT mix (tab130b_ok N) Tryz.func130 s130b w130b [] (cuts := [(26, L130b_26.cut (F130b_26 N N))]) ⟨C130b_26_ok N N, trivial⟩ (fun _ => by kernel_rfl) (by kernel_rfl) (F130b N) (fun x => by kernel_rfl))
noncomputable def T130 (N : Nat) : Pk → Tr Pk := (orT s130a.I (V130a N) (V130b N))
theorem T130_ok (N : Nat) : FOK Tryz.prog 130 (T130 N) := (orT_ok (V130a_ok N) (V130b_ok N))
@[reducible] def s103 : SP := ⟨[.int .i64], []⟩
noncomputable def tab103 (N : Nat) : Tabs := [(130, T130 N)]
theorem tab103_ok (N : Nat) : TabOK Tryz.prog (tab103 N) := ⟨T130_ok N, trivial⟩
@[reducible] def w103 : List SP := [⟨[.tup [.int .i64, .int .i64, .int .i64]], []⟩]
noncomputable def F103 (N : Nat) : (Int) → Option (Int × Int × Int)
  | x0 =>
  iteP (decide (x0 > 258)) (
  some (((0 : Int), (0 : Int), (0 : Int)))) (
  Option.bind (F130a N (x0, (257 : Int), (285 : Int))) fun y0 =>
  some ((y0.1, y0.2.1, y0.2.2)))
noncomputable def T103 (N : Nat) : Pk → Tr Pk := tellS s103 w103 (F103 N)
theorem T103_ok (N : Nat) : FOK Tryz.prog 103 (T103 N) :=
  (fn_ok2 ownT mix (tab103_ok N) Tryz.func103 s103 w103 [] (cuts := []) trivial (fun _ => by kernel_rfl) (by kernel_rfl) (F103 N) (fun x => by kernel_rfl))
@[reducible] def s104 : SP := ⟨[.int .i64], []⟩
noncomputable def tab104 (N : Nat) : Tabs := [(130, T130 N)]
theorem tab104_ok (N : Nat) : TabOK Tryz.prog (tab104 N) := ⟨T130_ok N, trivial⟩
@[reducible] def w104 : List SP := [⟨[.tup [.int .i64, .int .i64, .int .i64]], []⟩]
noncomputable def F104 (N : Nat) : (Int) → Option (Int × Int × Int)
  | x0 =>
  iteP (decide (x0 > 32768)) (
  some (((0 : Int), (0 : Int), (0 : Int)))) (
  Option.bind (F130b N (x0, (0 : Int), (29 : Int))) fun y0 =>
  some ((y0.1, y0.2.1, y0.2.2)))
noncomputable def T104 (N : Nat) : Pk → Tr Pk := tellS s104 w104 (F104 N)
theorem T104_ok (N : Nat) : FOK Tryz.prog 104 (T104 N) :=
  (fn_ok2 ownT mix (tab104_ok N) Tryz.func104 s104 w104 [] (cuts := []) trivial (fun _ => by kernel_rfl) (by kernel_rfl) (F104 N) (fun x => by kernel_rfl))
@[reducible] def s66 : SP := ⟨[.ro y0], []⟩
noncomputable def tab66 (N : Nat) : Tabs := [(27, T27 N), (103, T103 N), (104, T104 N)]
theorem tab66_ok (N : Nat) : TabOK Tryz.prog (tab66 N) := ⟨T27_ok N, T103_ok N, T104_ok N, trivial⟩
@[reducible] def L66_122 : LD := ⟨122, [18, 17, 16, 2, 3], [(.ret, [2, 3]), (.exit 0, [2, 3])], ⟨[.int .i64, .int .i64, .ro y0, .sl 0, .sl 1], [.row (.int .i64) 3, .row (.int .i64) 3]⟩, [(.exit 0, ⟨[.sl 0, .sl 1], [.row (.int .i64) 3, .row (.int .i64) 3]⟩)]⟩
abbrev P66_122 : Type := Int × Int × (List (Int × (Int × (Int × Unit)))) × (List Int) × (List Int)
abbrev R66_122 : Type := (List Int) × (List Int)
noncomputable def B66_122 (N : Nat) (f : P66_122 → Option R66_122) : P66_122 → Option R66_122
  | (x0, x1, x2, x3, x4) =>
  iteP (decide (x0 < x1)) (
  iteP (within x0 (List.length x2)) (
  Option.bind (x2[Int.toNat x0]?) fun y0 =>
  Option.bind (F27 N (y0.1, y0.2.1, y0.2.2.1)) fun y1 =>
  iteP (!y1) (
  Option.bind (f (IntKind.wrap .i64 (x0 + 1), x1, x2, x3, x4)) fun r => some r) (
  iteP (y0.2.1 == 0) (
  iteP (within y0.1 (List.length x3)) (
  Option.bind (x3[Int.toNat y0.1]?) fun y2 =>
  iteP (within y0.1 (List.length x3)) (
  Option.bind (x3[Int.toNat y0.1]?) fun y3 =>
  Option.bind (f (IntKind.wrap .i64 (x0 + 1), x1, x2, List.set x3 (Int.toNat y0.1) (IntKind.wrap .i64 (y2 + 1)), x4)) fun r => some r) (
  none)) (
  none)) (
  Option.bind (F103 N y0.2.1) fun y4 =>
  Option.bind (F104 N y0.2.2.1) fun y5 =>
  iteP (within y4.1 (List.length x3)) (
  Option.bind (x3[Int.toNat y4.1]?) fun y6 =>
  iteP (within y4.1 (List.length x3)) (
  Option.bind (x3[Int.toNat y4.1]?) fun y7 =>
  iteP (within y5.1 (List.length x4)) (
  Option.bind (x4[Int.toNat y5.1]?) fun y8 =>
  iteP (within y5.1 (List.length x4)) (
  Option.bind (x4[Int.toNat y5.1]?) fun y9 =>
  Option.bind (f (IntKind.wrap .i64 (x0 + 1), x1, x2, List.set x3 (Int.toNat y4.1) (IntKind.wrap .i64 (y6 + 1)), List.set x4 (Int.toNat y5.1) (IntKind.wrap .i64 (y8 + 1)))) fun r => some r) (
  none)) (
  none)) (
  none)) (
  none)))) (
  none)) (
  some ((x3, x4)))
noncomputable def F66_122 (N : Nat) : Nat → P66_122 → Option R66_122
  | 0, _ => none
  | k + 1, x => B66_122 N (F66_122 N k) x
theorem C66_122_ok (N : Nat) (k : Nat) : CutAt Tryz.prog Tryz.f66 [] 122 (L66_122.cut (F66_122 N k)) :=
  L66_122.loopT ownT mix (tab66_ok N) Tryz.f66 [] (cuts := []) trivial (by decide +kernel) (by kernel_rfl) (B66_122 N) (F66_122 N) (fun _ => rfl) (fun _ _ => rfl) (fun f x => by kernel_rfl) k
@[reducible] def w66 : List SP := [⟨[.tup [.sl 0, .sl 1]], [.row (.int .i64) 3, .row (.int .i64) 3]⟩]
noncomputable def F66 (N : Nat) : ((List (Int × (Int × (Int × Unit))))) → Option ((List Int) × (List Int))
  | x0 =>
  Option.bind (F66_122 N N ((0 : Int), (↑(List.length x0) : Int), x0, [(0 : Int), (0 : Int), (0 : Int), (0 : Int), (0 : Int), (0 : Int), (0 : Int), (0 : Int), (0 : Int), (0 : Int), (0 : Int), (0 : Int), (0 : Int), (0 : Int), (0 : Int), (0 : Int), (0 : Int), (0 : Int), (0 : Int), (0 : Int), (0 : Int), (0 : Int), (0 : Int), (0 : Int), (0 : Int), (0 : Int), (0 : Int), (0 : Int), (0 : Int), (0 : Int), (0 : Int), (0 : Int), (0 : Int), (0 : Int), (0 : Int), (0 : Int), (0 : Int), (0 : Int), (0 : Int), (0 : Int), (0 : Int), (0 : Int), (0 : Int), (0 : Int), (0 : Int), (0 : Int), (0 : Int), (0 : Int), (0 : Int), (0 : Int), (0 : Int), (0 : Int), (0 : Int), (0 : Int), (0 : Int), (0 : Int), (0 : Int), (0 : Int), (0 : Int), (0 : Int), (0 : Int), (0 : Int), (0 : Int), (0 : Int), (0 : Int), (0 : Int), (0 : Int), (0 : Int), (0 : Int), (0 : Int), (0 : Int), (0 : Int), (0 : Int), (0 : Int), (0 : Int), (0 : Int), (0 : Int), (0 : Int), (0 : Int), (0 : Int), (0 : Int), (0 : Int), (0 : Int), (0 : Int), (0 : Int), (0 : Int), (0 : Int), (0 : Int), (0 : Int), (0 : Int), (0 : Int), (0 : Int), (0 : Int), (0 : Int), (0 : Int), (0 : Int), (0 : Int), (0 : Int), (0 : Int), (0 : Int), (0 : Int), (0 : Int), (0 : Int), (0 : Int), (0 : Int), (0 : Int), (0 : Int), (0 : Int), (0 : Int), (0 : Int), (0 : Int), (0 : Int), (0 : Int), (0 : Int), (0 : Int), (0 : Int), (0 : Int), (0 : Int), (0 : Int), (0 : Int), (0 : Int), (0 : Int), (0 : Int), (0 : Int), (0 : Int), (0 : Int), (0 : Int), (0 : Int), (0 : Int), (0 : Int), (0 : Int), (0 : Int), (0 : Int), (0 : Int), (0 : Int), (0 : Int), (0 : Int), (0 : Int), (0 : Int), (0 : Int), (0 : Int), (0 : Int), (0 : Int), (0 : Int), (0 : Int), (0 : Int), (0 : Int), (0 : Int), (0 : Int), (0 : Int), (0 : Int), (0 : Int), (0 : Int), (0 : Int), (0 : Int), (0 : Int), (0 : Int), (0 : Int), (0 : Int), (0 : Int), (0 : Int), (0 : Int), (0 : Int), (0 : Int), (0 : Int), (0 : Int), (0 : Int), (0 : Int), (0 : Int), (0 : Int), (0 : Int), (0 : Int), (0 : Int), (0 : Int), (0 : Int), (0 : Int), (0 : Int), (0 : Int), (0 : Int), (0 : Int), (0 : Int), (0 : Int), (0 : Int), (0 : Int), (0 : Int), (0 : Int), (0 : Int), (0 : Int), (0 : Int), (0 : Int), (0 : Int), (0 : Int), (0 : Int), (0 : Int), (0 : Int), (0 : Int), (0 : Int), (0 : Int), (0 : Int), (0 : Int), (0 : Int), (0 : Int), (0 : Int), (0 : Int), (0 : Int), (0 : Int), (0 : Int), (0 : Int), (0 : Int), (0 : Int), (0 : Int), (0 : Int), (0 : Int), (0 : Int), (0 : Int), (0 : Int), (0 : Int), (0 : Int), (0 : Int), (0 : Int), (0 : Int), (0 : Int), (0 : Int), (0 : Int), (0 : Int), (0 : Int), (0 : Int), (0 : Int), (0 : Int), (0 : Int), (0 : Int), (0 : Int), (0 : Int), (0 : Int), (0 : Int), (0 : Int), (0 : Int), (0 : Int), (0 : Int), (0 : Int), (0 : Int), (0 : Int), (0 : Int), (0 : Int), (0 : Int), (0 : Int), (0 : Int), (0 : Int), (0 : Int), (0 : Int), (0 : Int), (0 : Int), (0 : Int), (0 : Int), (0 : Int), (0 : Int), (1 : Int), (0 : Int), (0 : Int), (0 : Int), (0 : Int), (0 : Int), (0 : Int), (0 : Int), (0 : Int), (0 : Int), (0 : Int), (0 : Int), (0 : Int), (0 : Int), (0 : Int), (0 : Int), (0 : Int), (0 : Int), (0 : Int), (0 : Int), (0 : Int), (0 : Int), (0 : Int), (0 : Int), (0 : Int), (0 : Int), (0 : Int), (0 : Int), (0 : Int), (0 : Int)], List.replicate (30 : Nat) (0 : Int))) fun y0 =>
  some ((y0.1, y0.2))
noncomputable def T66 (N : Nat) : Pk → Tr Pk := tellS s66 w66 (F66 N)
theorem T66_ok (N : Nat) : FOK Tryz.prog 66 (T66 N) :=
  (fn_ok2 ownT mix (tab66_ok N) Tryz.func66 s66 w66 [] (cuts := [(122, L66_122.cut (F66_122 N N))]) ⟨C66_122_ok N N, trivial⟩ (fun _ => by kernel_rfl) (by kernel_rfl) (F66 N) (fun x => by kernel_rfl))
@[reducible] def s102 : SP := ⟨[.ro y2, .ro (.int .i64)], []⟩
noncomputable def tab102 (N : Nat) : Tabs := []
theorem tab102_ok (N : Nat) : TabOK Tryz.prog (tab102 N) := trivial
@[reducible] def L102_26 : LD := ⟨26, [8, 7, 0, 9], [(.ret, [4]), (.exit 0, [])], ⟨[.int .i64, .ro (.int .i64), .ro y2, .int .i64], []⟩, [(.ret, ⟨[.bool], []⟩), (.exit 0, ⟨[], []⟩)]⟩
abbrev P102_26 : Type := Int × (List Int) × (List (Int × (Int × Unit))) × Int
abbrev R102_26 : Type := ((Bool) ⊕ (Unit))
noncomputable def B102_26 (N : Nat) (f : P102_26 → Option R102_26) : P102_26 → Option R102_26
  | (x0, x1, x2, x3) =>
  iteP (decide (x3 < x0)) (
  iteP (within x3 (List.length x1)) (
  Option.bind (x1[Int.toNat x3]?) fun y0 =>
  iteP (decide (y0 > 0)) (
  iteP (decide (x3 ≥ (↑(List.length x2) : Int))) (
  some (.inl (false))) (
  iteP (within x3 (List.length x2)) (
  Option.bind (x2[Int.toNat x3]?) fun y1 =>
  iteP (y1.2.1 == 0) (
  some (.inl (false))) (
  Option.bind (f (x0, x1, x2, IntKind.wrap .i64 (x3 + 1))) fun r => match r with | .inl y => some (.inl y) | .inr y => some (.inr y))) (
  none))) (
  Option.bind (f (x0, x1, x2, IntKind.wrap .i64 (x3 + 1))) fun r => match r with | .inl y => some (.inl y) | .inr y => some (.inr y))) (
  none)) (
  some (.inr (())))
noncomputable def F102_26 (N : Nat) : Nat → P102_26 → Option R102_26
  | 0, _ => none
  | k + 1, x => B102_26 N (F102_26 N k) x
theorem C102_26_ok (N : Nat) (k : Nat) : CutAt Tryz.prog Tryz.f102 [] 26 (L102_26.cut (F102_26 N k)) :=
  L102_26.loopT ownT mix (tab102_ok N) Tryz.f102 [] (cuts := []) trivial (by decide +kernel) (by kernel_rfl) (B102_26 N) (F102_26 N) (fun _ => rfl) (fun _ _ => rfl) (fun f x => by kernel_rfl) k
@[reducible] def w102 : List SP := [⟨[.bool], []⟩]
noncomputable def F102 (N : Nat) : ((List (Int × (Int × Unit))) × (List Int)) → Option (Bool)
  | (x0, x1) =>
  Option.bind (F102_26 N N ((↑(List.length x1) : Int), x1, x0, (0 : Int))) fun y0 =>
  match y0 with
  | .inl y1 =>
  some (y1)
  | .inr y1 =>
  some (true)
noncomputable def T102 (N : Nat) : Pk → Tr Pk := tellS s102 w102 (F102 N)
theorem T102_ok (N : Nat) : FOK Tryz.prog 102 (T102 N) :=
  (fn_ok2 ownT mix (tab102_ok N) Tryz.func102 s102 w102 [] (cuts := [(26, L102_26.cut (F102_26 N N))]) ⟨C102_26_ok N N, trivial⟩ (fun _ => by kernel_rfl) (by kernel_rfl) (F102 N) (fun x => by kernel_rfl))
@[reducible] def s156 : SP := ⟨[.int .u64], []⟩
noncomputable def tab156 (N : Nat) : Tabs := []
theorem tab156_ok (N : Nat) : TabOK Tryz.prog (tab156 N) := trivial
@[reducible] def w156 : List SP := [⟨[.int .u64], []⟩]
noncomputable def F156 (N : Nat) : (Int) → Option (Int)
  | x0 =>
  some (IntKind.wrap .u64 (↑(BitVec.toNat (BitVec.ofInt (64 : Nat) (Int.fdiv (IntKind.wrap .u64 (↑(BitVec.toNat (BitVec.ofInt (64 : Nat) (IntKind.wrap .u64 (↑(BitVec.toNat (BitVec.ofInt (64 : Nat) (Int.fdiv (IntKind.wrap .u64 (↑(BitVec.toNat (BitVec.ofInt (64 : Nat) (IntKind.wrap .u64 (↑(BitVec.toNat (BitVec.ofInt (64 : Nat) (Int.fdiv x0 (256 : Int)) &&& BitVec.ofInt (64 : Nat) (71777214294589695 : Int))) : Int)) ||| BitVec.ofInt (64 : Nat) (IntKind.wrap .u64 (IntKind.wrap .u64 (↑(BitVec.toNat (BitVec.ofInt (64 : Nat) x0 &&& BitVec.ofInt (64 : Nat) (71777214294589695 : Int))) : Int) * (256 : Int))))) : Int)) (65536 : Int)) &&& BitVec.ofInt (64 : Nat) (281470681808895 : Int))) : Int)) ||| BitVec.ofInt (64 : Nat) (IntKind.wrap .u64 (IntKind.wrap .u64 (↑(BitVec.toNat (BitVec.ofInt (64 : Nat) (IntKind.wrap .u64 (↑(BitVec.toNat (BitVec.ofInt (64 : Nat) (IntKind.wrap .u64 (↑(BitVec.toNat (BitVec.ofInt (64 : Nat) (Int.fdiv x0 (256 : Int)) &&& BitVec.ofInt (64 : Nat) (71777214294589695 : Int))) : Int)) ||| BitVec.ofInt (64 : Nat) (IntKind.wrap .u64 (IntKind.wrap .u64 (↑(BitVec.toNat (BitVec.ofInt (64 : Nat) x0 &&& BitVec.ofInt (64 : Nat) (71777214294589695 : Int))) : Int) * (256 : Int))))) : Int)) &&& BitVec.ofInt (64 : Nat) (281470681808895 : Int))) : Int) * (65536 : Int))))) : Int)) (4294967296 : Int)) ||| BitVec.ofInt (64 : Nat) (IntKind.wrap .u64 (IntKind.wrap .u64 (↑(BitVec.toNat (BitVec.ofInt (64 : Nat) (IntKind.wrap .u64 (↑(BitVec.toNat (BitVec.ofInt (64 : Nat) (Int.fdiv (IntKind.wrap .u64 (↑(BitVec.toNat (BitVec.ofInt (64 : Nat) (IntKind.wrap .u64 (↑(BitVec.toNat (BitVec.ofInt (64 : Nat) (Int.fdiv x0 (256 : Int)) &&& BitVec.ofInt (64 : Nat) (71777214294589695 : Int))) : Int)) ||| BitVec.ofInt (64 : Nat) (IntKind.wrap .u64 (IntKind.wrap .u64 (↑(BitVec.toNat (BitVec.ofInt (64 : Nat) x0 &&& BitVec.ofInt (64 : Nat) (71777214294589695 : Int))) : Int) * (256 : Int))))) : Int)) (65536 : Int)) &&& BitVec.ofInt (64 : Nat) (281470681808895 : Int))) : Int)) ||| BitVec.ofInt (64 : Nat) (IntKind.wrap .u64 (IntKind.wrap .u64 (↑(BitVec.toNat (BitVec.ofInt (64 : Nat) (IntKind.wrap .u64 (↑(BitVec.toNat (BitVec.ofInt (64 : Nat) (IntKind.wrap .u64 (↑(BitVec.toNat (BitVec.ofInt (64 : Nat) (Int.fdiv x0 (256 : Int)) &&& BitVec.ofInt (64 : Nat) (71777214294589695 : Int))) : Int)) ||| BitVec.ofInt (64 : Nat) (IntKind.wrap .u64 (IntKind.wrap .u64 (↑(BitVec.toNat (BitVec.ofInt (64 : Nat) x0 &&& BitVec.ofInt (64 : Nat) (71777214294589695 : Int))) : Int) * (256 : Int))))) : Int)) &&& BitVec.ofInt (64 : Nat) (281470681808895 : Int))) : Int) * (65536 : Int))))) : Int) * (4294967296 : Int))))) : Int))
noncomputable def T156 (N : Nat) : Pk → Tr Pk := tellS s156 w156 (F156 N)
theorem T156_ok (N : Nat) : FOK Tryz.prog 156 (T156 N) :=
  (fn_ok2 ownT mix (tab156_ok N) Tryz.func156 s156 w156 [] (cuts := []) trivial (fun _ => by kernel_rfl) (by kernel_rfl) (F156 N) (fun x => by kernel_rfl))
@[reducible] def s128 : SP := ⟨[.int .u64], []⟩
noncomputable def tab128 (N : Nat) : Tabs := [(156, T156 N)]
theorem tab128_ok (N : Nat) : TabOK Tryz.prog (tab128 N) := ⟨T156_ok N, trivial⟩
@[reducible] def w128 : List SP := [⟨[.int .u64], []⟩]
noncomputable def F128 (N : Nat) : (Int) → Option (Int)
  | x0 =>
  Option.bind (F156 N (IntKind.wrap .u64 (↑(BitVec.toNat (BitVec.ofInt (64 : Nat) (IntKind.wrap .u64 (↑(BitVec.toNat (BitVec.ofInt (64 : Nat) (Int.fdiv (IntKind.wrap .u64 (↑(BitVec.toNat (BitVec.ofInt (64 : Nat) (IntKind.wrap .u64 (↑(BitVec.toNat (BitVec.ofInt (64 : Nat) (Int.fdiv (IntKind.wrap .u64 (↑(BitVec.toNat (BitVec.ofInt (64 : Nat) (IntKind.wrap .u64 (↑(BitVec.toNat (BitVec.ofInt (64 : Nat) (Int.fdiv x0 (2 : Int)) &&& BitVec.ofInt (64 : Nat) (6148914691236517205 : Int))) : Int)) ||| BitVec.ofInt (64 : Nat) (IntKind.wrap .u64 (IntKind.wrap .u64 (↑(BitVec.toNat (BitVec.ofInt (64 : Nat) x0 &&& BitVec.ofInt (64 : Nat) (6148914691236517205 : Int))) : Int) * (2 : Int))))) : Int)) (4 : Int)) &&& BitVec.ofInt (64 : Nat) (3689348814741910323 : Int))) : Int)) ||| BitVec.ofInt (64 : Nat) (IntKind.wrap .u64 (IntKind.wrap .u64 (↑(BitVec.toNat (BitVec.ofInt (64 : Nat) (IntKind.wrap .u64 (↑(BitVec.toNat (BitVec.ofInt (64 : Nat) (IntKind.wrap .u64 (↑(BitVec.toNat (BitVec.ofInt (64 : Nat) (Int.fdiv x0 (2 : Int)) &&& BitVec.ofInt (64 : Nat) (6148914691236517205 : Int))) : Int)) ||| BitVec.ofInt (64 : Nat) (IntKind.wrap .u64 (IntKind.wrap .u64 (↑(BitVec.toNat (BitVec.ofInt (64 : Nat) x0 &&& BitVec.ofInt (64 : Nat) (6148914691236517205 : Int))) : Int) * (2 : Int))))) : Int)) &&& BitVec.ofInt (64 : Nat) (3689348814741910323 : Int))) : Int) * (4 : Int))))) : Int)) (16 : Int)) &&& BitVec.ofInt (64 : Nat) (1085102592571150095 : Int))) : Int)) ||| BitVec.ofInt (64 : Nat) (IntKind.wrap .u64 (IntKind.wrap .u64 (↑(BitVec.toNat (BitVec.ofInt (64 : Nat) (IntKind.wrap .u64 (↑(BitVec.toNat (BitVec.ofInt (64 : Nat) (IntKind.wrap .u64 (↑(BitVec.toNat (BitVec.ofInt (64 : Nat) (Int.fdiv (IntKind.wrap .u64 (↑(BitVec.toNat (BitVec.ofInt (64 : Nat) (IntKind.wrap .u64 (↑(BitVec.toNat (BitVec.ofInt (64 : Nat) (Int.fdiv x0 (2 : Int)) &&& BitVec.ofInt (64 : Nat) (6148914691236517205 : Int))) : Int)) ||| BitVec.ofInt (64 : Nat) (IntKind.wrap .u64 (IntKind.wrap .u64 (↑(BitVec.toNat (BitVec.ofInt (64 : Nat) x0 &&& BitVec.ofInt (64 : Nat) (6148914691236517205 : Int))) : Int) * (2 : Int))))) : Int)) (4 : Int)) &&& BitVec.ofInt (64 : Nat) (3689348814741910323 : Int))) : Int)) ||| BitVec.ofInt (64 : Nat) (IntKind.wrap .u64 (IntKind.wrap .u64 (↑(BitVec.toNat (BitVec.ofInt (64 : Nat) (IntKind.wrap .u64 (↑(BitVec.toNat (BitVec.ofInt (64 : Nat) (IntKind.wrap .u64 (↑(BitVec.toNat (BitVec.ofInt (64 : Nat) (Int.fdiv x0 (2 : Int)) &&& BitVec.ofInt (64 : Nat) (6148914691236517205 : Int))) : Int)) ||| BitVec.ofInt (64 : Nat) (IntKind.wrap .u64 (IntKind.wrap .u64 (↑(BitVec.toNat (BitVec.ofInt (64 : Nat) x0 &&& BitVec.ofInt (64 : Nat) (6148914691236517205 : Int))) : Int) * (2 : Int))))) : Int)) &&& BitVec.ofInt (64 : Nat) (3689348814741910323 : Int))) : Int) * (4 : Int))))) : Int)) &&& BitVec.ofInt (64 : Nat) (1085102592571150095 : Int))) : Int) * (16 : Int))))) : Int))) fun y0 =>
  some (y0)
noncomputable def T128 (N : Nat) : Pk → Tr Pk := tellS s128 w128 (F128 N)
theorem T128_ok (N : Nat) : FOK Tryz.prog 128 (T128 N) :=
  (fn_ok2 ownT mix (tab128_ok N) Tryz.func128 s128 w128 [] (cuts := []) trivial (fun _ => by kernel_rfl) (by kernel_rfl) (F128 N) (fun x => by kernel_rfl))
@[reducible] def s98 : SP := ⟨[.agg [.int .i64, .int .i64]], []⟩
noncomputable def tab98 (N : Nat) : Tabs := [(44, T44 N), (45, T45 N), (128, T128 N)]
theorem tab98_ok (N : Nat) : TabOK Tryz.prog (tab98 N) := ⟨T44_ok N, T45_ok N, T128_ok N, trivial⟩
@[reducible] def w98 : List SP := [⟨[.int .i64], []⟩]
noncomputable def F98 (N : Nat) : (Int × Int) → Option (Int)
  | (x0, x1) =>
  Option.bind (F44 N x1) fun y0 =>
  Option.bind (F45 N (y0, x0)) fun y1 =>
  Option.bind (F128 N (IntKind.wrap .u64 y1)) fun y2 =>
  iteP (decide (IntKind.wrap .i64 ((64 : Int) - y0) < 0)) (
  none) (
  some (IntKind.wrap .i64 (Int.fdiv y2 ((2 : Int) ^ min (Int.toNat (IntKind.wrap .i64 ((64 : Int) - y0))) (64 : Nat)))))
noncomputable def T98 (N : Nat) : Pk → Tr Pk := tellS s98 w98 (F98 N)
theorem T98_ok (N : Nat) : FOK Tryz.prog 98 (T98 N) :=
  (fn_ok2 ownT mix (tab98_ok N) Tryz.func98 s98 w98 [] (cuts := []) trivial (fun _ => by kernel_rfl) (by kernel_rfl) (F98 N) (fun x => by kernel_rfl))
@[reducible] def s59 : SP := ⟨[.adr 0 [], .agg [.int .i64, .int .i64]], [.var (.agg [.sl 1, .int .i64, .int .i64]), .row (.int .u8) 5]⟩
noncomputable def tab59 (N : Nat) : Tabs := [(98, T98 N), (14, T14 N)]
theorem tab59_ok (N : Nat) : TabOK Tryz.prog (tab59 N) := ⟨T98_ok N, T14_ok N, trivial⟩
@[reducible] def w59 : List SP := [⟨[.tup []], [.var (.agg [.sl 1, .int .i64, .int .i64]), .row (.int .u8) 5]⟩]
noncomputable def F59 (N : Nat) : (Int × Int × Int × Int × (List Int)) → Option (Int × Int × (List Int))
  | (x0, x1, x2, x3, x4) =>
  Option.bind (F98 N (x0, x1)) fun y0 =>
  Option.bind (F14 N (x1, y0, x2, x3, x4)) fun y1 =>
  some ((y1.1, y1.2.1, y1.2.2))
noncomputable def T59 (N : Nat) : Pk → Tr Pk := tellS s59 w59 (F59 N)
theorem T59_ok (N : Nat) : FOK Tryz.prog 59 (T59 N) :=
  (fn_ok2 ownT mix (tab59_ok N) Tryz.func59 s59 w59 [0] (cuts := []) trivial (fun _ => by kernel_rfl) (by kernel_rfl) (F59 N) (fun x => by kernel_rfl))
@[reducible] def s65 : SP := ⟨[.adr 0 [], .ro (.int .i64), .ro (.int .i64), .ro y0], [.var (.agg [.sl 1, .int .i64, .int .i64]), .row (.int .u8) 5]⟩
noncomputable def tab65 (N : Nat) : Tabs := [(27, T27 N), (57, T57 N), (66, T66 N), (102, T102 N), (59, T59 N), (103, T103 N), (14, T14 N), (104, T104 N)]
theorem tab65_ok (N : Nat) : TabOK Tryz.prog (tab65 N) := ⟨T27_ok N, T57_ok N, T66_ok N, T102_ok N, T59_ok N, T103_ok N, T14_ok N, T104_ok N, trivial⟩
@[reducible] def L65_26 : LD := ⟨26, [23, 3, 0, 2, 1, 22, 24], [(.ret, [8]), (.exit 0, [1, 2, 0, 3])], ⟨[.int .i64, .ro y0, .adr 0 [], .ro (.int .i64), .ro (.int .i64), .ro y0, .int .i64], [.var (.agg [.sl 1, .int .i64, .int .i64]), .row (.int .u8) 5]⟩, [(.ret, ⟨[.int .i64], [.var (.agg [.sl 1, .int .i64, .int .i64]), .row (.int .u8) 5]⟩), (.exit 0, ⟨[.ro (.int .i64), .ro (.int .i64), .adr 0 [], .ro y0], [.var (.agg [.sl 1, .int .i64, .int .i64]), .row (.int .u8) 5]⟩)]⟩
abbrev P65_26 : Type := Int × (List (Int × (Int × (Int × Unit)))) × (List Int) × (List Int) × (List (Int × (Int × (Int × Unit)))) × Int × Int × Int × (List Int)
abbrev R65_26 : Type := ((Int × Int × Int × (List Int)) ⊕ ((List Int) × (List Int) × (List (Int × (Int × (Int × Unit)))) × Int × Int × (List Int)))
noncomputable def B65_26 (N : Nat) (f : P65_26 → Option R65_26) : P65_26 → Option R65_26
  | (x0, x1, x2, x3, x4, x5, x6, x7, x8) =>
  iteP (decide (x5 < x0)) (
  iteP (within x5 (List.length x4)) (
  Option.bind (x4[Int.toNat x5]?) fun y0 =>
  Option.bind (F27 N (y0.1, y0.2.1, y0.2.2.1)) fun y1 =>
  iteP (!y1) (
  some (.inl (((1 : Int), x6, x7, x8)))) (
  Option.bind (f (x0, x1, x2, x3, x4, IntKind.wrap .i64 (x5 + 1), x6, x7, x8)) fun r => match r with | .inl y => some (.inl y) | .inr y => some (.inr y))) (
  none)) (
  some (.inr ((x3, x2, x1, x6, x7, x8))))
noncomputable def F65_26 (N : Nat) : Nat → P65_26 → Option R65_26
  | 0, _ => none
  | k + 1, x => B65_26 N (F65_26 N k) x
theorem C65_26_ok (N : Nat) (k : Nat) : CutAt Tryz.prog Tryz.f65 [0] 26 (L65_26.cut (F65_26 N k)) :=
  L65_26.loopT ownT mix (tab65_ok N) Tryz.f65 [0] (cuts := []) trivial (by decide +kernel) (by kernel_rfl) (B65_26 N) (F65_26 N) (fun _ => rfl) (fun _ _ => rfl) (fun f x => by kernel_rfl) k
@[reducible] def L65_1018 : LD := ⟨1018, [67, 66, 65, 13, 0, 11], [(.ret, [8]), (.exit 2, [0, 11])], ⟨[.int .i64, .int .i64, .ro y0, .sl 1, .adr 0 [], .sl 2], [.var (.agg [.sl 3, .int .i64, .int .i64]), .row y2 105, .row y2 105, .row (.int .u8) 5]⟩, [(.exit 2, ⟨[.adr 0 [], .sl 1], [.var (.agg [.sl 2, .int .i64, .int .i64]), .row y2 105, .row (.int .u8) 5]⟩)]⟩
abbrev P65_1018 : Type := Int × Int × (List (Int × (Int × (Int × Unit)))) × Int × Int × (List (Int × (Int × Unit))) × (List (Int × (Int × Unit))) × (List Int)
abbrev R65_1018 : Type := Int × Int × (List (Int × (Int × Unit))) × (List Int)
noncomputable def B65_1018 (N : Nat) (f : P65_1018 → Option R65_1018) : P65_1018 → Option R65_1018
  | (x0, x1, x2, x3, x4, x5, x6, x7) =>
  iteP (decide (x0 < x1)) (
  iteP (within x0 (List.length x2)) (
  Option.bind (x2[Int.toNat x0]?) fun y0 =>
  iteP (y0.2.1 == 0) (
  iteP (within y0.1 (List.length x6)) (
  Option.bind (x6[Int.toNat y0.1]?) fun y1 =>
  Option.bind (F59 N (y1.1, y1.2.1, x3, x4, x7)) fun y2 =>
  Option.bind (f (IntKind.wrap .i64 (x0 + 1), x1, x2, y2.1, y2.2.1, x5, x6, y2.2.2)) fun r => some r) (
  none)) (
  Option.bind (F103 N y0.2.1) fun y3 =>
  iteP (within y3.1 (List.length x6)) (
  Option.bind (x6[Int.toNat y3.1]?) fun y4 =>
  Option.bind (F59 N (y4.1, y4.2.1, x3, x4, x7)) fun y5 =>
  Option.bind (F14 N (y3.2.2, y3.2.1, y5.1, y5.2.1, y5.2.2)) fun y6 =>
  Option.bind (F104 N y0.2.2.1) fun y7 =>
  iteP (within y7.1 (List.length x5)) (
  Option.bind (x5[Int.toNat y7.1]?) fun y8 =>
  Option.bind (F59 N (y8.1, y8.2.1, y6.1, y6.2.1, y6.2.2)) fun y9 =>
  Option.bind (F14 N (y7.2.2, y7.2.1, y9.1, y9.2.1, y9.2.2)) fun y10 =>
  Option.bind (f (IntKind.wrap .i64 (x0 + 1), x1, x2, y10.1, y10.2.1, x5, x6, y10.2.2)) fun r => some r) (
  none)) (
  none))) (
  none)) (
  some ((x3, x4, x6, x7)))
noncomputable def F65_1018 (N : Nat) : Nat → P65_1018 → Option R65_1018
  | 0, _ => none
  | k + 1, x => B65_1018 N (F65_1018 N k) x
theorem C65_1018_ok (N : Nat) (k : Nat) : CutAt Tryz.prog Tryz.f65 [0] 1018 (L65_1018.cut (F65_1018 N k)) :=
  L65_1018.loopT ownT mix (tab65_ok N) Tryz.f65 [0] (cuts := [(26, L65_26.cut (F65_26 N N))]) ⟨C65_26_ok N N, trivial⟩ (by decide +kernel) (by kernel_rfl) (B65_1018 N) (F65_1018 N) (fun _ => rfl) (fun _ _ => rfl) (fun f x => by kernel_rfl) k
@[reducible] def w65 : List SP := [⟨[.int .i64], [.var (.agg [.sl 1, .int .i64, .int .i64]), .row (.int .u8) 5]⟩]
noncomputable def F65 (N : Nat) : ((List Int) × (List Int) × (List (Int × (Int × (Int × Unit)))) × Int × Int × (List Int)) → Option (Int × Int × Int × (List Int))
  | (x0, x1, x2, x3, x4, x5) =>
  Option.bind (F65_26 N N ((↑(List.length x2) : Int), x2, x1, x0, x2, (0 : Int), x3, x4, x5)) fun y0 =>
  match y0 with
  | .inl y1 =>
  some ((y1.1, y1.2.1, y1.2.2.1, y1.2.2.2))
  | .inr y1 =>
  Option.bind (F57 N y1.1) fun y2 =>
  Option.bind (F57 N y1.2.1) fun y3 =>
  Option.bind (F66 N y1.2.2.1) fun y4 =>
  iteP (y2.1 != 0) (
  some (((50 : Int), y1.2.2.2.1, y1.2.2.2.2.1, y1.2.2.2.2.2))) (
  iteP (y3.1 != 0) (
  some (((50 : Int), y1.2.2.2.1, y1.2.2.2.2.1, y1.2.2.2.2.2))) (
  Option.bind (F102 N (y2.2, y4.1)) fun y5 =>
  iteP (!y5) (
  some (((50 : Int), y1.2.2.2.1, y1.2.2.2.2.1, y1.2.2.2.2.2))) (
  Option.bind (F102 N (y3.2, y4.2)) fun y6 =>
  iteP (!y6) (
  some (((50 : Int), y1.2.2.2.1, y1.2.2.2.2.1, y1.2.2.2.2.2))) (
  Option.bind (F65_1018 N N ((0 : Int), (↑(List.length y1.2.2.1) : Int), y1.2.2.1, y1.2.2.2.1, y1.2.2.2.2.1, y3.2, y2.2, y1.2.2.2.2.2)) fun y7 =>
  iteP (within (256 : Int) (List.length y7.2.2.1)) (
  Option.bind (y7.2.2.1[(256 : Nat)]?) fun y8 =>
  Option.bind (F59 N (y8.1, y8.2.1, y7.1, y7.2.1, y7.2.2.2)) fun y9 =>
  some (((0 : Int), y9.1, y9.2.1, y9.2.2))) (
  none)))))
noncomputable def T65 (N : Nat) : Pk → Tr Pk := tellS s65 w65 (F65 N)
theorem T65_ok (N : Nat) : FOK Tryz.prog 65 (T65 N) :=
  (fn_ok2 ownT mix (tab65_ok N) Tryz.func65 s65 w65 [0] (cuts := [(26, L65_26.cut (F65_26 N N)), (1018, L65_1018.cut (F65_1018 N N))]) ⟨C65_26_ok N N, C65_1018_ok N N, trivial⟩ (fun _ => by kernel_rfl) (by kernel_rfl) (F65 N) (fun x => by kernel_rfl))
@[reducible] def s153 : SP := ⟨[.nilsl, .int .i64], []⟩
noncomputable def tab153 (N : Nat) : Tabs := []
theorem tab153_ok (N : Nat) : TabOK Tryz.prog (tab153 N) := trivial
@[reducible] def y3 : Ty := (.cons (.int .i64) (.cons (.sl (.int .i64)) .unit))
@[reducible] def w153 : List SP := [⟨[.slp 0 (.c 0) (.c 0)], [.row y3 137]⟩, ⟨[.sl 0], [.row y3 137]⟩]
noncomputable def F153 (N : Nat) : (Int) → Option ((((List (Int × ((List Int) × Unit)))) ⊕ ((List (Int × ((List Int) × Unit))))))
  | x0 =>
  iteP (decide (x0 < 0)) (
  none) (
  iteP (decide (IntKind.wrap .i64 (x0 - 0) > 0)) (
  iteP (decide ((0 : Int) < IntKind.wrap .i64 (x0 - 0) ∧ IntKind.wrap .i64 (x0 - 0) * 32 ≤ (140737488355328 : Int) ∧ IntKind.wrap .i64 (x0 - 0) ≤ 140737488355328)) (
  iteP (decide ((0 : Int) ≤ (0 : Int) ∧ (0 : Int) ≤ (↑(List.length (List.replicate (Int.toNat (IntKind.wrap .i64 (x0 - 0))) ((0 : Int), nilT (Ty.den (Ty.int IntKind.i64)), ()))) : Int))) (
  some (.inl (List.replicate (Int.toNat (IntKind.wrap .i64 (x0 - 0))) ((0 : Int), nilT (Ty.den (Ty.int IntKind.i64)), ())))) (
  none)) (
  none)) (
  some (.inr ([]))))
noncomputable def T153 (N : Nat) : Pk → Tr Pk := postT (trimP (Ty.cons (Ty.int IntKind.i64) (Ty.cons (Ty.sl (Ty.int IntKind.i64)) (Ty.unit))) 137) (tellS s153 w153 (F153 N))
theorem T153_ok (N : Nat) : FOK Tryz.prog 153 (T153 N) :=
  postT_ok (trimP_ok _ _) (fn_ok2 ownT mix (tab153_ok N) Tryz.func153 s153 w153 [] (cuts := []) trivial (fun _ => by kernel_rfl) (by kernel_rfl) (F153 N) (fun x => by kernel_rfl))
@[reducible] def y4 : Ty := (.sl (.cons (.int .i64) (.cons (.sl (.int .i64)) .unit)))
@[reducible] def s124 : SP := ⟨[.sl 0], [.row y4 133]⟩
noncomputable def tab124 (N : Nat) : Tabs := [(153, T153 N)]
theorem tab124_ok (N : Nat) : TabOK Tryz.prog (tab124 N) := ⟨T153_ok N, trivial⟩
@[reducible] def L124_58 : LD := ⟨58, [3, 11, 10, 0, 9], [(.ret, [2]), (.exit 0, [3, 0])], ⟨[.int .i64, .int .i64, .int .i64, .sl 0, .sl 0], [.row y4 133]⟩, [(.exit 0, ⟨[.int .i64, .sl 0], [.row y4 133]⟩)]⟩
abbrev P124_58 : Type := Int × Int × Int × (List (List (Int × ((List Int) × Unit))))
abbrev R124_58 : Type := Int × (List (List (Int × ((List Int) × Unit))))
noncomputable def B124_58 (N : Nat) (f : P124_58 → Option R124_58) : P124_58 → Option R124_58
  | (x0, x1, x2, x3) =>
  iteP (decide (x1 < x2)) (
  iteP (within x1 (List.length x3)) (
  Option.bind (x3[Int.toNat x1]?) fun y0 =>
  iteP (decide (IntKind.wrap .i64 (x0 + (↑(List.length y0) : Int)) < 0)) (
  none) (
  Option.bind (f (IntKind.wrap .i64 (x0 + (↑(List.length y0) : Int)), IntKind.wrap .i64 (x1 + 1), x2, x3)) fun r => some r)) (
  none)) (
  some ((x0, x3)))
noncomputable def F124_58 (N : Nat) : Nat → P124_58 → Option R124_58
  | 0, _ => none
  | k + 1, x => B124_58 N (F124_58 N k) x
theorem C124_58_ok (N : Nat) (k : Nat) : CutAt Tryz.prog Tryz.f124 [] 58 (L124_58.cut (F124_58 N k)) :=
  L124_58.loopT ownT mix (tab124_ok N) Tryz.f124 [] (cuts := []) trivial (by decide +kernel) (by kernel_rfl) (B124_58 N) (F124_58 N) (fun _ => rfl) (fun _ _ => rfl) (fun f x => by kernel_rfl) k
@[reducible] def L124_250 : LD := ⟨250, [6, 27, 26, 25], [(.ret, [2]), (.exit 2, [6])], ⟨[.sl 0, .int .i64, .int .i64, .sl 1], [.row y3 137, .row y4 133]⟩, [(.exit 2, ⟨[.sl 0], [.row y3 137]⟩)]⟩
abbrev P124_250 : Type := Int × Int × (List (Int × ((List Int) × Unit))) × (List (List (Int × ((List Int) × Unit))))
abbrev R124_250 : Type := (List (Int × ((List Int) × Unit)))
noncomputable def B124_250 (N : Nat) (f : P124_250 → Option R124_250) : P124_250 → Option R124_250
  | (x0, x1, x2, x3) =>
  iteP (decide (x0 < x1)) (
  iteP (within x0 (List.length x3)) (
  Option.bind (x3[Int.toNat x0]?) fun y0 =>
  iteP (decide ((List.length x2 + List.length y0) * 32 ≤ (140737488355328 : Nat) ∧ List.length x2 + List.length y0 ≤ 140737488355328)) (
  Option.bind (f (IntKind.wrap .i64 (x0 + 1), x1, x2 ++ y0, x3)) fun r => some r) (
  none)) (
  none)) (
  some (x2))
noncomputable def F124_250 (N : Nat) : Nat → P124_250 → Option R124_250
  | 0, _ => none
  | k + 1, x => B124_250 N (F124_250 N k) x
theorem C124_250_ok (N : Nat) (k : Nat) : CutAt Tryz.prog Tryz.f124 [] 250 (L124_250.cut (F124_250 N k)) :=
  L124_250.loopT ownT mix (tab124_ok N) Tryz.f124 [] (cuts := [(58, L124_58.cut (F124_58 N N))]) ⟨C124_58_ok N N, trivial⟩ (by decide +kernel) (by kernel_rfl) (B124_250 N) (F124_250 N) (fun _ => rfl) (fun _ _ => rfl) (fun f x => by kernel_rfl) k
@[reducible] def w124 : List SP := [⟨[.sl 0], [.row y3 137]⟩]
noncomputable def F124 (N : Nat) : ((List (List (Int × ((List Int) × Unit))))) → Option ((List (Int × ((List Int) × Unit))))
  | x0 =>
  Option.bind (F124_58 N N ((0 : Int), (0 : Int), (↑(List.length x0) : Int), x0)) fun y0 =>
  Option.bind (F153 N y0.1) fun y1 =>
  match y1 with
  | .inl y2 =>
  Option.bind (F124_250 N N ((0 : Int), (↑(List.length y0.2) : Int), [], y0.2)) fun y3 =>
  some (y3)
  | .inr y2 =>
  Option.bind (F124_250 N N ((0 : Int), (↑(List.length y0.2) : Int), y2, y0.2)) fun y4 =>
  some (y4)
noncomputable def T124 (N : Nat) : Pk → Tr Pk := tellS s124 w124 (F124 N)
theorem T124_ok (N : Nat) : FOK Tryz.prog 124 (T124 N) :=
  (fn_ok2 ownT mix (tab124_ok N) Tryz.func124 s124 w124 [] (cuts := [(58, L124_58.cut (F124_58 N N)), (250, L124_250.cut (F124_250 N N))]) ⟨C124_58_ok N N, C124_250_ok N N, trivial⟩ (fun _ => by kernel_rfl) (by kernel_rfl) (F124 N) (fun x => by kernel_rfl))
@[reducible] def s155 : SP := ⟨[.int .i64], []⟩
noncomputable def tab155 (N : Nat) : Tabs := []
theorem tab155_ok (N : Nat) : TabOK Tryz.prog (tab155 N) := trivial
@[reducible] def w155 : List SP := [⟨[.bool], []⟩]
noncomputable def F155 (N : Nat) : (Int) → Option (Bool)
  | x0 =>
  some (x0 != x0)
noncomputable def T155 (N : Nat) : Pk → Tr Pk := tellS s155 w155 (F155 N)
theorem T155_ok (N : Nat) : FOK Tryz.prog 155 (T155 N) :=
  (fn_ok2 ownT mix (tab155_ok N) Tryz.func155 s155 w155 [] (cuts := []) trivial (fun _ => by kernel_rfl) (by kernel_rfl) (F155 N) (fun x => by kernel_rfl))
@[reducible] def s127 : SP := ⟨[.int .i64, .int .i64], []⟩
noncomputable def tab127 (N : Nat) : Tabs := [(155, T155 N)]
theorem tab127_ok (N : Nat) : TabOK Tryz.prog (tab127 N) := ⟨T155_ok N, trivial⟩
@[reducible] def w127 : List SP := [⟨[.int .i64], []⟩]
noncomputable def F127 (N : Nat) : (Int × Int) → Option (Int)
  | (x0, x1) =>
  Option.bind (F155 N x0) fun y0 =>
  Option.bind (F155 N x1) fun y1 =>
  iteP (y0) (
  iteP (y1) (
  some ((0 : Int))) (
  some ((-1 : Int)))) (
  iteP (y1) (
  some ((1 : Int))) (
  iteP (decide (x0 < x1)) (
  some ((-1 : Int))) (
  iteP (decide (x0 > x1)) (
  some ((1 : Int))) (
  some ((0 : Int))))))
noncomputable def T127 (N : Nat) : Pk → Tr Pk := tellS s127 w127 (F127 N)
theorem T127_ok (N : Nat) : FOK Tryz.prog 127 (T127 N) :=
  (fn_ok2 ownT mix (tab127_ok N) Tryz.func127 s127 w127 [] (cuts := []) trivial (fun _ => by kernel_rfl) (by kernel_rfl) (F127 N) (fun x => by kernel_rfl))
@[reducible] def s126 : SP := ⟨[.agg [.int .i64, .ro (.int .i64)], .agg [.int .i64, .ro (.int .i64)]], []⟩
noncomputable def tab126 (N : Nat) : Tabs := [(127, T127 N)]
theorem tab126_ok (N : Nat) : TabOK Tryz.prog (tab126 N) := ⟨T127_ok N, trivial⟩
@[reducible] def w126 : List SP := [⟨[.int .i64], []⟩]
noncomputable def F126 (N : Nat) : (Int × (List Int) × Int × (List Int)) → Option (Int)
  | (x0, x1, x2, x3) =>
  Option.bind (F127 N (x0, x2)) fun y0 =>
  some (y0)
noncomputable def T126 (N : Nat) : Pk → Tr Pk := tellS s126 w126 (F126 N)
theorem T126_ok (N : Nat) : FOK Tryz.prog 126 (T126 N) :=
  (fn_ok2 ownT mix (tab126_ok N) Tryz.func126 s126 w126 [] (cuts := []) trivial (fun _ => by kernel_rfl) (by kernel_rfl) (F126 N) (fun x => by kernel_rfl))
@[reducible] def s168a : SP := ⟨[.slp 0 .h .h, .int .i64, .int .i64, .fn 126], [.row y3 137]⟩
noncomputable def tab168a (N : Nat) : Tabs := [(126, T126 N)]
theorem tab168a_ok (N : Nat) : TabOK Tryz.prog (tab168a N) := ⟨T126_ok N, trivial⟩
@[reducible] def L168a_402 : LD := ⟨402, [9, 3, 1, 2, 8, 0], [(.ret, []), (.exit 2, [8, 2, 1, 3, 0]), (.exit 1, [8, 2, 1, 3, 0]), (.exit 0, [])], ⟨[.int .i64, .fn 126, .int .i64, .int .i64, .int .i64, .slp 0 .h .h], [.row y3 137]⟩, [(.exit 2, ⟨[.int .i64, .int .i64, .int .i64, .fn 126, .slp 0 .h .h], [.row y3 137]⟩)]⟩
abbrev P168a_402 : Type := Int × Int × Int × Int × Nat × Nat × (List (Int × ((List Int) × Unit)))
abbrev R168a_402 : Type := Int × Int × Int × Nat × Nat × (List (Int × ((List Int) × Unit)))
noncomputable def B168a_402 (N : Nat) (f : P168a_402 → Option R168a_402) : P168a_402 → Option R168a_402
  | (x0, x1, x2, x3, x4, x5, x6) =>
  iteP (decide (x0 > x1)) (
  iteP (within x0 x5) (
  Option.bind (x6[x4 + Int.toNat x0]?) fun y0 =>
  iteP (within (IntKind.wrap .i64 (x0 - 1)) x5) (
  Option.bind (x6[x4 + Int.toNat (IntKind.wrap .i64 (x0 - 1))]?) fun y1 =>
  Option.bind (F126 N (y0.1, y0.2.1, y1.1, y1.2.1)) fun y2 =>
  iteP (decide (y2 < 0)) (
  iteP (within (IntKind.wrap .i64 (x0 - 1)) x5) (
  Option.bind (x6[x4 + Int.toNat (IntKind.wrap .i64 (x0 - 1))]?) fun y3 =>
  iteP (within x0 x5) (
  Option.bind (x6[x4 + Int.toNat x0]?) fun y4 =>
  iteP (within x0 x5) (
  Option.bind (x6[x4 + Int.toNat x0]?) fun y5 =>
  iteP (within (IntKind.wrap .i64 (x0 - 1)) x5) (
  Option.bind ((List.set x6 (x4 + Int.toNat x0) (y3.1, y3.2.1, ()))[x4 + Int.toNat (IntKind.wrap .i64 (x0 - 1))]?) fun y6 =>
  Option.bind (f (IntKind.wrap .i64 (x0 - 1), x1, x2, x3, x4, x5, List.set (List.set x6 (x4 + Int.toNat x0) (y3.1, y3.2.1, ())) (x4 + Int.toNat (IntKind.wrap .i64 (x0 - 1))) (y4.1, y4.2.1, ()))) fun r => some r) (
  none)) (
  none)) (
  none)) (
  none)) (
  some ((x3, x2, x1, x4, x5, x6)))) (
  none)) (
  none)) (
  some ((x3, x2, x1, x4, x5, x6)))
noncomputable def F168a_402 (N : Nat) : Nat → P168a_402 → Option R168a_402
  | 0, _ => none
  | k + 1, x => B168a_402 N (F168a_402 N k) x
theorem C168a_402_ok (N : Nat) (k : Nat) : CutAt Tryz.prog Tryz.f168 [0] 402 (L168a_402.cut (F168a_402 N k)) :=
  L168a_402.loopT ownT mix (tab168a_ok N) Tryz.f168 [0] (cuts := []) trivial (by decide +kernel) (by kernel_rfl) (B168a_402 N) (F168a_402 N) (fun _ => rfl) (fun _ _ => rfl) (fun f x => by kernel_rfl) k
@[reducible] def L168a_6 : LD := ⟨6, [2, 1, 3, 8, 0], [(.ret, []), (.exit 0, [])], ⟨[.int .i64, .int .i64, .fn 126, .int .i64, .slp 0 .h .h], [.row y3 137]⟩, [(.exit 0, ⟨[], [.row y3 137]⟩)]⟩
abbrev P168a_6 : Type := Int × Int × Int × Nat × Nat × (List (Int × ((List Int) × Unit)))
abbrev R168a_6 : Type := (List (Int × ((List Int) × Unit)))
noncomputable def B168a_6 (N : Nat) (f : P168a_6 → Option R168a_6) : P168a_6 → Option R168a_6
  | (x0, x1, x2, x3, x4, x5) =>
  iteP (decide (x2 < x0)) (
  Option.bind (F168a_402 N N (x2, x1, x0, x2, x3, x4, x5)) fun y0 =>
  Option.bind (f (y0.2.1, y0.2.2.1, IntKind.wrap .i64 (y0.1 + 1), y0.2.2.2.1, y0.2.2.2.2.1, y0.2.2.2.2.2)) fun r => some r) (
  some (x5))
noncomputable def F168a_6 (N : Nat) : Nat → P168a_6 → Option R168a_6
  | 0, _ => none
  | k + 1, x => B168a_6 N (F168a_6 N k) x
theorem C168a_6_ok (N : Nat) (k : Nat) : CutAt Tryz.prog Tryz.f168 [0] 6 (L168a_6.cut (F168a_6 N k)) :=
  L168a_6.loopT ownT mix (tab168a_ok N) Tryz.f168 [0] (cuts := [(402, L168a_402.cut (F168a_402 N N))]) ⟨C168a_402_ok N N, trivial⟩ (by decide +kernel) (by kernel_rfl) (B168a_6 N) (F168a_6 N) (fun _ => rfl) (fun _ _ => rfl) (fun f x => by kernel_rfl) k
@[reducible] def w168a : List SP := [⟨[.tup []], [.row y3 137]⟩]
noncomputable def F168a (N : Nat) : (Nat × Nat × Int × Int × (List (Int × ((List Int) × Unit)))) → Option ((List (Int × ((List Int) × Unit))))
  | (x0, x1, x2, x3, x4) =>
  Option.bind (F168a_6 N N (x3, x2, IntKind.wrap .i64 (x2 + 1), x0, x1, x4)) fun y0 =>
  some (y0)
noncomputable def V168a (N : Nat) : Pk → Tr Pk := tellS s168a w168a (F168a N)
theorem V168a_ok (N : Nat) : FOK Tryz.prog 168 (V168a N) :=
  (fn_ok2 ownT mix (tab168a_ok N) Tryz.func168 s168a w168a [0] (cuts := [(402, L168a_402.cut (F168a_402 N N)), (6, L168a_6.cut (F168a_6 N N))]) ⟨C168a_402_ok N N, C168a_6_ok N N, trivial⟩ (fun _ => by kernel_rfl) (by kernel_rfl) (F168a N) (fun x => by kernel_rfl))
noncomputable def T168 (N : Nat) : Pk → Tr Pk := (V168a N)
theorem T168_ok (N : Nat) : FOK Tryz.prog 168 (T168 N) := (V168a_ok N)
@[reducible] def s174a : SP := ⟨[.slp 0 .h .h, .int .i64, .int .i64, .int .i64, .fn 126], [.row y3 137]⟩
noncomputable def tab174a (N : Nat) : Tabs := [(126, T126 N)]
theorem tab174a_ok (N : Nat) : TabOK Tryz.prog (tab174a N) := ⟨T126_ok N, trivial⟩
@[reducible] def L174a_6 : LD := ⟨6, [10, 3, 2, 0, 1], [(.ret, []), (.exit 0, [])], ⟨[.int .i64, .int .i64, .int .i64, .slp 0 .h .h, .int .i64], [.row y3 137]⟩, [(.exit 0, ⟨[], [.row y3 137]⟩)]⟩
abbrev P174a_6 : Type := Int × Int × Int × Nat × Nat × Int × (List (Int × ((List Int) × Unit)))
abbrev R174a_6 : Type := (List (Int × ((List Int) × Unit)))
noncomputable def B174a_6 (N : Nat) (f : P174a_6 → Option R174a_6) : P174a_6 → Option R174a_6
  | (x0, x1, x2, x3, x4, x5, x6) =>
  iteP (decide (x0 < x1)) (
  iteP (within (IntKind.wrap .i64 (x2 + x0)) x4) (
  Option.bind (x6[x3 + Int.toNat (IntKind.wrap .i64 (x2 + x0))]?) fun y0 =>
  iteP (within (IntKind.wrap .i64 (x5 + x0)) x4) (
  Option.bind (x6[x3 + Int.toNat (IntKind.wrap .i64 (x5 + x0))]?) fun y1 =>
  iteP (within (IntKind.wrap .i64 (x5 + x0)) x4) (
  Option.bind (x6[x3 + Int.toNat (IntKind.wrap .i64 (x5 + x0))]?) fun y2 =>
  iteP (within (IntKind.wrap .i64 (x2 + x0)) x4) (
  Option.bind ((List.set x6 (x3 + Int.toNat (IntKind.wrap .i64 (x5 + x0))) (y0.1, y0.2.1, ()))[x3 + Int.toNat (IntKind.wrap .i64 (x2 + x0))]?) fun y3 =>
  Option.bind (f (IntKind.wrap .i64 (x0 + 1), x1, x2, x3, x4, x5, List.set (List.set x6 (x3 + Int.toNat (IntKind.wrap .i64 (x5 + x0))) (y0.1, y0.2.1, ())) (x3 + Int.toNat (IntKind.wrap .i64 (x2 + x0))) (y1.1, y1.2.1, ()))) fun r => some r) (
  none)) (
  none)) (
  none)) (
  none)) (
  some (x6))
noncomputable def F174a_6 (N : Nat) : Nat → P174a_6 → Option R174a_6
  | 0, _ => none
  | k + 1, x => B174a_6 N (F174a_6 N k) x
theorem C174a_6_ok (N : Nat) (k : Nat) : CutAt Tryz.prog Tryz.f174 [0] 6 (L174a_6.cut (F174a_6 N k)) :=
  L174a_6.loopT ownT mix (tab174a_ok N) Tryz.f174 [0] (cuts := []) trivial (by decide +kernel) (by kernel_rfl) (B174a_6 N) (F174a_6 N) (fun _ => rfl) (fun _ _ => rfl) (fun f x => by kernel_rfl) k
@[reducible] def w174a : List SP := [⟨[.tup []], [.row y3 137]⟩]
noncomputable def F174a (N : Nat) : (Nat × Nat × Int × Int × Int × (List (Int × ((List Int) × Unit)))) → Option ((List (Int × ((List Int) × Unit))))
  | (x0, x1, x2, x3, x4, x5) =>
  Option.bind (F174a_6 N N ((0 : Int), x4, x3, x0, x1, x2, x5)) fun y0 =>
  some (y0)
noncomputable def V174a (N : Nat) : Pk → Tr Pk := tellS s174a w174a (F174a N)
theorem V174a_ok (N : Nat) : FOK Tryz.prog 174 (V174a N) :=
  (fn_ok2 ownT mix (tab174a_ok N) Tryz.func174 s174a w174a [0] (cuts := [(6, L174a_6.cut (F174a_6 N N))]) ⟨C174a_6_ok N N, trivial⟩ (fun _ => by kernel_rfl) (by kernel_rfl) (F174a N) (fun x => by kernel_rfl))
noncomputable def T174 (N : Nat) : Pk → Tr Pk := (V174a N)
theorem T174_ok (N : Nat) : FOK Tryz.prog 174 (T174 N) := (V174a_ok N)
@[reducible] def s173a : SP := ⟨[.slp 0 .h .h, .int .i64, .int .i64, .int .i64, .fn 126], [.row y3 137]⟩
noncomputable def tab173a (N : Nat) : Tabs := [(174, T174 N), (126, T126 N)]
theorem tab173a_ok (N : Nat) : TabOK Tryz.prog (tab173a N) := ⟨T174_ok N, T126_ok N, trivial⟩
@[reducible] def L173a_28 : LD := ⟨28, [10, 0, 2, 4, 11], [(.ret, []), (.exit 0, [0, 2, 10, 4])], ⟨[.int .i64, .slp 0 .h .h, .int .i64, .fn 126, .int .i64], [.row y3 137]⟩, [(.exit 0, ⟨[.slp 0 .h .h, .int .i64, .int .i64, .fn 126], [.row y3 137]⟩)]⟩
abbrev P173a_28 : Type := Int × Nat × Nat × Int × Int × (List (Int × ((List Int) × Unit)))
abbrev R173a_28 : Type := Nat × Nat × Int × Int × (List (Int × ((List Int) × Unit)))
noncomputable def B173a_28 (N : Nat) (f : P173a_28 → Option R173a_28) : P173a_28 → Option R173a_28
  | (x0, x1, x2, x3, x4, x5) =>
  iteP (x0 != x4) (
  iteP (decide (x0 > x4)) (
  Option.bind (F174a N (x1, x2, IntKind.wrap .i64 (x3 - x0), x3, x4, x5)) fun y0 =>
  Option.bind (f (IntKind.wrap .i64 (x0 - x4), x1, x2, x3, x4, y0)) fun r => some r) (
  Option.bind (F174a N (x1, x2, IntKind.wrap .i64 (x3 - x0), IntKind.wrap .i64 (IntKind.wrap .i64 (x3 + x4) - x0), x0, x5)) fun y1 =>
  Option.bind (f (x0, x1, x2, x3, IntKind.wrap .i64 (x4 - x0), y1)) fun r => some r)) (
  some ((x1, x2, x3, x0, x5)))
noncomputable def F173a_28 (N : Nat) : Nat → P173a_28 → Option R173a_28
  | 0, _ => none
  | k + 1, x => B173a_28 N (F173a_28 N k) x
theorem C173a_28_ok (N : Nat) (k : Nat) : CutAt Tryz.prog Tryz.f173 [0] 28 (L173a_28.cut (F173a_28 N k)) :=
  L173a_28.loopT ownT mix (tab173a_ok N) Tryz.f173 [0] (cuts := []) trivial (by decide +kernel) (by kernel_rfl) (B173a_28 N) (F173a_28 N) (fun _ => rfl) (fun _ _ => rfl) (fun f x => by kernel_rfl) k
@[reducible] def w173a : List SP := [⟨[.tup []], [.row y3 137]⟩]
noncomputable def F173a (N : Nat) : (Nat × Nat × Int × Int × Int × (List (Int × ((List Int) × Unit)))) → Option ((List (Int × ((List Int) × Unit))))
  | (x0, x1, x2, x3, x4, x5) =>
  Option.bind (F173a_28 N N (IntKind.wrap .i64 (x3 - x2), x0, x1, x3, IntKind.wrap .i64 (x4 - x3), x5)) fun y0 =>
  Option.bind (F174a N (y0.1, y0.2.1, IntKind.wrap .i64 (y0.2.2.1 - y0.2.2.2.1), y0.2.2.1, y0.2.2.2.1, y0.2.2.2.2)) fun y1 =>
  some (y1)
noncomputable def V173a (N : Nat) : Pk → Tr Pk := tellS s173a w173a (F173a N)
theorem V173a_ok (N : Nat) : FOK Tryz.prog 173 (V173a N) :=
  (fn_ok2 ownT mix (tab173a_ok N) Tryz.func173 s173a w173a [0] (cuts := [(28, L173a_28.cut (F173a_28 N N))]) ⟨C173a_28_ok N N, trivial⟩ (fun _ => by kernel_rfl) (by kernel_rfl) (F173a N) (fun x => by kernel_rfl))
noncomputable def T173 (N : Nat) : Pk → Tr Pk := (V173a N)
theorem T173_ok (N : Nat) : FOK Tryz.prog 173 (T173 N) := (V173a_ok N)
@[reducible] def s169a : SP := ⟨[.slp 0 .h .h, .int .i64, .int .i64, .int .i64, .fn 126], [.row y3 137]⟩
@[reducible] def w169a : List SP := [⟨[.tup []], [.row (.cons (.int .i64) (.cons (.sl (.int .i64)) .unit)) 137]⟩]
noncomputable def tab169a (N : Nat) (G : (Nat × Nat × Int × Int × Int × (List (Int × ((List Int) × Unit)))) → Option ((List (Int × ((List Int) × Unit))))) : List (Nat × (Pk → Tr Pk)) := [(169, tellS s169a w169a G), (173, T173 N), (126, T126 N)]
theorem tab169a_ok (N : Nat) (G : (Nat × Nat × Int × Int × Int × (List (Int × ((List Int) × Unit)))) → Option ((List (Int × ((List Int) × Unit))))) (hG : FOK Tryz.prog 169 (tellS s169a w169a G)) : TabOK Tryz.prog (tab169a N G) := ⟨hG, T173_ok N, T126_ok N, trivial⟩
@[reducible] def L169a_172 : LD := ⟨172, [10, 11, 4, 0, 1], [(.ret, []), (.exit 0, [1, 10, 0])], ⟨[.int .i64, .int .i64, .fn 126, .slp 0 .h .h, .int .i64], [.row y3 137]⟩, [(.exit 0, ⟨[.int .i64, .int .i64, .slp 0 .h .h], [.row y3 137]⟩)]⟩
abbrev P169a_172 : Type := Int × Int × Nat × Nat × Int × (List (Int × ((List Int) × Unit)))
abbrev R169a_172 : Type := Int × Int × Nat × Nat × (List (Int × ((List Int) × Unit)))
noncomputable def B169a_172 (N : Nat) (G : (Nat × Nat × Int × Int × Int × (List (Int × ((List Int) × Unit)))) → Option ((List (Int × ((List Int) × Unit))))) (f : P169a_172 → Option R169a_172) : P169a_172 → Option R169a_172
  | (x0, x1, x2, x3, x4, x5) =>
  iteP (decide (x0 < x1)) (
  iteP (within (IntKind.wrap .i64 (Int.fdiv (IntKind.wrap .u64 (IntKind.wrap .i64 (x0 + x1))) (2 : Int))) x3) (
  Option.bind (x5[x2 + Int.toNat (IntKind.wrap .i64 (Int.fdiv (IntKind.wrap .u64 (IntKind.wrap .i64 (x0 + x1))) (2 : Int)))]?) fun y0 =>
  iteP (within x4 x3) (
  Option.bind (x5[x2 + Int.toNat x4]?) fun y1 =>
  Option.bind (F126 N (y0.1, y0.2.1, y1.1, y1.2.1)) fun y2 =>
  iteP (decide (y2 < 0)) (
  Option.bind (f (IntKind.wrap .i64 (IntKind.wrap .i64 (Int.fdiv (IntKind.wrap .u64 (IntKind.wrap .i64 (x0 + x1))) (2 : Int)) + 1), x1, x2, x3, x4, x5)) fun r => some r) (
  Option.bind (f (x0, IntKind.wrap .i64 (Int.fdiv (IntKind.wrap .u64 (IntKind.wrap .i64 (x0 + x1))) (2 : Int)), x2, x3, x4, x5)) fun r => some r)) (
  none)) (
  none)) (
  some ((x4, x0, x2, x3, x5)))
noncomputable def F169a_172 (N : Nat) (G : (Nat × Nat × Int × Int × Int × (List (Int × ((List Int) × Unit)))) → Option ((List (Int × ((List Int) × Unit))))) : Nat → P169a_172 → Option R169a_172
  | 0, _ => none
  | k + 1, x => B169a_172 N G (F169a_172 N G k) x
noncomputable def C169a_172 (N : Nat) (G : (Nat × Nat × Int × Int × Int × (List (Int × ((List Int) × Unit)))) → Option ((List (Int × ((List Int) × Unit))))) (k : Nat) : Cut := L169a_172.cut (F169a_172 N G k)
theorem C169a_172_ok (N : Nat) (G : (Nat × Nat × Int × Int × Int × (List (Int × ((List Int) × Unit)))) → Option ((List (Int × ((List Int) × Unit))))) (hG : FOK Tryz.prog 169 (tellS s169a w169a G)) (k : Nat) : CutAt Tryz.prog Tryz.f169 [0] 172 (C169a_172 N G k) :=
  L169a_172.loopT ownT mix (tab169a_ok N G hG) Tryz.f169 [0] (cuts := []) trivial (by decide +kernel) (by kernel_rfl) (B169a_172 N G) (F169a_172 N G) (fun _ => rfl) (fun _ _ => rfl) (fun f x => by kernel_rfl) k
@[reducible] def L169a_698 : LD := ⟨698, [13, 10, 0], [(.ret, []), (.exit 2, [])], ⟨[.int .i64, .int .i64, .slp 0 .h .h], [.row y3 137]⟩, [(.exit 2, ⟨[], [.row y3 137]⟩)]⟩
abbrev P169a_698 : Type := Int × Int × Nat × Nat × (List (Int × ((List Int) × Unit)))
abbrev R169a_698 : Type := (List (Int × ((List Int) × Unit)))
noncomputable def B169a_698 (N : Nat) (G : (Nat × Nat × Int × Int × Int × (List (Int × ((List Int) × Unit)))) → Option ((List (Int × ((List Int) × Unit))))) (f : P169a_698 → Option R169a_698) : P169a_698 → Option R169a_698
  | (x0, x1, x2, x3, x4) =>
  iteP (decide (x0 < IntKind.wrap .i64 (x1 - 1))) (
  iteP (within (IntKind.wrap .i64 (x0 + 1)) x3) (
  Option.bind (x4[x2 + Int.toNat (IntKind.wrap .i64 (x0 + 1))]?) fun y0 =>
  iteP (within x0 x3) (
  Option.bind (x4[x2 + Int.toNat x0]?) fun y1 =>
  iteP (within x0 x3) (
  Option.bind (x4[x2 + Int.toNat x0]?) fun y2 =>
  iteP (within (IntKind.wrap .i64 (x0 + 1)) x3) (
  Option.bind ((List.set x4 (x2 + Int.toNat x0) (y0.1, y0.2.1, ()))[x2 + Int.toNat (IntKind.wrap .i64 (x0 + 1))]?) fun y3 =>
  Option.bind (f (IntKind.wrap .i64 (x0 + 1), x1, x2, x3, List.set (List.set x4 (x2 + Int.toNat x0) (y0.1, y0.2.1, ())) (x2 + Int.toNat (IntKind.wrap .i64 (x0 + 1))) (y1.1, y1.2.1, ()))) fun r => some r) (
  none)) (
  none)) (
  none)) (
  none)) (
  some (x4))
noncomputable def F169a_698 (N : Nat) (G : (Nat × Nat × Int × Int × Int × (List (Int × ((List Int) × Unit)))) → Option ((List (Int × ((List Int) × Unit))))) : Nat → P169a_698 → Option R169a_698
  | 0, _ => none
  | k + 1, x => B169a_698 N G (F169a_698 N G k) x
noncomputable def C169a_698 (N : Nat) (G : (Nat × Nat × Int × Int × Int × (List (Int × ((List Int) × Unit)))) → Option ((List (Int × ((List Int) × Unit))))) (k : Nat) : Cut := L169a_698.cut (F169a_698 N G k)
theorem C169a_698_ok (N : Nat) (G : (Nat × Nat × Int × Int × Int × (List (Int × ((List Int) × Unit)))) → Option ((List (Int × ((List Int) × Unit))))) (hG : FOK Tryz.prog 169 (tellS s169a w169a G)) (k : Nat) : CutAt Tryz.prog Tryz.f169 [0] 698 (C169a_698 N G k) :=
  L169a_698.loopT ownT mix (tab169a_ok N G hG) Tryz.f169 [0] (cuts := [(172, C169a_172 N G N)]) ⟨C169a_172_ok N G hG N, trivial⟩ (by decide +kernel) (by kernel_rfl) (B169a_698 N G) (F169a_698 N G) (fun _ => rfl) (fun _ _ => rfl) (fun f x => by kernel_rfl) k
@[reducible] def L169a_428 : LD := ⟨428, [14, 15, 4, 2, 0], [(.ret, []), (.exit 4, [2, 14, 0])], ⟨[.int .i64, .int .i64, .fn 126, .int .i64, .slp 0 .h .h], [.row y3 137]⟩, [(.exit 4, ⟨[.int .i64, .int .i64, .slp 0 .h .h], [.row y3 137]⟩)]⟩
abbrev P169a_428 : Type := Int × Int × Int × Nat × Nat × (List (Int × ((List Int) × Unit)))
abbrev R169a_428 : Type := Int × Int × Nat × Nat × (List (Int × ((List Int) × Unit)))
noncomputable def B169a_428 (N : Nat) (G : (Nat × Nat × Int × Int × Int × (List (Int × ((List Int) × Unit)))) → Option ((List (Int × ((List Int) × Unit))))) (f : P169a_428 → Option R169a_428) : P169a_428 → Option R169a_428
  | (x0, x1, x2, x3, x4, x5) =>
  iteP (decide (x0 < x1)) (
  iteP (within x2 x4) (
  Option.bind (x5[x3 + Int.toNat x2]?) fun y0 =>
  iteP (within (IntKind.wrap .i64 (Int.fdiv (IntKind.wrap .u64 (IntKind.wrap .i64 (x0 + x1))) (2 : Int))) x4) (
  Option.bind (x5[x3 + Int.toNat (IntKind.wrap .i64 (Int.fdiv (IntKind.wrap .u64 (IntKind.wrap .i64 (x0 + x1))) (2 : Int)))]?) fun y1 =>
  Option.bind (F126 N (y0.1, y0.2.1, y1.1, y1.2.1)) fun y2 =>
  iteP (!decide (y2 < 0)) (
  Option.bind (f (IntKind.wrap .i64 (IntKind.wrap .i64 (Int.fdiv (IntKind.wrap .u64 (IntKind.wrap .i64 (x0 + x1))) (2 : Int)) + 1), x1, x2, x3, x4, x5)) fun r => some r) (
  Option.bind (f (x0, IntKind.wrap .i64 (Int.fdiv (IntKind.wrap .u64 (IntKind.wrap .i64 (x0 + x1))) (2 : Int)), x2, x3, x4, x5)) fun r => some r)) (
  none)) (
  none)) (
  some ((x2, x0, x3, x4, x5)))
noncomputable def F169a_428 (N : Nat) (G : (Nat × Nat × Int × Int × Int × (List (Int × ((List Int) × Unit)))) → Option ((List (Int × ((List Int) × Unit))))) : Nat → P169a_428 → Option R169a_428
  | 0, _ => none
  | k + 1, x => B169a_428 N G (F169a_428 N G k) x
noncomputable def C169a_428 (N : Nat) (G : (Nat × Nat × Int × Int × Int × (List (Int × ((List Int) × Unit)))) → Option ((List (Int × ((List Int) × Unit))))) (k : Nat) : Cut := L169a_428.cut (F169a_428 N G k)
theorem C169a_428_ok (N : Nat) (G : (Nat × Nat × Int × Int × Int × (List (Int × ((List Int) × Unit)))) → Option ((List (Int × ((List Int) × Unit))))) (hG : FOK Tryz.prog 169 (tellS s169a w169a G)) (k : Nat) : CutAt Tryz.prog Tryz.f169 [0] 428 (C169a_428 N G k) :=
  L169a_428.loopT ownT mix (tab169a_ok N G hG) Tryz.f169 [0] (cuts := [(172, C169a_172 N G N), (698, C169a_698 N G N)]) ⟨C169a_172_ok N G hG N, C169a_698_ok N G hG N, trivial⟩ (by decide +kernel) (by kernel_rfl) (B169a_428 N G) (F169a_428 N G) (fun _ => rfl) (fun _ _ => rfl) (fun f x => by kernel_rfl) k
@[reducible] def L169a_1722 : LD := ⟨1722, [17, 14, 0], [(.ret, []), (.exit 6, [])], ⟨[.int .i64, .int .i64, .slp 0 .h .h], [.row y3 137]⟩, [(.exit 6, ⟨[], [.row y3 137]⟩)]⟩
abbrev P169a_1722 : Type := Int × Int × Nat × Nat × (List (Int × ((List Int) × Unit)))
abbrev R169a_1722 : Type := (List (Int × ((List Int) × Unit)))
noncomputable def B169a_1722 (N : Nat) (G : (Nat × Nat × Int × Int × Int × (List (Int × ((List Int) × Unit)))) → Option ((List (Int × ((List Int) × Unit))))) (f : P169a_1722 → Option R169a_1722) : P169a_1722 → Option R169a_1722
  | (x0, x1, x2, x3, x4) =>
  iteP (decide (x0 > x1)) (
  iteP (within (IntKind.wrap .i64 (x0 - 1)) x3) (
  Option.bind (x4[x2 + Int.toNat (IntKind.wrap .i64 (x0 - 1))]?) fun y0 =>
  iteP (within x0 x3) (
  Option.bind (x4[x2 + Int.toNat x0]?) fun y1 =>
  iteP (within x0 x3) (
  Option.bind (x4[x2 + Int.toNat x0]?) fun y2 =>
  iteP (within (IntKind.wrap .i64 (x0 - 1)) x3) (
  Option.bind ((List.set x4 (x2 + Int.toNat x0) (y0.1, y0.2.1, ()))[x2 + Int.toNat (IntKind.wrap .i64 (x0 - 1))]?) fun y3 =>
  Option.bind (f (IntKind.wrap .i64 (x0 - 1), x1, x2, x3, List.set (List.set x4 (x2 + Int.toNat x0) (y0.1, y0.2.1, ())) (x2 + Int.toNat (IntKind.wrap .i64 (x0 - 1))) (y1.1, y1.2.1, ()))) fun r => some r) (
  none)) (
  none)) (
  none)) (
  none)) (
  some (x4))
noncomputable def F169a_1722 (N : Nat) (G : (Nat × Nat × Int × Int × Int × (List (Int × ((List Int) × Unit)))) → Option ((List (Int × ((List Int) × Unit))))) : Nat → P169a_1722 → Option R169a_1722
  | 0, _ => none
  | k + 1, x => B169a_1722 N G (F169a_1722 N G k) x
noncomputable def C169a_1722 (N : Nat) (G : (Nat × Nat × Int × Int × Int × (List (Int × ((List Int) × Unit)))) → Option ((List (Int × ((List Int) × Unit))))) (k : Nat) : Cut := L169a_1722.cut (F169a_1722 N G k)
theorem C169a_1722_ok (N : Nat) (G : (Nat × Nat × Int × Int × Int × (List (Int × ((List Int) × Unit)))) → Option ((List (Int × ((List Int) × Unit))))) (hG : FOK Tryz.prog 169 (tellS s169a w169a G)) (k : Nat) : CutAt Tryz.prog Tryz.f169 [0] 1722 (C169a_1722 N G k) :=
  L169a_1722.loopT ownT mix (tab169a_ok N G hG) Tryz.f169 [0] (cuts := [(172, C169a_172 N G N), (698, C169a_698 N G N), (428, C169a_428 N G N)]) ⟨C169a_172_ok N G hG N, C169a_698_ok N G hG N, C169a_428_ok N G hG N, trivial⟩ (by decide +kernel) (by kernel_rfl) (B169a_1722 N G) (F169a_1722 N G) (fun _ => rfl) (fun _ _ => rfl) (fun f x => by kernel_rfl) k
@[reducible] def L169a_1020 : LD := ⟨1020, [20, 3, 18, 1, 2, 19, 21, 4, 22, 0], [(.ret, []), (.exit 8, [19, 2, 1, 20, 0, 18, 3, 4])], ⟨[.int .i64, .int .i64, .int .i64, .int .i64, .int .i64, .int .i64, .int .i64, .fn 126, .int .i64, .slp 0 .h .h], [.row y3 137]⟩, [(.exit 8, ⟨[.int .i64, .int .i64, .int .i64, .int .i64, .slp 0 .h .h, .int .i64, .int .i64, .fn 126], [.row y3 137]⟩)]⟩
abbrev P169a_1020 : Type := Int × Int × Int × Int × Int × Int × Int × Int × Nat × Nat × (List (Int × ((List Int) × Unit)))
abbrev R169a_1020 : Type := Int × Int × Int × Int × Nat × Nat × Int × Int × (List (Int × ((List Int) × Unit)))
noncomputable def B169a_1020 (N : Nat) (G : (Nat × Nat × Int × Int × Int × (List (Int × ((List Int) × Unit)))) → Option ((List (Int × ((List Int) × Unit))))) (f : P169a_1020 → Option R169a_1020) : P169a_1020 → Option R169a_1020
  | (x0, x1, x2, x3, x4, x5, x6, x7, x8, x9, x10) =>
  iteP (decide (x0 < x6)) (
  iteP (within (IntKind.wrap .i64 (x7 - IntKind.wrap .i64 (Int.fdiv (IntKind.wrap .u64 (IntKind.wrap .i64 (x0 + x6))) (2 : Int)))) x9) (
  Option.bind (x10[x8 + Int.toNat (IntKind.wrap .i64 (x7 - IntKind.wrap .i64 (Int.fdiv (IntKind.wrap .u64 (IntKind.wrap .i64 (x0 + x6))) (2 : Int))))]?) fun y0 =>
  iteP (within (IntKind.wrap .i64 (Int.fdiv (IntKind.wrap .u64 (IntKind.wrap .i64 (x0 + x6))) (2 : Int))) x9) (
  Option.bind (x10[x8 + Int.toNat (IntKind.wrap .i64 (Int.fdiv (IntKind.wrap .u64 (IntKind.wrap .i64 (x0 + x6))) (2 : Int)))]?) fun y1 =>
  Option.bind (F126 N (y0.1, y0.2.1, y1.1, y1.2.1)) fun y2 =>
  iteP (!decide (y2 < 0)) (
  Option.bind (f (IntKind.wrap .i64 (IntKind.wrap .i64 (Int.fdiv (IntKind.wrap .u64 (IntKind.wrap .i64 (x0 + x6))) (2 : Int)) + 1), x1, x2, x3, x4, x5, x6, x7, x8, x9, x10)) fun r => some r) (
  Option.bind (f (x0, x1, x2, x3, x4, x5, IntKind.wrap .i64 (Int.fdiv (IntKind.wrap .u64 (IntKind.wrap .i64 (x0 + x6))) (2 : Int)), x7, x8, x9, x10)) fun r => some r)) (
  none)) (
  none)) (
  some ((x5, x4, x3, x0, x8, x9, x2, x1, x10)))
noncomputable def F169a_1020 (N : Nat) (G : (Nat × Nat × Int × Int × Int × (List (Int × ((List Int) × Unit)))) → Option ((List (Int × ((List Int) × Unit))))) : Nat → P169a_1020 → Option R169a_1020
  | 0, _ => none
  | k + 1, x => B169a_1020 N G (F169a_1020 N G k) x
noncomputable def C169a_1020 (N : Nat) (G : (Nat × Nat × Int × Int × Int × (List (Int × ((List Int) × Unit)))) → Option ((List (Int × ((List Int) × Unit))))) (k : Nat) : Cut := L169a_1020.cut (F169a_1020 N G k)
theorem C169a_1020_ok (N : Nat) (G : (Nat × Nat × Int × Int × Int × (List (Int × ((List Int) × Unit)))) → Option ((List (Int × ((List Int) × Unit))))) (hG : FOK Tryz.prog 169 (tellS s169a w169a G)) (k : Nat) : CutAt Tryz.prog Tryz.f169 [0] 1020 (C169a_1020 N G k) :=
  L169a_1020.loopT ownT mix (tab169a_ok N G hG) Tryz.f169 [0] (cuts := [(172, C169a_172 N G N), (698, C169a_698 N G N), (428, C169a_428 N G N), (1722, C169a_1722 N G N)]) ⟨C169a_172_ok N G hG N, C169a_698_ok N G hG N, C169a_428_ok N G hG N, C169a_1722_ok N G hG N, trivial⟩ (by decide +kernel) (by kernel_rfl) (B169a_1020 N G) (F169a_1020 N G) (fun _ => rfl) (fun _ _ => rfl) (fun f x => by kernel_rfl) k
noncomputable def F169ag (N : Nat) (G : (Nat × Nat × Int × Int × Int × (List (Int × ((List Int) × Unit)))) → Option ((List (Int × ((List Int) × Unit))))) : (Nat × Nat × Int × Int × Int × (List (Int × ((List Int) × Unit)))) → Option ((List (Int × ((List Int) × Unit))))
  | (x0, x1, x2, x3, x4, x5) =>
  iteP (IntKind.wrap .i64 (x3 - x2) == 1) (
  Option.bind (F169a_172 N G N (x3, x4, x0, x1, x2, x5)) fun y0 =>
  Option.bind (F169a_698 N G N (y0.1, y0.2.1, y0.2.2.1, y0.2.2.2.1, y0.2.2.2.2)) fun y1 =>
  some (y1)) (
  iteP (IntKind.wrap .i64 (x4 - x3) == 1) (
  Option.bind (F169a_428 N G N (x2, x3, x3, x0, x1, x5)) fun y2 =>
  Option.bind (F169a_1722 N G N (y2.1, y2.2.1, y2.2.2.1, y2.2.2.2.1, y2.2.2.2.2)) fun y3 =>
  some (y3)) (
  iteP (decide (x3 > IntKind.wrap .i64 (Int.fdiv (IntKind.wrap .u64 (IntKind.wrap .i64 (x2 + x4))) (2 : Int)))) (
  Option.bind (F169a_1020 N G N (IntKind.wrap .i64 (IntKind.wrap .i64 (IntKind.wrap .i64 (Int.fdiv (IntKind.wrap .u64 (IntKind.wrap .i64 (x2 + x4))) (2 : Int)) + x3) - x4), x4, IntKind.wrap .i64 (Int.fdiv (IntKind.wrap .u64 (IntKind.wrap .i64 (x2 + x4))) (2 : Int)), x2, x3, IntKind.wrap .i64 (IntKind.wrap .i64 (Int.fdiv (IntKind.wrap .u64 (IntKind.wrap .i64 (x2 + x4))) (2 : Int)) + x3), IntKind.wrap .i64 (Int.fdiv (IntKind.wrap .u64 (IntKind.wrap .i64 (x2 + x4))) (2 : Int)), IntKind.wrap .i64 (IntKind.wrap .i64 (IntKind.wrap .i64 (Int.fdiv (IntKind.wrap .u64 (IntKind.wrap .i64 (x2 + x4))) (2 : Int)) + x3) - 1), x0, x1, x5)) fun y4 =>
  iteP (decide (y4.2.2.2.1 < y4.2.1)) (
  iteP (decide (y4.2.1 < IntKind.wrap .i64 (y4.1 - y4.2.2.2.1))) (
  Option.bind (F173a N (y4.2.2.2.2.1, y4.2.2.2.2.2.1, y4.2.2.2.1, y4.2.1, IntKind.wrap .i64 (y4.1 - y4.2.2.2.1), y4.2.2.2.2.2.2.2.2)) fun y5 =>
  iteP (decide (y4.2.2.1 < y4.2.2.2.1)) (
  iteP (decide (y4.2.2.2.1 < y4.2.2.2.2.2.2.1)) (
  Option.bind (G (y4.2.2.2.2.1, y4.2.2.2.2.2.1, y4.2.2.1, y4.2.2.2.1, y4.2.2.2.2.2.2.1, y5)) fun y6 =>
  iteP (decide (y4.2.2.2.2.2.2.1 < IntKind.wrap .i64 (y4.1 - y4.2.2.2.1))) (
  iteP (decide (IntKind.wrap .i64 (y4.1 - y4.2.2.2.1) < y4.2.2.2.2.2.2.2.1)) (
  Option.bind (G (y4.2.2.2.2.1, y4.2.2.2.2.2.1, y4.2.2.2.2.2.2.1, IntKind.wrap .i64 (y4.1 - y4.2.2.2.1), y4.2.2.2.2.2.2.2.1, y6)) fun y7 =>
  some (y7)) (
  some (y6))) (
  some (y6))) (
  iteP (decide (y4.2.2.2.2.2.2.1 < IntKind.wrap .i64 (y4.1 - y4.2.2.2.1))) (
  iteP (decide (IntKind.wrap .i64 (y4.1 - y4.2.2.2.1) < y4.2.2.2.2.2.2.2.1)) (
  Option.bind (G (y4.2.2.2.2.1, y4.2.2.2.2.2.1, y4.2.2.2.2.2.2.1, IntKind.wrap .i64 (y4.1 - y4.2.2.2.1), y4.2.2.2.2.2.2.2.1, y5)) fun y8 =>
  some (y8)) (
  some (y5))) (
  some (y5)))) (
  iteP (decide (y4.2.2.2.2.2.2.1 < IntKind.wrap .i64 (y4.1 - y4.2.2.2.1))) (
  iteP (decide (IntKind.wrap .i64 (y4.1 - y4.2.2.2.1) < y4.2.2.2.2.2.2.2.1)) (
  Option.bind (G (y4.2.2.2.2.1, y4.2.2.2.2.2.1, y4.2.2.2.2.2.2.1, IntKind.wrap .i64 (y4.1 - y4.2.2.2.1), y4.2.2.2.2.2.2.2.1, y5)) fun y9 =>
  some (y9)) (
  some (y5))) (
  some (y5)))) (
  iteP (decide (y4.2.2.1 < y4.2.2.2.1)) (
  iteP (decide (y4.2.2.2.1 < y4.2.2.2.2.2.2.1)) (
  Option.bind (G (y4.2.2.2.2.1, y4.2.2.2.2.2.1, y4.2.2.1, y4.2.2.2.1, y4.2.2.2.2.2.2.1, y4.2.2.2.2.2.2.2.2)) fun y10 =>
  iteP (decide (y4.2.2.2.2.2.2.1 < IntKind.wrap .i64 (y4.1 - y4.2.2.2.1))) (
  iteP (decide (IntKind.wrap .i64 (y4.1 - y4.2.2.2.1) < y4.2.2.2.2.2.2.2.1)) (
  Option.bind (G (y4.2.2.2.2.1, y4.2.2.2.2.2.1, y4.2.2.2.2.2.2.1, IntKind.wrap .i64 (y4.1 - y4.2.2.2.1), y4.2.2.2.2.2.2.2.1, y10)) fun y11 =>
  some (y11)) (
  some (y10))) (
  some (y10))) (
  iteP (decide (y4.2.2.2.2.2.2.1 < IntKind.wrap .i64 (y4.1 - y4.2.2.2.1))) (
  iteP (decide (IntKind.wrap .i64 (y4.1 - y4.2.2.2.1) < y4.2.2.2.2.2.2.2.1)) (
  Option.bind (G (y4.2.2.2.2.1, y4.2.2.2.2.2.1, y4.2.2.2.2.2.2.1, IntKind.wrap .i64 (y4.1 - y4.2.2.2.1), y4.2.2.2.2.2.2.2.1, y4.2.2.2.2.2.2.2.2)) fun y12 =>
  some (y12)) (
  some y4.2.2.2.2.2.2.2.2)) (
  some y4.2.2.2.2.2.2.2.2))) (
  iteP (decide (y4.2.2.2.2.2.2.1 < IntKind.wrap .i64 (y4.1 - y4.2.2.2.1))) (
  iteP (decide (IntKind.wrap .i64 (y4.1 - y4.2.2.2.1) < y4.2.2.2.2.2.2.2.1)) (
  Option.bind (G (y4.2.2.2.2.1, y4.2.2.2.2.2.1, y4.2.2.2.2.2.2.1, IntKind.wrap .i64 (y4.1 - y4.2.2.2.1), y4.2.2.2.2.2.2.2.1, y4.2.2.2.2.2.2.2.2)) fun y13 =>
  some (y13)) (
  some y4.2.2.2.2.2.2.2.2)) (
  some y4.2.2.2.2.2.2.2.2)))) (
  iteP (decide (y4.2.2.1 < y4.2.2.2.1)) (
  iteP (decide (y4.2.2.2.1 < y4.2.2.2.2.2.2.1)) (
  Option.bind (G (y4.2.2.2.2.1, y4.2.2.2.2.2.1, y4.2.2.1, y4.2.2.2.1, y4.2.2.2.2.2.2.1, y4.2.2.2.2.2.2.2.2)) fun y14 =>
  iteP (decide (y4.2.2.2.2.2.2.1 < IntKind.wrap .i64 (y4.1 - y4.2.2.2.1))) (
  iteP (decide (IntKind.wrap .i64 (y4.1 - y4.2.2.2.1) < y4.2.2.2.2.2.2.2.1)) (
  Option.bind (G (y4.2.2.2.2.1, y4.2.2.2.2.2.1, y4.2.2.2.2.2.2.1, IntKind.wrap .i64 (y4.1 - y4.2.2.2.1), y4.2.2.2.2.2.2.2.1, y14)) fun y15 =>
  some (y15)) (
  some (y14))) (
  some (y14))) (
  iteP (decide (y4.2.2.2.2.2.2.1 < IntKind.wrap .i64 (y4.1 - y4.2.2.2.1))) (
  iteP (decide (IntKind.wrap .i64 (y4.1 - y4.2.2.2.1) < y4.2.2.2.2.2.2.2.1)) (
  Option.bind (G (y4.2.2.2.2.1, y4.2.2.2.2.2.1, y4.2.2.2.2.2.2.1, IntKind.wrap .i64 (y4.1 - y4.2.2.2.1), y4.2.2.2.2.2.2.2.1, y4.2.2.2.2.2.2.2.2)) fun y16 =>
  some (y16)) (
  some y4.2.2.2.2.2.2.2.2)) (
  some y4.2.2.2.2.2.2.2.2))) (
  iteP (decide (y4.2.2.2.2.2.2.1 < IntKind.wrap .i64 (y4.1 - y4.2.2.2.1))) (
  iteP (decide (IntKind.wrap .i64 (y4.1 - y4.2.2.2.1) < y4.2.2.2.2.2.2.2.1)) (
  Option.bind (G (y4.2.2.2.2.1, y4.2.2.2.2.2.1, y4.2.2.2.2.2.2.1, IntKind.wrap .i64 (y4.1 - y4.2.2.2.1), y4.2.2.2.2.2.2.2.1, y4.2.2.2.2.2.2.2.2)) fun y17 =>
  some (y17)) (
  some y4.2.2.2.2.2.2.2.2)) (
  some y4.2.2.2.2.2.2.2.2)))) (
  Option.bind (F169a_1020 N G N (x2, x4, IntKind.wrap .i64 (Int.fdiv (IntKind.wrap .u64 (IntKind.wrap .i64 (x2 + x4))) (2 : Int)), x2, x3, IntKind.wrap .i64 (IntKind.wrap .i64 (Int.fdiv (IntKind.wrap .u64 (IntKind.wrap .i64 (x2 + x4))) (2 : Int)) + x3), x3, IntKind.wrap .i64 (IntKind.wrap .i64 (IntKind.wrap .i64 (Int.fdiv (IntKind.wrap .u64 (IntKind.wrap .i64 (x2 + x4))) (2 : Int)) + x3) - 1), x0, x1, x5)) fun y18 =>
  iteP (decide (y18.2.2.2.1 < y18.2.1)) (
  iteP (decide (y18.2.1 < IntKind.wrap .i64 (y18.1 - y18.2.2.2.1))) (
  Option.bind (F173a N (y18.2.2.2.2.1, y18.2.2.2.2.2.1, y18.2.2.2.1, y18.2.1, IntKind.wrap .i64 (y18.1 - y18.2.2.2.1), y18.2.2.2.2.2.2.2.2)) fun y19 =>
  iteP (decide (y18.2.2.1 < y18.2.2.2.1)) (
  iteP (decide (y18.2.2.2.1 < y18.2.2.2.2.2.2.1)) (
  Option.bind (G (y18.2.2.2.2.1, y18.2.2.2.2.2.1, y18.2.2.1, y18.2.2.2.1, y18.2.2.2.2.2.2.1, y19)) fun y20 =>
  iteP (decide (y18.2.2.2.2.2.2.1 < IntKind.wrap .i64 (y18.1 - y18.2.2.2.1))) (
  iteP (decide (IntKind.wrap .i64 (y18.1 - y18.2.2.2.1) < y18.2.2.2.2.2.2.2.1)) (
  Option.bind (G (y18.2.2.2.2.1, y18.2.2.2.2.2.1, y18.2.2.2.2.2.2.1, IntKind.wrap .i64 (y18.1 - y18.2.2.2.1), y18.2.2.2.2.2.2.2.1, y20)) fun y21 =>
  some (y21)) (
  some (y20))) (
  some (y20))) (
  iteP (decide (y18.2.2.2.2.2.2.1 < IntKind.wrap .i64 (y18.1 - y18.2.2.2.1))) (
  iteP (decide (IntKind.wrap .i64 (y18.1 - y18.2.2.2.1) < y18.2.2.2.2.2.2.2.1)) (
  Option.bind (G (y18.2.2.2.2.1, y18.2.2.2.2.2.1, y18.2.2.2.2.2.2.1, IntKind.wrap .i64 (y18.1 - y18.2.2.2.1), y18.2.2.2.2.2.2.2.1, y19)) fun y22 =>
  some (y22)) (
  some (y19))) (
  some (y19)))) (
  iteP (decide (y18.2.2.2.2.2.2.1 < IntKind.wrap .i64 (y18.1 - y18.2.2.2.1))) (
  iteP (decide (IntKind.wrap .i64 (y18.1 - y18.2.2.2.1) < y18.2.2.2.2.2.2.2.1)) (
  Option.bind (G (y18.2.2.2.2.1, y18.2.2.2.2.2.1, y18.2.2.2.2.2.2.1, IntKind.wrap .i64 (y18.1 - y18.2.2.2.1), y18.2.2.2.2.2.2.2.1, y19)) fun y23 =>
  some (y23)) (
  some (y19))) (
  some (y19)))) (
  iteP (decide (y18.2.2.1 < y18.2.2.2.1)) (
  iteP (decide (y18.2.2.2.1 < y18.2.2.2.2.2.2.1)) (
  Option.bind (G (y18.2.2.2.2.1, y18.2.2.2.2.2.1, y18.2.2.1, y18.2.2.2.1, y18.2.2.2.2.2.2.1, y18.2.2.2.2.2.2.2.2)) fun y24 =>
  iteP (decide (y18.2.2.2.2.2.2.1 < IntKind.wrap .i64 (y18.1 - y18.2.2.2.1))) (
  iteP (decide (IntKind.wrap .i64 (y18.1 - y18.2.2.2.1) < y18.2.2.2.2.2.2.2.1)) (
  Option.bind (G (y18.2.2.2.2.1, y18.2.2.2.2.2.1, y18.2.2.2.2.2.2.1, IntKind.wrap .i64 (y18.1 - y18.2.2.2.1), y18.2.2.2.2.2.2.2.1, y24)) fun y25 =>
  some (y25)) (
  some (y24))) (
  some (y24))) (
  iteP (decide (y18.2.2.2.2.2.2.1 < IntKind.wrap .i64 (y18.1 - y18.2.2.2.1))) (
  iteP (decide (IntKind.wrap .i64 (y18.1 - y18.2.2.2.1) < y18.2.2.2.2.2.2.2.1)) (
  Option.bind (G (y18.2.2.2.2.1, y18.2.2.2.2.2.1, y18.2.2.2.2.2.2.1, IntKind.wrap .i64 (y18.1 - y18.2.2.2.1), y18.2.2.2.2.2.2.2.1, y18.2.2.2.2.2.2.2.2)) fun y26 =>
  some (y26)) (
  some y18.2.2.2.2.2.2.2.2)) (
  some y18.2.2.2.2.2.2.2.2))) (
  iteP (decide (y18.2.2.2.2.2.2.1 < IntKind.wrap .i64 (y18.1 - y18.2.2.2.1))) (
  iteP (decide (IntKind.wrap .i64 (y18.1 - y18.2.2.2.1) < y18.2.2.2.2.2.2.2.1)) (
  Option.bind (G (y18.2.2.2.2.1, y18.2.2.2.2.2.1, y18.2.2.2.2.2.2.1, IntKind.wrap .i64 (y18.1 - y18.2.2.2.1), y18.2.2.2.2.2.2.2.1, y18.2.2.2.2.2.2.2.2)) fun y27 =>
  some (y27)) (
  some y18.2.2.2.2.2.2.2.2)) (
  some y18.2.2.2.2.2.2.2.2)))) (
  iteP (decide (y18.2.2.1 < y18.2.2.2.1)) (
  iteP (decide (y18.2.2.2.1 < y18.2.2.2.2.2.2.1)) (
  Option.bind (G (y18.2.2.2.2.1, y18.2.2.2.2.2.1, y18.2.2.1, y18.2.2.2.1, y18.2.2.2.2.2.2.1, y18.2.2.2.2.2.2.2.2)) fun y28 =>
  iteP (decide (y18.2.2.2.2.2.2.1 < IntKind.wrap .i64 (y18.1 - y18.2.2.2.1))) (
  iteP (decide (IntKind.wrap .i64 (y18.1 - y18.2.2.2.1) < y18.2.2.2.2.2.2.2.1)) (
  Option.bind (G (y18.2.2.2.2.1, y18.2.2.2.2.2.1, y18.2.2.2.2.2.2.1, IntKind.wrap .i64 (y18.1 - y18.2.2.2.1), y18.2.2.2.2.2.2.2.1, y28)) fun y29 =>
  some (y29)) (
  some (y28))) (
  some (y28))) (
  iteP (decide (y18.2.2.2.2.2.2.1 < IntKind.wrap .i64 (y18.1 - y18.2.2.2.1))) (
  iteP (decide (IntKind.wrap .i64 (y18.1 - y18.2.2.2.1) < y18.2.2.2.2.2.2.2.1)) (
  Option.bind (G (y18.2.2.2.2.1, y18.2.2.2.2.2.1, y18.2.2.2.2.2.2.1, IntKind.wrap .i64 (y18.1 - y18.2.2.2.1), y18.2.2.2.2.2.2.2.1, y18.2.2.2.2.2.2.2.2)) fun y30 =>
  some (y30)) (
  some y18.2.2.2.2.2.2.2.2)) (
  some y18.2.2.2.2.2.2.2.2))) (
  iteP (decide (y18.2.2.2.2.2.2.1 < IntKind.wrap .i64 (y18.1 - y18.2.2.2.1))) (
  iteP (decide (IntKind.wrap .i64 (y18.1 - y18.2.2.2.1) < y18.2.2.2.2.2.2.2.1)) (
  Option.bind (G (y18.2.2.2.2.1, y18.2.2.2.2.2.1, y18.2.2.2.2.2.2.1, IntKind.wrap .i64 (y18.1 - y18.2.2.2.1), y18.2.2.2.2.2.2.2.1, y18.2.2.2.2.2.2.2.2)) fun y31 =>
  some (y31)) (
  some y18.2.2.2.2.2.2.2.2)) (
  some y18.2.2.2.2.2.2.2.2))))))
noncomputable def F169ak (N : Nat) : Nat → (Nat × Nat × Int × Int × Int × (List (Int × ((List Int) × Unit)))) → Option ((List (Int × ((List Int) × Unit))))
  | 0, _ => none
  | k + 1, x => F169ag N (F169ak N k) x
noncomputable def F169a (N : Nat) : (Nat × Nat × Int × Int × Int × (List (Int × ((List Int) × Unit)))) → Option ((List (Int × ((List Int) × Unit)))) := F169ak N N
noncomputable def V169a (N : Nat) : Pk → Tr Pk := tellS s169a w169a (F169a N)
theorem V169a_rec (N : Nat) : ∀ k, FOK Tryz.prog 169 (tellS s169a w169a (F169ak N k))
  | 0 => tell_none fun _ => rfl
  | k + 1 => fn_ok2 ownT mix (tab169a_ok N (F169ak N k) (V169a_rec N k)) Tryz.func169 s169a w169a [0] (cuts := [(172, C169a_172 N (F169ak N k) N), (698, C169a_698 N (F169ak N k) N), (428, C169a_428 N (F169ak N k) N), (1722, C169a_1722 N (F169ak N k) N), (1020, C169a_1020 N (F169ak N k) N)]) ⟨C169a_172_ok N (F169ak N k) (V169a_rec N k) N, C169a_698_ok N (F169ak N k) (V169a_rec N k) N, C169a_428_ok N (F169ak N k) (V169a_rec N k) N, C169a_1722_ok N (F169ak N k) (V169a_rec N k) N, C169a_1020_ok N (F169ak N k) (V169a_rec N k) N, trivial⟩ (fun _ => by kernel_rfl) (by kernel_rfl) (F169ak N (k + 1)) (fun x => by kernel_rfl)
theorem V169a_ok (N : Nat) : FOK Tryz.prog 169 (V169a N) :=
  (V169a_rec N N)
noncomputable def T169 (N : Nat) : Pk → Tr Pk := (V169a N)
theorem T169_ok (N : Nat) : FOK Tryz.prog 169 (T169 N) := (V169a_ok N)
@[reducible] def s154a : SP := ⟨[.slp 0 .h .h, .int .i64, .fn 126], [.row y3 137]⟩
noncomputable def tab154a (N : Nat) : Tabs := [(168, T168 N), (169, T169 N), (126, T126 N)]
theorem tab154a_ok (N : Nat) : TabOK Tryz.prog (tab154a N) := ⟨T168_ok N, T169_ok N, T126_ok N, trivial⟩
@[reducible] def L154a_28 : LD := ⟨28, [7, 8, 1, 0, 2, 6], [(.ret, []), (.exit 0, [7, 1, 0, 2, 6])], ⟨[.int .i64, .int .i64, .int .i64, .slp 0 .h .h, .fn 126, .int .i64], [.row y3 137]⟩, [(.exit 0, ⟨[.int .i64, .int .i64, .slp 0 .h .h, .fn 126, .int .i64], [.row y3 137]⟩)]⟩
abbrev P154a_28 : Type := Int × Int × Int × Nat × Nat × Int × (List (Int × ((List Int) × Unit)))
abbrev R154a_28 : Type := Int × Int × Nat × Nat × Int × (List (Int × ((List Int) × Unit)))
noncomputable def B154a_28 (N : Nat) (f : P154a_28 → Option R154a_28) : P154a_28 → Option R154a_28
  | (x0, x1, x2, x3, x4, x5, x6) =>
  iteP (decide (x1 ≤ x2)) (
  Option.bind (F168a N (x3, x4, x0, x1, x6)) fun y0 =>
  Option.bind (f (x1, IntKind.wrap .i64 (x1 + x5), x2, x3, x4, x5, y0)) fun r => some r) (
  some ((x0, x2, x3, x4, x5, x6)))
noncomputable def F154a_28 (N : Nat) : Nat → P154a_28 → Option R154a_28
  | 0, _ => none
  | k + 1, x => B154a_28 N (F154a_28 N k) x
theorem C154a_28_ok (N : Nat) (k : Nat) : CutAt Tryz.prog Tryz.f154 [0] 28 (L154a_28.cut (F154a_28 N k)) :=
  L154a_28.loopT ownT mix (tab154a_ok N) Tryz.f154 [0] (cuts := []) trivial (by decide +kernel) (by kernel_rfl) (B154a_28 N) (F154a_28 N) (fun _ => rfl) (fun _ _ => rfl) (fun f x => by kernel_rfl) k
@[reducible] def L154a_3988 : LD := ⟨3988, [7, 8, 1, 0, 2, 6], [(.ret, []), (.exit 4, [7, 6, 1, 0, 2]), (.exit 3, [1, 0, 2, 6]), (.exit 2, [])], ⟨[.int .i64, .int .i64, .int .i64, .slp 0 .h .h, .fn 126, .int .i64], [.row y3 137]⟩, [(.exit 4, ⟨[.int .i64, .int .i64, .int .i64, .slp 0 .h .h, .fn 126], [.row y3 137]⟩)]⟩
abbrev P154a_3988 : Type := Int × Int × Int × Nat × Nat × Int × (List (Int × ((List Int) × Unit)))
abbrev R154a_3988 : Type := Int × Int × Int × Nat × Nat × (List (Int × ((List Int) × Unit)))
noncomputable def B154a_3988 (N : Nat) (f : P154a_3988 → Option R154a_3988) : P154a_3988 → Option R154a_3988
  | (x0, x1, x2, x3, x4, x5, x6) =>
  iteP (decide (x1 ≤ x2)) (
  Option.bind (F169a N (x3, x4, x0, IntKind.wrap .i64 (x0 + x5), x1, x6)) fun y0 =>
  Option.bind (f (x1, IntKind.wrap .i64 (x1 + IntKind.wrap .i64 ((2 : Int) * x5)), x2, x3, x4, x5, y0)) fun r => some r) (
  some ((x0, x5, x2, x3, x4, x6)))
noncomputable def F154a_3988 (N : Nat) : Nat → P154a_3988 → Option R154a_3988
  | 0, _ => none
  | k + 1, x => B154a_3988 N (F154a_3988 N k) x
theorem C154a_3988_ok (N : Nat) (k : Nat) : CutAt Tryz.prog Tryz.f154 [0] 3988 (L154a_3988.cut (F154a_3988 N k)) :=
  L154a_3988.loopT ownT mix (tab154a_ok N) Tryz.f154 [0] (cuts := [(28, L154a_28.cut (F154a_28 N N))]) ⟨C154a_28_ok N N, trivial⟩ (by decide +kernel) (by kernel_rfl) (B154a_3988 N) (F154a_3988 N) (fun _ => rfl) (fun _ _ => rfl) (fun f x => by kernel_rfl) k
@[reducible] def L154a_62 : LD := ⟨62, [1, 0, 2, 6], [(.ret, []), (.exit 2, [])], ⟨[.int .i64, .slp 0 .h .h, .fn 126, .int .i64], [.row y3 137]⟩, [(.exit 2, ⟨[], [.row y3 137]⟩)]⟩
abbrev P154a_62 : Type := Int × Nat × Nat × Int × (List (Int × ((List Int) × Unit)))
abbrev R154a_62 : Type := (List (Int × ((List Int) × Unit)))
noncomputable def B154a_62 (N : Nat) (f : P154a_62 → Option R154a_62) : P154a_62 → Option R154a_62
  | (x0, x1, x2, x3, x4) =>
  iteP (decide (x3 < x0)) (
  Option.bind (F154a_3988 N N ((0 : Int), IntKind.wrap .i64 ((2 : Int) * x3), x0, x1, x2, x3, x4)) fun y0 =>
  iteP (decide (IntKind.wrap .i64 (y0.1 + y0.2.1) < y0.2.2.1)) (
  Option.bind (F169a N (y0.2.2.2.1, y0.2.2.2.2.1, y0.1, IntKind.wrap .i64 (y0.1 + y0.2.1), y0.2.2.1, y0.2.2.2.2.2)) fun y1 =>
  Option.bind (f (y0.2.2.1, y0.2.2.2.1, y0.2.2.2.2.1, IntKind.wrap .i64 (y0.2.1 * 2), y1)) fun r => some r) (
  Option.bind (f (y0.2.2.1, y0.2.2.2.1, y0.2.2.2.2.1, IntKind.wrap .i64 (y0.2.1 * 2), y0.2.2.2.2.2)) fun r => some r)) (
  some (x4))
noncomputable def F154a_62 (N : Nat) : Nat → P154a_62 → Option R154a_62
  | 0, _ => none
  | k + 1, x => B154a_62 N (F154a_62 N k) x
theorem C154a_62_ok (N : Nat) (k : Nat) : CutAt Tryz.prog Tryz.f154 [0] 62 (L154a_62.cut (F154a_62 N k)) :=
  L154a_62.loopT ownT mix (tab154a_ok N) Tryz.f154 [0] (cuts := [(28, L154a_28.cut (F154a_28 N N)), (3988, L154a_3988.cut (F154a_3988 N N))]) ⟨C154a_28_ok N N, C154a_3988_ok N N, trivial⟩ (by decide +kernel) (by kernel_rfl) (B154a_62 N) (F154a_62 N) (fun _ => rfl) (fun _ _ => rfl) (fun f x => by kernel_rfl) k
@[reducible] def w154a : List SP := [⟨[.tup []], [.row y3 137]⟩]
noncomputable def F154a (N : Nat) : (Nat × Nat × Int × (List (Int × ((List Int) × Unit)))) → Option ((List (Int × ((List Int) × Unit))))
  | (x0, x1, x2, x3) =>
  Option.bind (F154a_28 N N ((0 : Int), (20 : Int), x2, x0, x1, (20 : Int), x3)) fun y0 =>
  Option.bind (F168a N (y0.2.2.1, y0.2.2.2.1, y0.1, y0.2.1, y0.2.2.2.2.2)) fun y1 =>
  Option.bind (F154a_62 N N (y0.2.1, y0.2.2.1, y0.2.2.2.1, y0.2.2.2.2.1, y1)) fun y2 =>
  some (y2)
noncomputable def V154a (N : Nat) : Pk → Tr Pk := tellS s154a w154a (F154a N)
theorem V154a_ok (N : Nat) : FOK Tryz.prog 154 (V154a N) :=
  (fn_ok2 ownT mix (tab154a_ok N) Tryz.func154 s154a w154a [0] (cuts := [(28, L154a_28.cut (F154a_28 N N)), (3988, L154a_3988.cut (F154a_3988 N N)), (62, L154a_62.cut (F154a_62 N N))]) ⟨C154a_28_ok N N, C154a_3988_ok N N, C154a_62_ok N N, trivial⟩ (fun _ => by kernel_rfl) (by kernel_rfl) (F154a N) (fun x => by kernel_rfl))
noncomputable def T154 (N : Nat) : Pk → Tr Pk := (V154a N)
theorem T154_ok (N : Nat) : FOK Tryz.prog 154 (T154 N) := (V154a_ok N)
@[reducible] def s125a : SP := ⟨[.slp 0 .h .h, .fn 126], [.row y3 137]⟩
noncomputable def tab125a (N : Nat) : Tabs := [(154, T154 N), (126, T126 N)]
theorem tab125a_ok (N : Nat) : TabOK Tryz.prog (tab125a N) := ⟨T154_ok N, T126_ok N, trivial⟩
@[reducible] def w125a : List SP := [⟨[.tup []], [.row y3 137]⟩]
noncomputable def F125a (N : Nat) : (Nat × Nat × (List (Int × ((List Int) × Unit)))) → Option ((List (Int × ((List Int) × Unit))))
  | (x0, x1, x2) =>
  Option.bind (F154a N (x0, x1, (↑x1 : Int), x2)) fun y0 =>
  some (y0)
noncomputable def V125a (N : Nat) : Pk → Tr Pk := tellS s125a w125a (F125a N)
theorem V125a_ok (N : Nat) : FOK Tryz.prog 125 (V125a N) :=
  (fn_ok2 ownT mix (tab125a_ok N) Tryz.func125 s125a w125a [0] (cuts := []) trivial (fun _ => by kernel_rfl) (by kernel_rfl) (F125a N) (fun x => by kernel_rfl))
noncomputable def T125 (N : Nat) : Pk → Tr Pk := (V125a N)
theorem T125_ok (N : Nat) : FOK Tryz.prog 125 (T125 N) := (V125a_ok N)
@[reducible] def s94 : SP := ⟨[.ro y3, .ro y3], []⟩
noncomputable def tab94 (N : Nat) : Tabs := [(124, T124 N), (125, T125 N)]
theorem tab94_ok (N : Nat) : TabOK Tryz.prog (tab94 N) := ⟨T124_ok N, T125_ok N, trivial⟩
@[reducible] def w94 : List SP := [⟨[.sl 0], [.row y3 137]⟩]
noncomputable def F94 (N : Nat) : ((List (Int × ((List Int) × Unit))) × (List (Int × ((List Int) × Unit)))) → Option ((List (Int × ((List Int) × Unit))))
  | (x0, x1) =>
  Option.bind (F124 N [x0, x1]) fun y0 =>
  Option.bind (F125a N ((0 : Nat), List.length y0, y0)) fun y1 =>
  some (y1)
noncomputable def T94 (N : Nat) : Pk → Tr Pk := postT frzP (tellS s94 w94 (F94 N))
theorem T94_ok (N : Nat) : FOK Tryz.prog 94 (T94 N) :=
  postT_ok frzP_ok (fn_ok2 ownT mix (tab94_ok N) Tryz.func94 s94 w94 [] (cuts := []) trivial (fun _ => by kernel_rfl) (by kernel_rfl) (F94 N) (fun x => by kernel_rfl))
@[reducible] def s93 : SP := ⟨[.ro (.int .i64)], []⟩
noncomputable def tab93 (N : Nat) : Tabs := [(94, T94 N)]
theorem tab93_ok (N : Nat) : TabOK Tryz.prog (tab93 N) := ⟨T94_ok N, trivial⟩
@[reducible] def L93_58 : LD := ⟨58, [8, 7, 9, 4], [(.ret, [2, 3]), (.exit 0, [4])], ⟨[.int .i64, .ro (.int .i64), .int .i64, .sl 0], [.row y3 137]⟩, [(.ret, ⟨[.sl 0, .int .i64], [.row y3 137]⟩), (.exit 0, ⟨[.sl 0], [.row y3 137]⟩)]⟩
abbrev P93_58 : Type := Int × (List Int) × Int × (List (Int × ((List Int) × Unit)))
abbrev R93_58 : Type := ((Int × (List (Int × ((List Int) × Unit)))) ⊕ ((List (Int × ((List Int) × Unit)))))
noncomputable def B93_58 (N : Nat) (f : P93_58 → Option R93_58) : P93_58 → Option R93_58
  | (x0, x1, x2, x3) =>
  iteP (decide (x2 < x0)) (
  iteP (within x2 (List.length x1)) (
  Option.bind (x1[Int.toNat x2]?) fun y0 =>
  iteP (decide (y0 < 0)) (
  some (.inl (((1 : Int), [])))) (
  iteP (decide (y0 > 1073741824)) (
  some (.inl (((1 : Int), [])))) (
  iteP (decide (y0 > 0)) (
  iteP (decide ((List.length x3 + List.length [(y0, [x2], ())]) * 32 ≤ (140737488355328 : Nat) ∧ List.length x3 + List.length [(y0, [x2], ())] ≤ 140737488355328)) (
  Option.bind (f (x0, x1, IntKind.wrap .i64 (x2 + 1), x3 ++ [(y0, [x2], ())])) fun r => match r with | .inl y => some (.inl y) | .inr y => some (.inr y)) (
  none)) (
  Option.bind (f (x0, x1, IntKind.wrap .i64 (x2 + 1), x3)) fun r => match r with | .inl y => some (.inl y) | .inr y => some (.inr y))))) (
  none)) (
  some (.inr (x3)))
noncomputable def F93_58 (N : Nat) : Nat → P93_58 → Option R93_58
  | 0, _ => none
  | k + 1, x => B93_58 N (F93_58 N k) x
theorem C93_58_ok (N : Nat) (k : Nat) : CutAt Tryz.prog Tryz.f93 [] 58 (L93_58.cut (F93_58 N k)) :=
  L93_58.loopT ownT mix (tab93_ok N) Tryz.f93 [] (cuts := []) trivial (by decide +kernel) (by kernel_rfl) (B93_58 N) (F93_58 N) (fun _ => rfl) (fun _ _ => rfl) (fun f x => by kernel_rfl) k
@[reducible] def w93 : List SP := [⟨[.tup [.sl 0, .int .i64]], [.row y3 137]⟩, ⟨[.tup [.ro y3, .int .i64]], []⟩]
noncomputable def F93 (N : Nat) : ((List Int)) → Option (((Int × (List (Int × ((List Int) × Unit)))) ⊕ ((List (Int × ((List Int) × Unit))) × Int)))
  | x0 =>
  Option.bind (F93_58 N N ((↑(List.length x0) : Int), x0, (0 : Int), [])) fun y0 =>
  match y0 with
  | .inl y1 =>
  some (.inl ((y1.1, y1.2)))
  | .inr y1 =>
  Option.bind (F94 N (y1, [])) fun y2 =>
  some (.inr ((y2, (0 : Int))))
noncomputable def T93 (N : Nat) : Pk → Tr Pk := postT frzP (tellS s93 w93 (F93 N))
theorem T93_ok (N : Nat) : FOK Tryz.prog 93 (T93 N) :=
  postT_ok frzP_ok (fn_ok2 ownT mix (tab93_ok N) Tryz.func93 s93 w93 [] (cuts := [(58, L93_58.cut (F93_58 N N))]) ⟨C93_58_ok N N, trivial⟩ (fun _ => by kernel_rfl) (by kernel_rfl) (F93 N) (fun x => by kernel_rfl))
@[reducible] def s92 : SP := ⟨[.nilsl, .int .i64], []⟩
noncomputable def tab92 (N : Nat) : Tabs := []
theorem tab92_ok (N : Nat) : TabOK Tryz.prog (tab92 N) := trivial
@[reducible] def w92 : List SP := [⟨[.slp 0 (.c 0) (.c 0)], [.row (.int .i64) 3]⟩, ⟨[.sl 0], [.row (.int .i64) 3]⟩]
noncomputable def F92 (N : Nat) : (Int) → Option ((((List Int)) ⊕ ((List Int))))
  | x0 =>
  iteP (decide (x0 < 0)) (
  none) (
  iteP (decide (IntKind.wrap .i64 (x0 - 0) > 0)) (
  iteP (decide ((0 : Int) < IntKind.wrap .i64 (x0 - 0) ∧ IntKind.wrap .i64 (x0 - 0) * 8 ≤ (140737488355328 : Int) ∧ IntKind.wrap .i64 (x0 - 0) ≤ 140737488355328)) (
  iteP (decide ((0 : Int) ≤ (0 : Int) ∧ (0 : Int) ≤ (↑(List.length (List.replicate (Int.toNat (IntKind.wrap .i64 (x0 - 0))) (0 : Int))) : Int))) (
  some (.inl (List.replicate (Int.toNat (IntKind.wrap .i64 (x0 - 0))) (0 : Int)))) (
  none)) (
  none)) (
  some (.inr ([]))))
noncomputable def T92 (N : Nat) : Pk → Tr Pk := postT (trimP (Ty.int IntKind.i64) 3) (tellS s92 w92 (F92 N))
theorem T92_ok (N : Nat) : FOK Tryz.prog 92 (T92 N) :=
  postT_ok (trimP_ok _ _) (fn_ok2 ownT mix (tab92_ok N) Tryz.func92 s92 w92 [] (cuts := []) trivial (fun _ => by kernel_rfl) (by kernel_rfl) (F92 N) (fun x => by kernel_rfl))
@[reducible] def s55 : SP := ⟨[.ro (.sl (.int .i64))], []⟩
noncomputable def tab55 (N : Nat) : Tabs := [(92, T92 N)]
theorem tab55_ok (N : Nat) : TabOK Tryz.prog (tab55 N) := ⟨T92_ok N, trivial⟩
@[reducible] def L55_58 : LD := ⟨58, [3, 11, 10, 0, 9], [(.ret, [2]), (.exit 0, [3, 0])], ⟨[.int .i64, .int .i64, .int .i64, .ro (.sl (.int .i64)), .ro (.sl (.int .i64))], []⟩, [(.exit 0, ⟨[.int .i64, .ro (.sl (.int .i64))], []⟩)]⟩
abbrev P55_58 : Type := Int × Int × Int × (List (List Int)) × (List (List Int))
abbrev R55_58 : Type := Int × (List (List Int))
noncomputable def B55_58 (N : Nat) (f : P55_58 → Option R55_58) : P55_58 → Option R55_58
  | (x0, x1, x2, x3, x4) =>
  iteP (decide (x1 < x2)) (
  iteP (within x1 (List.length x4)) (
  Option.bind (x4[Int.toNat x1]?) fun y0 =>
  iteP (decide (IntKind.wrap .i64 (x0 + (↑(List.length y0) : Int)) < 0)) (
  none) (
  Option.bind (f (IntKind.wrap .i64 (x0 + (↑(List.length y0) : Int)), IntKind.wrap .i64 (x1 + 1), x2, x3, x4)) fun r => some r)) (
  none)) (
  some ((x0, x3)))
noncomputable def F55_58 (N : Nat) : Nat → P55_58 → Option R55_58
  | 0, _ => none
  | k + 1, x => B55_58 N (F55_58 N k) x
theorem C55_58_ok (N : Nat) (k : Nat) : CutAt Tryz.prog Tryz.f55 [] 58 (L55_58.cut (F55_58 N k)) :=
  L55_58.loopT ownT mix (tab55_ok N) Tryz.f55 [] (cuts := []) trivial (by decide +kernel) (by kernel_rfl) (B55_58 N) (F55_58 N) (fun _ => rfl) (fun _ _ => rfl) (fun f x => by kernel_rfl) k
@[reducible] def L55_250 : LD := ⟨250, [6, 27, 26, 25], [(.ret, [2]), (.exit 2, [6])], ⟨[.sl 0, .int .i64, .int .i64, .ro (.sl (.int .i64))], [.row (.int .i64) 3]⟩, [(.exit 2, ⟨[.sl 0], [.row (.int .i64) 3]⟩)]⟩
abbrev P55_250 : Type := Int × Int × (List (List Int)) × (List Int)
abbrev R55_250 : Type := (List Int)
noncomputable def B55_250 (N : Nat) (f : P55_250 → Option R55_250) : P55_250 → Option R55_250
  | (x0, x1, x2, x3) =>
  iteP (decide (x0 < x1)) (
  iteP (within x0 (List.length x2)) (
  Option.bind (x2[Int.toNat x0]?) fun y0 =>
  iteP (decide ((List.length x3 + List.length y0) * 8 ≤ (140737488355328 : Nat) ∧ List.length x3 + List.length y0 ≤ 140737488355328)) (
  Option.bind (f (IntKind.wrap .i64 (x0 + 1), x1, x2, x3 ++ y0)) fun r => some r) (
  none)) (
  none)) (
  some (x3))
noncomputable def F55_250 (N : Nat) : Nat → P55_250 → Option R55_250
  | 0, _ => none
  | k + 1, x => B55_250 N (F55_250 N k) x
theorem C55_250_ok (N : Nat) (k : Nat) : CutAt Tryz.prog Tryz.f55 [] 250 (L55_250.cut (F55_250 N k)) :=
  L55_250.loopT ownT mix (tab55_ok N) Tryz.f55 [] (cuts := [(58, L55_58.cut (F55_58 N N))]) ⟨C55_58_ok N N, trivial⟩ (by decide +kernel) (by kernel_rfl) (B55_250 N) (F55_250 N) (fun _ => rfl) (fun _ _ => rfl) (fun f x => by kernel_rfl) k
@[reducible] def w55 : List SP := [⟨[.sl 0], [.row (.int .i64) 3]⟩]
noncomputable def F55 (N : Nat) : ((List (List Int))) → Option ((List Int))
  | x0 =>
  Option.bind (F55_58 N N ((0 : Int), (0 : Int), (↑(List.length x0) : Int), x0, x0)) fun y0 =>
  Option.bind (F92 N y0.1) fun y1 =>
  match y1 with
  | .inl y2 =>
  Option.bind (F55_250 N N ((0 : Int), (↑(List.length y0.2) : Int), y0.2, [])) fun y3 =>
  some (y3)
  | .inr y2 =>
  Option.bind (F55_250 N N ((0 : Int), (↑(List.length y0.2) : Int), y0.2, y2)) fun y4 =>
  some (y4)
noncomputable def T55 (N : Nat) : Pk → Tr Pk := tellS s55 w55 (F55 N)
theorem T55_ok (N : Nat) : FOK Tryz.prog 55 (T55 N) :=
  (fn_ok2 ownT mix (tab55_ok N) Tryz.func55 s55 w55 [] (cuts := [(58, L55_58.cut (F55_58 N N)), (250, L55_250.cut (F55_250 N N))]) ⟨C55_58_ok N N, C55_250_ok N N, trivial⟩ (fun _ => by kernel_rfl) (by kernel_rfl) (F55 N) (fun x => by kernel_rfl))
@[reducible] def s95 : SP := ⟨[.ro y3], []⟩
noncomputable def tab95 (N : Nat) : Tabs := [(55, T55 N)]
theorem tab95_ok (N : Nat) : TabOK Tryz.prog (tab95 N) := ⟨T55_ok N, trivial⟩
@[reducible] def L95_58 : LD := ⟨58, [3, 4, 0], [(.ret, [2]), (.exit 0, [3])], ⟨[.sl 0, .int .i64, .ro y3], [.row y3 137]⟩, [(.exit 0, ⟨[.sl 0], [.row y3 137]⟩)]⟩
abbrev P95_58 : Type := Int × (List (Int × ((List Int) × Unit))) × (List (Int × ((List Int) × Unit)))
abbrev R95_58 : Type := (List (Int × ((List Int) × Unit)))
noncomputable def B95_58 (N : Nat) (f : P95_58 → Option R95_58) : P95_58 → Option R95_58
  | (x0, x1, x2) =>
  iteP (decide (IntKind.wrap .i64 (x0 + 1) < (↑(List.length x1) : Int))) (
  iteP (within x0 (List.length x1)) (
  Option.bind (x1[Int.toNat x0]?) fun y0 =>
  iteP (within (IntKind.wrap .i64 (x0 + 1)) (List.length x1)) (
  Option.bind (x1[Int.toNat (IntKind.wrap .i64 (x0 + 1))]?) fun y1 =>
  iteP (within x0 (List.length x1)) (
  Option.bind (x1[Int.toNat x0]?) fun y2 =>
  iteP (within (IntKind.wrap .i64 (x0 + 1)) (List.length x1)) (
  Option.bind (x1[Int.toNat (IntKind.wrap .i64 (x0 + 1))]?) fun y3 =>
  Option.bind (F55 N [y2.2.1, y3.2.1]) fun y4 =>
  iteP (decide ((List.length x2 + List.length [(IntKind.wrap .i64 (y0.1 + y1.1), y4, ())]) * 32 ≤ (140737488355328 : Nat) ∧ List.length x2 + List.length [(IntKind.wrap .i64 (y0.1 + y1.1), y4, ())] ≤ 140737488355328)) (
  Option.bind (f (IntKind.wrap .i64 (x0 + 2), x1, x2 ++ [(IntKind.wrap .i64 (y0.1 + y1.1), y4, ())])) fun r => some r) (
  none)) (
  none)) (
  none)) (
  none)) (
  none)) (
  some (x2))
noncomputable def F95_58 (N : Nat) : Nat → P95_58 → Option R95_58
  | 0, _ => none
  | k + 1, x => B95_58 N (F95_58 N k) x
theorem C95_58_ok (N : Nat) (k : Nat) : CutAt Tryz.prog Tryz.f95 [] 58 (L95_58.cut (F95_58 N k)) :=
  L95_58.loopT ownT mix (tab95_ok N) Tryz.f95 [] (cuts := []) trivial (by decide +kernel) (by kernel_rfl) (B95_58 N) (F95_58 N) (fun _ => rfl) (fun _ _ => rfl) (fun f x => by kernel_rfl) k
@[reducible] def w95 : List SP := [⟨[.sl 0], [.row y3 137]⟩]
noncomputable def F95 (N : Nat) : ((List (Int × ((List Int) × Unit)))) → Option ((List (Int × ((List Int) × Unit))))
  | x0 =>
  Option.bind (F95_58 N N ((0 : Int), x0, [])) fun y0 =>
  some (y0)
noncomputable def T95 (N : Nat) : Pk → Tr Pk := postT frzP (tellS s95 w95 (F95 N))
theorem T95_ok (N : Nat) : FOK Tryz.prog 95 (T95 N) :=
  postT_ok frzP_ok (fn_ok2 ownT mix (tab95_ok N) Tryz.func95 s95 w95 [] (cuts := [(58, L95_58.cut (F95_58 N N))]) ⟨C95_58_ok N N, trivial⟩ (fun _ => by kernel_rfl) (by kernel_rfl) (F95 N) (fun x => by kernel_rfl))
@[reducible] def s56 : SP := ⟨[.ro (.int .i64), .int .i64], []⟩
noncomputable def tab56 (N : Nat) : Tabs := [(93, T93 N), (95, T95 N), (94, T94 N)]
theorem tab56_ok (N : Nat) : TabOK Tryz.prog (tab56 N) := ⟨T93_ok N, T95_ok N, T94_ok N, trivial⟩
@[reducible] def L56_4090 : LD := ⟨4090, [9, 61, 60, 8, 6], [(.ret, [4, 5]), (.exit 1, [9, 6, 8])], ⟨[.ro y3, .int .i64, .int .i64, .sl 0, .ro y3], [.row (.int .i64) 3]⟩, [(.exit 1, ⟨[.ro y3, .ro y3, .sl 0], [.row (.int .i64) 3]⟩)]⟩
abbrev P56_4090 : Type := (List (Int × ((List Int) × Unit))) × Int × Int × (List (Int × ((List Int) × Unit))) × (List Int)
abbrev R56_4090 : Type := (List (Int × ((List Int) × Unit))) × (List (Int × ((List Int) × Unit))) × (List Int)
noncomputable def B56_4090 (N : Nat) (f : P56_4090 → Option R56_4090) : P56_4090 → Option R56_4090
  | (x0, x1, x2, x3, x4) =>
  iteP (decide (x1 < x2)) (
  Option.bind (F95 N x0) fun y0 =>
  Option.bind (F94 N (x3, y0)) fun y1 =>
  Option.bind (f (y1, IntKind.wrap .i64 (x1 + 1), x2, x3, x4)) fun r => some r) (
  some ((x0, x3, x4)))
noncomputable def F56_4090 (N : Nat) : Nat → P56_4090 → Option R56_4090
  | 0, _ => none
  | k + 1, x => B56_4090 N (F56_4090 N k) x
theorem C56_4090_ok (N : Nat) (k : Nat) : CutAt Tryz.prog Tryz.f56 [] 4090 (L56_4090.cut (F56_4090 N k)) :=
  L56_4090.loopT ownT mix (tab56_ok N) Tryz.f56 [] (cuts := []) trivial (by decide +kernel) (by kernel_rfl) (B56_4090 N) (F56_4090 N) (fun _ => rfl) (fun _ _ => rfl) (fun f x => by kernel_rfl) k
@[reducible] def L56_2095718 : LD := ⟨2095718, [82, 81, 73, 74, 75, 80, 8], [(.ret, [4, 5]), (.exit 5, [75, 74, 73, 8]), (.exit 4, [75, 74, 73, 8]), (.exit 3, [8])], ⟨[.int .i64, .int .i64, .ro y3, .int .i64, .int .i64, .ro (.int .i64), .sl 0], [.row (.int .i64) 3]⟩, [(.exit 5, ⟨[.int .i64, .int .i64, .ro y3, .sl 0], [.row (.int .i64) 3]⟩)]⟩
abbrev P56_2095718 : Type := Int × Int × (List (Int × ((List Int) × Unit))) × Int × Int × (List Int) × (List Int)
abbrev R56_2095718 : Type := Int × Int × (List (Int × ((List Int) × Unit))) × (List Int)
noncomputable def B56_2095718 (N : Nat) (f : P56_2095718 → Option R56_2095718) : P56_2095718 → Option R56_2095718
  | (x0, x1, x2, x3, x4, x5, x6) =>
  iteP (decide (x0 < x1)) (
  iteP (within x0 (List.length x5)) (
  Option.bind (x5[Int.toNat x0]?) fun y0 =>
  iteP (within y0 (List.length x6)) (
  Option.bind (x6[Int.toNat y0]?) fun y1 =>
  iteP (within y0 (List.length x6)) (
  Option.bind (x6[Int.toNat y0]?) fun y2 =>
  Option.bind (f (IntKind.wrap .i64 (x0 + 1), x1, x2, x3, x4, x5, List.set x6 (Int.toNat y0) (IntKind.wrap .i64 (y1 + 1)))) fun r => some r) (
  none)) (
  none)) (
  none)) (
  some ((x4, x3, x2, x6)))
noncomputable def F56_2095718 (N : Nat) : Nat → P56_2095718 → Option R56_2095718
  | 0, _ => none
  | k + 1, x => B56_2095718 N (F56_2095718 N k) x
theorem C56_2095718_ok (N : Nat) (k : Nat) : CutAt Tryz.prog Tryz.f56 [] 2095718 (L56_2095718.cut (F56_2095718 N k)) :=
  L56_2095718.loopT ownT mix (tab56_ok N) Tryz.f56 [] (cuts := [(4090, L56_4090.cut (F56_4090 N N))]) ⟨C56_4090_ok N N, trivial⟩ (by decide +kernel) (by kernel_rfl) (B56_2095718 N) (F56_2095718 N) (fun _ => rfl) (fun _ _ => rfl) (fun f x => by kernel_rfl) k
@[reducible] def L56_8186 : LD := ⟨8186, [74, 73, 75, 8], [(.ret, [4, 5]), (.exit 3, [8])], ⟨[.int .i64, .ro y3, .int .i64, .sl 0], [.row (.int .i64) 3]⟩, [(.exit 3, ⟨[.sl 0], [.row (.int .i64) 3]⟩)]⟩
abbrev P56_8186 : Type := Int × (List (Int × ((List Int) × Unit))) × Int × (List Int)
abbrev R56_8186 : Type := (List Int)
noncomputable def B56_8186 (N : Nat) (f : P56_8186 → Option R56_8186) : P56_8186 → Option R56_8186
  | (x0, x1, x2, x3) =>
  iteP (decide (x2 < x0)) (
  iteP (within x2 (List.length x1)) (
  Option.bind (x1[Int.toNat x2]?) fun y0 =>
  Option.bind (F56_2095718 N N ((0 : Int), (↑(List.length y0.2.1) : Int), x1, x0, x2, y0.2.1, x3)) fun y1 =>
  Option.bind (f (y1.2.1, y1.2.2.1, IntKind.wrap .i64 (y1.1 + 1), y1.2.2.2)) fun r => some r) (
  none)) (
  some (x3))
noncomputable def F56_8186 (N : Nat) : Nat → P56_8186 → Option R56_8186
  | 0, _ => none
  | k + 1, x => B56_8186 N (F56_8186 N k) x
theorem C56_8186_ok (N : Nat) (k : Nat) : CutAt Tryz.prog Tryz.f56 [] 8186 (L56_8186.cut (F56_8186 N k)) :=
  L56_8186.loopT ownT mix (tab56_ok N) Tryz.f56 [] (cuts := [(4090, L56_4090.cut (F56_4090 N N)), (2095718, L56_2095718.cut (F56_2095718 N N))]) ⟨C56_4090_ok N N, C56_2095718_ok N N, trivial⟩ (by decide +kernel) (by kernel_rfl) (B56_8186 N) (F56_8186 N) (fun _ => rfl) (fun _ _ => rfl) (fun f x => by kernel_rfl) k
@[reducible] def w56 : List SP := [⟨[.tup [.sl 0, .int .i64]], [.row (.int .i64) 3]⟩]
noncomputable def F56 (N : Nat) : ((List Int) × Int) → Option (Int × (List Int))
  | (x0, x1) =>
  iteP (decide ((↑(List.length x0) : Int) > (320 : Int))) (
  some (((1 : Int), []))) (
  iteP (decide (x1 < 1)) (
  some (((1 : Int), []))) (
  iteP (decide (x1 > 15)) (
  some (((1 : Int), []))) (
  Option.bind (F93 N x0) fun y0 =>
  match y0 with
  | .inl y1 =>
  iteP (y1.1 != 0) (
  some ((y1.1, []))) (
  iteP (decide (x1 < 0)) (
  none) (
  iteP (decide ((↑(List.length y1.2) : Int) > IntKind.wrap .i64 ((1 : Int) * (2 : Int) ^ min (Int.toNat x1) (64 : Nat)))) (
  some (((50 : Int), []))) (
  iteP (decide ((0 : Int) ≤ (↑(List.length x0) : Int) ∧ (↑(List.length x0) : Int) ≤ (↑(List.length x0) : Int) ∧ (↑(List.length x0) : Int) * (8 : Int) ≤ (140737488355328 : Int) ∧ (↑(List.length x0) : Int) ≤ (140737488355328 : Int))) (
  iteP ((↑(List.length y1.2) : Int) == (1 : Int)) (
  iteP (within (0 : Int) (List.length y1.2)) (
  Option.bind (y1.2[(0 : Nat)]?) fun y2 =>
  iteP (within (0 : Int) (List.length y2.2.1)) (
  Option.bind (y2.2.1[(0 : Nat)]?) fun y3 =>
  iteP (within y3 (List.length (List.replicate (Int.toNat (↑(List.length x0) : Int)) (0 : Int)))) (
  Option.bind ((List.replicate (Int.toNat (↑(List.length x0) : Int)) (0 : Int))[Int.toNat y3]?) fun y4 =>
  iteP (decide ((↑(List.length y1.2) : Int) < (2 : Int))) (
  some (((0 : Int), List.set (List.replicate (Int.toNat (↑(List.length x0) : Int)) (0 : Int)) (Int.toNat y3) (1 : Int)))) (
  Option.bind (F56_4090 N N (y1.2, (0 : Int), IntKind.wrap .i64 (x1 - 1), y1.2, List.set (List.replicate (Int.toNat (↑(List.length x0) : Int)) (0 : Int)) (Int.toNat y3) (1 : Int))) fun y5 =>
  iteP (decide ((0 : Int) ≤ IntKind.wrap .i64 (IntKind.wrap .i64 ((2 : Int) * (↑(List.length y5.2.1) : Int)) - 2) ∧ IntKind.wrap .i64 (IntKind.wrap .i64 ((2 : Int) * (↑(List.length y5.2.1) : Int)) - 2) ≤ (↑(List.length y5.1) : Int))) (
  Option.bind (F56_8186 N N ((↑(List.length (List.take (Int.toNat (IntKind.wrap .i64 (IntKind.wrap .i64 ((2 : Int) * (↑(List.length y5.2.1) : Int)) - 2)) - 0) (List.drop (0 : Nat) y5.1))) : Int), List.take (Int.toNat (IntKind.wrap .i64 (IntKind.wrap .i64 ((2 : Int) * (↑(List.length y5.2.1) : Int)) - 2)) - 0) (List.drop (0 : Nat) y5.1), (0 : Int), y5.2.2)) fun y6 =>
  some (((0 : Int), y6))) (
  none))) (
  none)) (
  none)) (
  none)) (
  iteP (decide ((↑(List.length y1.2) : Int) < (2 : Int))) (
  some (((0 : Int), List.replicate (Int.toNat (↑(List.length x0) : Int)) (0 : Int)))) (
  Option.bind (F56_4090 N N (y1.2, (0 : Int), IntKind.wrap .i64 (x1 - 1), y1.2, List.replicate (Int.toNat (↑(List.length x0) : Int)) (0 : Int))) fun y7 =>
  iteP (decide ((0 : Int) ≤ IntKind.wrap .i64 (IntKind.wrap .i64 ((2 : Int) * (↑(List.length y7.2.1) : Int)) - 2) ∧ IntKind.wrap .i64 (IntKind.wrap .i64 ((2 : Int) * (↑(List.length y7.2.1) : Int)) - 2) ≤ (↑(List.length y7.1) : Int))) (
  Option.bind (F56_8186 N N ((↑(List.length (List.take (Int.toNat (IntKind.wrap .i64 (IntKind.wrap .i64 ((2 : Int) * (↑(List.length y7.2.1) : Int)) - 2)) - 0) (List.drop (0 : Nat) y7.1))) : Int), List.take (Int.toNat (IntKind.wrap .i64 (IntKind.wrap .i64 ((2 : Int) * (↑(List.length y7.2.1) : Int)) - 2)) - 0) (List.drop (0 : Nat) y7.1), (0 : Int), y7.2.2)) fun y8 =>
  some (((0 : Int), y8))) (
  none)))) (
  none))))
  | .inr y1 =>
  iteP (y1.2 != 0) (
  some ((y1.2, []))) (
  iteP (decide (x1 < 0)) (
  none) (
  iteP (decide ((↑(List.length y1.1) : Int) > IntKind.wrap .i64 ((1 : Int) * (2 : Int) ^ min (Int.toNat x1) (64 : Nat)))) (
  some (((50 : Int), []))) (
  iteP (decide ((0 : Int) ≤ (↑(List.length x0) : Int) ∧ (↑(List.length x0) : Int) ≤ (↑(List.length x0) : Int) ∧ (↑(List.length x0) : Int) * (8 : Int) ≤ (140737488355328 : Int) ∧ (↑(List.length x0) : Int) ≤ (140737488355328 : Int))) (
  iteP ((↑(List.length y1.1) : Int) == (1 : Int)) (
  iteP (within (0 : Int) (List.length y1.1)) (
  Option.bind (y1.1[(0 : Nat)]?) fun y9 =>
  iteP (within (0 : Int) (List.length y9.2.1)) (
  Option.bind (y9.2.1[(0 : Nat)]?) fun y10 =>
  iteP (within y10 (List.length (List.replicate (Int.toNat (↑(List.length x0) : Int)) (0 : Int)))) (
  Option.bind ((List.replicate (Int.toNat (↑(List.length x0) : Int)) (0 : Int))[Int.toNat y10]?) fun y11 =>
  iteP (decide ((↑(List.length y1.1) : Int) < (2 : Int))) (
  some (((0 : Int), List.set (List.replicate (Int.toNat (↑(List.length x0) : Int)) (0 : Int)) (Int.toNat y10) (1 : Int)))) (
  Option.bind (F56_4090 N N (y1.1, (0 : Int), IntKind.wrap .i64 (x1 - 1), y1.1, List.set (List.replicate (Int.toNat (↑(List.length x0) : Int)) (0 : Int)) (Int.toNat y10) (1 : Int))) fun y12 =>
  iteP (decide ((0 : Int) ≤ IntKind.wrap .i64 (IntKind.wrap .i64 ((2 : Int) * (↑(List.length y12.2.1) : Int)) - 2) ∧ IntKind.wrap .i64 (IntKind.wrap .i64 ((2 : Int) * (↑(List.length y12.2.1) : Int)) - 2) ≤ (↑(List.length y12.1) : Int))) (
  Option.bind (F56_8186 N N ((↑(List.length (List.take (Int.toNat (IntKind.wrap .i64 (IntKind.wrap .i64 ((2 : Int) * (↑(List.length y12.2.1) : Int)) - 2)) - 0) (List.drop (0 : Nat) y12.1))) : Int), List.take (Int.toNat (IntKind.wrap .i64 (IntKind.wrap .i64 ((2 : Int) * (↑(List.length y12.2.1) : Int)) - 2)) - 0) (List.drop (0 : Nat) y12.1), (0 : Int), y12.2.2)) fun y13 =>
  some (((0 : Int), y13))) (
  none))) (
  none)) (
  none)) (
  none)) (
  iteP (decide ((↑(List.length y1.1) : Int) < (2 : Int))) (
  some (((0 : Int), List.replicate (Int.toNat (↑(List.length x0) : Int)) (0 : Int)))) (
  Option.bind (F56_4090 N N (y1.1, (0 : Int), IntKind.wrap .i64 (x1 - 1), y1.1, List.replicate (Int.toNat (↑(List.length x0) : Int)) (0 : Int))) fun y14 =>
  iteP (decide ((0 : Int) ≤ IntKind.wrap .i64 (IntKind.wrap .i64 ((2 : Int) * (↑(List.length y14.2.1) : Int)) - 2) ∧ IntKind.wrap .i64 (IntKind.wrap .i64 ((2 : Int) * (↑(List.length y14.2.1) : Int)) - 2) ≤ (↑(List.length y14.1) : Int))) (
  Option.bind (F56_8186 N N ((↑(List.length (List.take (Int.toNat (IntKind.wrap .i64 (IntKind.wrap .i64 ((2 : Int) * (↑(List.length y14.2.1) : Int)) - 2)) - 0) (List.drop (0 : Nat) y14.1))) : Int), List.take (Int.toNat (IntKind.wrap .i64 (IntKind.wrap .i64 ((2 : Int) * (↑(List.length y14.2.1) : Int)) - 2)) - 0) (List.drop (0 : Nat) y14.1), (0 : Int), y14.2.2)) fun y15 =>
  some (((0 : Int), y15))) (
  none)))) (
  none)))))))
noncomputable def T56 (N : Nat) : Pk → Tr Pk := tellS s56 w56 (F56 N)
theorem T56_ok (N : Nat) : FOK Tryz.prog 56 (T56 N) :=
  (fn_ok2 ownT mix (tab56_ok N) Tryz.func56 s56 w56 [] (cuts := [(4090, L56_4090.cut (F56_4090 N N)), (2095718, L56_2095718.cut (F56_2095718 N N)), (8186, L56_8186.cut (F56_8186 N N))]) ⟨C56_4090_ok N N, C56_2095718_ok N N, C56_8186_ok N N, trivial⟩ (fun _ => by kernel_rfl) (by kernel_rfl) (F56 N) (fun x => by kernel_rfl))
@[reducible] def s68 : SP := ⟨[.ro (.int .i64)], []⟩
noncomputable def tab68 (N : Nat) : Tabs := [(56, T56 N)]
theorem tab68_ok (N : Nat) : TabOK Tryz.prog (tab68 N) := ⟨T56_ok N, trivial⟩
@[reducible] def w68 : List SP := [⟨[.sl 0], [.row (.int .i64) 3]⟩]
noncomputable def F68 (N : Nat) : ((List Int)) → Option ((List Int))
  | x0 =>
  Option.bind (F56 N (x0, (15 : Int))) fun y0 =>
  some y0.2
noncomputable def T68 (N : Nat) : Pk → Tr Pk := tellS s68 w68 (F68 N)
theorem T68_ok (N : Nat) : FOK Tryz.prog 68 (T68 N) :=
  (fn_ok2 ownT mix (tab68_ok N) Tryz.func68 s68 w68 [] (cuts := []) trivial (fun _ => by kernel_rfl) (by kernel_rfl) (F68 N) (fun x => by kernel_rfl))
@[reducible] def s67 : SP := ⟨[.ro (.int .i64), .int .i64], []⟩
noncomputable def tab67 (N : Nat) : Tabs := []
theorem tab67_ok (N : Nat) : TabOK Tryz.prog (tab67 N) := trivial
@[reducible] def L67_28 : LD := ⟨28, [5, 1, 0], [(.ret, [4]), (.exit 0, [0, 5])], ⟨[.int .i64, .int .i64, .ro (.int .i64)], []⟩, [(.exit 0, ⟨[.ro (.int .i64), .int .i64], []⟩)]⟩
abbrev P67_28 : Type := Int × Int × (List Int)
abbrev R67_28 : Type := (List Int) × Int
noncomputable def B67_28 (N : Nat) (f : P67_28 → Option R67_28) : P67_28 → Option R67_28
  | (x0, x1, x2) =>
  iteP (decide (x0 > x1)) (
  iteP (within (IntKind.wrap .i64 (x0 - 1)) (List.length x2)) (
  Option.bind (x2[Int.toNat (IntKind.wrap .i64 (x0 - 1))]?) fun y0 =>
  iteP (y0 == 0) (
  Option.bind (f (IntKind.wrap .i64 (x0 - 1), x1, x2)) fun r => some r) (
  some ((x2, x0)))) (
  none)) (
  some ((x2, x0)))
noncomputable def F67_28 (N : Nat) : Nat → P67_28 → Option R67_28
  | 0, _ => none
  | k + 1, x => B67_28 N (F67_28 N k) x
theorem C67_28_ok (N : Nat) (k : Nat) : CutAt Tryz.prog Tryz.f67 [] 28 (L67_28.cut (F67_28 N k)) :=
  L67_28.loopT ownT mix (tab67_ok N) Tryz.f67 [] (cuts := []) trivial (by decide +kernel) (by kernel_rfl) (B67_28 N) (F67_28 N) (fun _ => rfl) (fun _ _ => rfl) (fun f x => by kernel_rfl) k
@[reducible] def w67 : List SP := [⟨[.ro (.int .i64)], []⟩]
noncomputable def F67 (N : Nat) : ((List Int) × Int) → Option ((List Int))
  | (x0, x1) =>
  Option.bind (F67_28 N N ((↑(List.length x0) : Int), x1, x0)) fun y0 =>
  iteP (decide ((0 : Int) ≤ y0.2 ∧ y0.2 ≤ (↑(List.length y0.1) : Int))) (
  some (List.take (Int.toNat y0.2 - 0) (List.drop (0 : Nat) y0.1))) (
  none)
noncomputable def T67 (N : Nat) : Pk → Tr Pk := tellS s67 w67 (F67 N)
theorem T67_ok (N : Nat) : FOK Tryz.prog 67 (T67 N) :=
  (fn_ok2 ownT mix (tab67_ok N) Tryz.func67 s67 w67 [] (cuts := [(28, L67_28.cut (F67_28 N N))]) ⟨C67_28_ok N N, trivial⟩ (fun _ => by kernel_rfl) (by kernel_rfl) (F67 N) (fun x => by kernel_rfl))
@[reducible] def s52 : SP := ⟨[.int .i64], []⟩
noncomputable def tab52 (N : Nat) : Tabs := []
theorem tab52_ok (N : Nat) : TabOK Tryz.prog (tab52 N) := trivial
@[reducible] def w52 : List SP := [⟨[.bool], []⟩]
noncomputable def F52 (N : Nat) : (Int) → Option (Bool)
  | x0 =>
  iteP (decide (x0 < 0)) (
  some (true)) (
  some (decide (x0 > 15)))
noncomputable def T52 (N : Nat) : Pk → Tr Pk := tellS s52 w52 (F52 N)
theorem T52_ok (N : Nat) : FOK Tryz.prog 52 (T52 N) :=
  (fn_ok2 ownT mix (tab52_ok N) Tryz.func52 s52 w52 [] (cuts := []) trivial (fun _ => by kernel_rfl) (by kernel_rfl) (F52 N) (fun x => by kernel_rfl))
@[reducible] def s90a : SP := ⟨[.ro (.int .i64), .fn 52], []⟩
noncomputable def tab90a (N : Nat) : Tabs := [(52, T52 N)]
theorem tab90a_ok (N : Nat) : TabOK Tryz.prog (tab90a N) := ⟨T52_ok N, trivial⟩
@[reducible] def L90a_26 : LD := ⟨26, [7, 1, 0, 8], [(.ret, [4]), (.exit 0, [])], ⟨[.int .i64, .fn 52, .ro (.int .i64), .int .i64], []⟩, [(.ret, ⟨[.int .i64], []⟩), (.exit 0, ⟨[], []⟩)]⟩
abbrev P90a_26 : Type := Int × (List Int) × Int
abbrev R90a_26 : Type := ((Int) ⊕ (Unit))
noncomputable def B90a_26 (N : Nat) (f : P90a_26 → Option R90a_26) : P90a_26 → Option R90a_26
  | (x0, x1, x2) =>
  iteP (decide (x2 < x0)) (
  iteP (within x2 (List.length x1)) (
  Option.bind (x1[Int.toNat x2]?) fun y0 =>
  Option.bind (F52 N y0) fun y1 =>
  iteP (y1) (
  some (.inl (x2))) (
  Option.bind (f (x0, x1, IntKind.wrap .i64 (x2 + 1))) fun r => match r with | .inl y => some (.inl y) | .inr y => some (.inr y))) (
  none)) (
  some (.inr (())))
noncomputable def F90a_26 (N : Nat) : Nat → P90a_26 → Option R90a_26
  | 0, _ => none
  | k + 1, x => B90a_26 N (F90a_26 N k) x
theorem C90a_26_ok (N : Nat) (k : Nat) : CutAt Tryz.prog Tryz.f90 [] 26 (L90a_26.cut (F90a_26 N k)) :=
  L90a_26.loopT ownT mix (tab90a_ok N) Tryz.f90 [] (cuts := []) trivial (by decide +kernel) (by kernel_rfl) (B90a_26 N) (F90a_26 N) (fun _ => rfl) (fun _ _ => rfl) (fun f x => by kernel_rfl) k
@[reducible] def w90a : List SP := [⟨[.int .i64], []⟩]
noncomputable def F90a (N : Nat) : ((List Int)) → Option (Int)
  | x0 =>
  Option.bind (F90a_26 N N ((↑(List.length x0) : Int), x0, (0 : Int))) fun y0 =>
  match y0 with
  | .inl y1 =>
  some (y1)
  | .inr y1 =>
  some ((-1 : Int))
noncomputable def V90a (N : Nat) : Pk → Tr Pk := tellS s90a w90a (F90a N)
theorem V90a_ok (N : Nat) : FOK Tryz.prog 90 (V90a N) :=
  (fn_ok2 ownT mix (tab90a_ok N) Tryz.func90 s90a w90a [] (cuts := [(26, L90a_26.cut (F90a_26 N N))]) ⟨C90a_26_ok N N, trivial⟩ (fun _ => by kernel_rfl) (by kernel_rfl) (F90a N) (fun x => by kernel_rfl))
noncomputable def T90 (N : Nat) : Pk → Tr Pk := (V90a N)
theorem T90_ok (N : Nat) : FOK Tryz.prog 90 (T90 N) := (V90a_ok N)
@[reducible] def s53a : SP := ⟨[.ro (.int .i64), .fn 52], []⟩
noncomputable def tab53a (N : Nat) : Tabs := [(90, T90 N), (52, T52 N)]
theorem tab53a_ok (N : Nat) : TabOK Tryz.prog (tab53a N) := ⟨T90_ok N, T52_ok N, trivial⟩
@[reducible] def w53a : List SP := [⟨[.bool], []⟩]
noncomputable def F53a (N : Nat) : ((List Int)) → Option (Bool)
  | x0 =>
  Option.bind (F90a N x0) fun y0 =>
  some (decide (y0 ≥ 0))
noncomputable def V53a (N : Nat) : Pk → Tr Pk := tellS s53a w53a (F53a N)
theorem V53a_ok (N : Nat) : FOK Tryz.prog 53 (V53a N) :=
  (fn_ok2 ownT mix (tab53a_ok N) Tryz.func53 s53a w53a [] (cuts := []) trivial (fun _ => by kernel_rfl) (by kernel_rfl) (F53a N) (fun x => by kernel_rfl))
noncomputable def T53 (N : Nat) : Pk → Tr Pk := (V53a N)
theorem T53_ok (N : Nat) : FOK Tryz.prog 53 (T53 N) := (V53a_ok N)
@[reducible] def s91 : SP := ⟨[.ro (.int .i64), .int .i64, .int .i64], []⟩
noncomputable def tab91 (N : Nat) : Tabs := []
theorem tab91_ok (N : Nat) : TabOK Tryz.prog (tab91 N) := trivial
@[reducible] def L91_28 : LD := ⟨28, [7, 2, 0, 1], [(.ret, [6]), (.exit 0, [7])], ⟨[.int .i64, .int .i64, .ro (.int .i64), .int .i64], []⟩, [(.exit 0, ⟨[.int .i64], []⟩)]⟩
abbrev P91_28 : Type := Int × Int × (List Int) × Int
abbrev R91_28 : Type := Int
noncomputable def B91_28 (N : Nat) (f : P91_28 → Option R91_28) : P91_28 → Option R91_28
  | (x0, x1, x2, x3) =>
  iteP (decide (x0 < x1)) (
  iteP (decide (IntKind.wrap .i64 (x3 + x0) < (↑(List.length x2) : Int))) (
  iteP (within (IntKind.wrap .i64 (x3 + x0)) (List.length x2)) (
  Option.bind (x2[Int.toNat (IntKind.wrap .i64 (x3 + x0))]?) fun y0 =>
  iteP (within x3 (List.length x2)) (
  Option.bind (x2[Int.toNat x3]?) fun y1 =>
  iteP (y0 == y1) (
  Option.bind (f (IntKind.wrap .i64 (x0 + 1), x1, x2, x3)) fun r => some r) (
  some (x0))) (
  none)) (
  none)) (
  some (x0))) (
  some (x0))
noncomputable def F91_28 (N : Nat) : Nat → P91_28 → Option R91_28
  | 0, _ => none
  | k + 1, x => B91_28 N (F91_28 N k) x
theorem C91_28_ok (N : Nat) (k : Nat) : CutAt Tryz.prog Tryz.f91 [] 28 (L91_28.cut (F91_28 N k)) :=
  L91_28.loopT ownT mix (tab91_ok N) Tryz.f91 [] (cuts := []) trivial (by decide +kernel) (by kernel_rfl) (B91_28 N) (F91_28 N) (fun _ => rfl) (fun _ _ => rfl) (fun f x => by kernel_rfl) k
@[reducible] def w91 : List SP := [⟨[.int .i64], []⟩]
noncomputable def F91 (N : Nat) : ((List Int) × Int × Int) → Option (Int)
  | (x0, x1, x2) =>
  Option.bind (F91_28 N N ((1 : Int), x2, x0, x1)) fun y0 =>
  some (y0)
noncomputable def T91 (N : Nat) : Pk → Tr Pk := tellS s91 w91 (F91 N)
theorem T91_ok (N : Nat) : FOK Tryz.prog 91 (T91 N) :=
  (fn_ok2 ownT mix (tab91_ok N) Tryz.func91 s91 w91 [] (cuts := [(28, L91_28.cut (F91_28 N N))]) ⟨C91_28_ok N N, trivial⟩ (fun _ => by kernel_rfl) (by kernel_rfl) (F91 N) (fun x => by kernel_rfl))
@[reducible] def s54 : SP := ⟨[.ro (.int .i64)], []⟩
noncomputable def tab54 (N : Nat) : Tabs := [(91, T91 N)]
theorem tab54_ok (N : Nat) : TabOK Tryz.prog (tab54 N) := ⟨T91_ok N, trivial⟩
@[reducible] def L54_29863 : LD := ⟨29863, [37, 3, 4, 5, 0], [(.ret, [2]), (.exit 2, [4, 5, 3, 0]), (.exit 1, [3, 4, 0]), (.exit 0, [3]), (.normal, [4, 5, 3, 0])], ⟨[.bool, .sl 0, .int .i64, .int .i64, .ro (.int .i64)], [.row y0 96]⟩, [(.normal, ⟨[.int .i64, .int .i64, .sl 0, .ro (.int .i64)], [.row y0 96]⟩)]⟩
noncomputable def F54_29863 (N : Nat) : (Bool × Int × Int × (List Int) × (List (Int × (Int × (Int × Unit))))) → Option (Int × Int × (List Int) × (List (Int × (Int × (Int × Unit)))))
  | (x0, x1, x2, x3, x4) =>
  iteP (x0) (
  iteP (decide ((List.length x4 + List.length [((17 : Int), (3 : Int), IntKind.wrap .i64 (x2 - 3), ())]) * 24 ≤ (140737488355328 : Nat) ∧ List.length x4 + List.length [((17 : Int), (3 : Int), IntKind.wrap .i64 (x2 - 3), ())] ≤ 140737488355328)) (
  some ((x1, x2, x3, x4 ++ [((17 : Int), (3 : Int), IntKind.wrap .i64 (x2 - 3), ())]))) (
  none)) (
  iteP (decide (x1 > 0)) (
  iteP (within x1 (List.length x3)) (
  Option.bind (x3[Int.toNat x1]?) fun y0 =>
  iteP (within (IntKind.wrap .i64 (x1 - 1)) (List.length x3)) (
  Option.bind (x3[Int.toNat (IntKind.wrap .i64 (x1 - 1))]?) fun y1 =>
  iteP (y0 == y1) (
  iteP (decide (x2 > 2)) (
  iteP (decide ((List.length x4 + List.length [((16 : Int), (2 : Int), IntKind.wrap .i64 ((if (6 : Int) < x2 then (6 : Int) else x2) - 3), ())]) * 24 ≤ (140737488355328 : Nat) ∧ List.length x4 + List.length [((16 : Int), (2 : Int), IntKind.wrap .i64 ((if (6 : Int) < x2 then (6 : Int) else x2) - 3), ())] ≤ 140737488355328)) (
  some ((x1, if (6 : Int) < x2 then (6 : Int) else x2, x3, x4 ++ [((16 : Int), (2 : Int), IntKind.wrap .i64 ((if (6 : Int) < x2 then (6 : Int) else x2) - 3), ())]))) (
  none)) (
  iteP (within x1 (List.length x3)) (
  Option.bind (x3[Int.toNat x1]?) fun y2 =>
  iteP (decide ((List.length x4 + List.length [(y2, (0 : Int), (0 : Int), ())]) * 24 ≤ (140737488355328 : Nat) ∧ List.length x4 + List.length [(y2, (0 : Int), (0 : Int), ())] ≤ 140737488355328)) (
  some ((x1, (1 : Int), x3, x4 ++ [(y2, (0 : Int), (0 : Int), ())]))) (
  none)) (
  none))) (
  iteP (within x1 (List.length x3)) (
  Option.bind (x3[Int.toNat x1]?) fun y3 =>
  iteP (decide ((List.length x4 + List.length [(y3, (0 : Int), (0 : Int), ())]) * 24 ≤ (140737488355328 : Nat) ∧ List.length x4 + List.length [(y3, (0 : Int), (0 : Int), ())] ≤ 140737488355328)) (
  some ((x1, (1 : Int), x3, x4 ++ [(y3, (0 : Int), (0 : Int), ())]))) (
  none)) (
  none))) (
  none)) (
  none)) (
  iteP (within x1 (List.length x3)) (
  Option.bind (x3[Int.toNat x1]?) fun y4 =>
  iteP (decide ((List.length x4 + List.length [(y4, (0 : Int), (0 : Int), ())]) * 24 ≤ (140737488355328 : Nat) ∧ List.length x4 + List.length [(y4, (0 : Int), (0 : Int), ())] ≤ 140737488355328)) (
  some ((x1, (1 : Int), x3, x4 ++ [(y4, (0 : Int), (0 : Int), ())]))) (
  none)) (
  none)))
theorem C54_29863_ok (N : Nat) (k : Nat) : CutAt Tryz.prog Tryz.f54 [] 29863 (L54_29863.cut (F54_29863 N)) :=
  L54_29863.pieceT ownT mix (tab54_ok N) Tryz.f54 [] (cuts := []) trivial (by decide +kernel) (by kernel_rfl) (F54_29863 N) (fun x => by kernel_rfl)
@[reducible] def L54_7465 : LD := ⟨7465, [21, 3, 4, 5, 0], [(.ret, [2]), (.exit 2, [4, 5, 3, 0]), (.exit 1, [3, 4, 0]), (.exit 0, [3]), (.normal, [4, 5, 3, 0])], ⟨[.bool, .sl 0, .int .i64, .int .i64, .ro (.int .i64)], [.row y0 96]⟩, [(.normal, ⟨[.int .i64, .int .i64, .sl 0, .ro (.int .i64)], [.row y0 96]⟩)]⟩
noncomputable def F54_7465 (N : Nat) : (Bool × Int × Int × (List Int) × (List (Int × (Int × (Int × Unit))))) → Option (Int × Int × (List Int) × (List (Int × (Int × (Int × Unit)))))
  | (x0, x1, x2, x3, x4) =>
  iteP (x0) (
  iteP (decide ((List.length x4 + List.length [((18 : Int), (7 : Int), IntKind.wrap .i64 (x2 - 11), ())]) * 24 ≤ (140737488355328 : Nat) ∧ List.length x4 + List.length [((18 : Int), (7 : Int), IntKind.wrap .i64 (x2 - 11), ())] ≤ 140737488355328)) (
  some ((x1, x2, x3, x4 ++ [((18 : Int), (7 : Int), IntKind.wrap .i64 (x2 - 11), ())]))) (
  none)) (
  iteP (within x1 (List.length x3)) (
  Option.bind (x3[Int.toNat x1]?) fun y0 =>
  iteP (y0 == 0) (
  Option.bind (F54_29863 N (decide (x2 > 2), x1, x2, x3, x4)) fun y1 =>
  some ((y1.1, y1.2.1, y1.2.2.1, y1.2.2.2))) (
  Option.bind (F54_29863 N (false, x1, x2, x3, x4)) fun y2 =>
  some ((y2.1, y2.2.1, y2.2.2.1, y2.2.2.2)))) (
  none))
theorem C54_7465_ok (N : Nat) (k : Nat) : CutAt Tryz.prog Tryz.f54 [] 7465 (L54_7465.cut (F54_7465 N)) :=
  L54_7465.pieceT ownT mix (tab54_ok N) Tryz.f54 [] (cuts := [(29863, L54_29863.cut (F54_29863 N))]) ⟨C54_29863_ok N N, trivial⟩ (by decide +kernel) (by kernel_rfl) (F54_7465 N) (fun x => by kernel_rfl)
@[reducible] def L54_58 : LD := ⟨58, [3, 4, 0], [(.ret, [2]), (.exit 0, [3])], ⟨[.sl 0, .int .i64, .ro (.int .i64)], [.row y0 96]⟩, [(.exit 0, ⟨[.sl 0], [.row y0 96]⟩)]⟩
abbrev P54_58 : Type := Int × (List Int) × (List (Int × (Int × (Int × Unit))))
abbrev R54_58 : Type := (List (Int × (Int × (Int × Unit))))
noncomputable def B54_58 (N : Nat) (f : P54_58 → Option R54_58) : P54_58 → Option R54_58
  | (x0, x1, x2) =>
  iteP (decide (x0 < (↑(List.length x1) : Int))) (
  Option.bind (F91 N (x1, x0, (138 : Int))) fun y0 =>
  iteP (within x0 (List.length x1)) (
  Option.bind (x1[Int.toNat x0]?) fun y1 =>
  iteP (y1 == 0) (
  Option.bind (F54_7465 N (decide (y0 > 10), x0, y0, x1, x2)) fun y2 =>
  Option.bind (f (IntKind.wrap .i64 (y2.1 + y2.2.1), y2.2.2.1, y2.2.2.2)) fun r => some r) (
  Option.bind (F54_7465 N (false, x0, y0, x1, x2)) fun y3 =>
  Option.bind (f (IntKind.wrap .i64 (y3.1 + y3.2.1), y3.2.2.1, y3.2.2.2)) fun r => some r)) (
  none)) (
  some (x2))
noncomputable def F54_58 (N : Nat) : Nat → P54_58 → Option R54_58
  | 0, _ => none
  | k + 1, x => B54_58 N (F54_58 N k) x
theorem C54_58_ok (N : Nat) (k : Nat) : CutAt Tryz.prog Tryz.f54 [] 58 (L54_58.cut (F54_58 N k)) :=
  L54_58.loopT ownT mix (tab54_ok N) Tryz.f54 [] (cuts := [(29863, L54_29863.cut (F54_29863 N)), (7465, L54_7465.cut (F54_7465 N))]) ⟨C54_29863_ok N N, C54_7465_ok N N, trivial⟩ (by decide +kernel) (by kernel_rfl) (B54_58 N) (F54_58 N) (fun _ => rfl) (fun _ _ => rfl) (fun f x => by kernel_rfl) k
@[reducible] def w54 : List SP := [⟨[.sl 0], [.row y0 96]⟩]
noncomputable def F54 (N : Nat) : ((List Int)) → Option ((List (Int × (Int × (Int × Unit)))))
  | x0 =>
  Option.bind (F54_58 N N ((0 : Int), x0, [])) fun y0 =>
  some (y0)
noncomputable def T54 (N : Nat) : Pk → Tr Pk := tellS s54 w54 (F54 N)
theorem T54_ok (N : Nat) : FOK Tryz.prog 54 (T54 N) :=
  (fn_ok2 ownT mix (tab54_ok N) Tryz.func54 s54 w54 [] (cuts := [(29863, L54_29863.cut (F54_29863 N)), (7465, L54_7465.cut (F54_7465 N)), (58, L54_58.cut (F54_58 N N))]) ⟨C54_29863_ok N N, C54_7465_ok N N, C54_58_ok N N, trivial⟩ (fun _ => by kernel_rfl) (by kernel_rfl) (F54 N) (fun x => by kernel_rfl))
@[reducible] def s58 : SP := ⟨[], []⟩
noncomputable def tab58 (N : Nat) : Tabs := []
theorem tab58_ok (N : Nat) : TabOK Tryz.prog (tab58 N) := trivial
@[reducible] def L58_58 : LD := ⟨58, [1, 2], [(.ret, [0]), (.exit 0, [1])], ⟨[.sl 0, .int .i64], [.row (.int .i64) 3]⟩, [(.exit 0, ⟨[.sl 0], [.row (.int .i64) 3]⟩)]⟩
abbrev P58_58 : Type := Int × (List Int)
abbrev R58_58 : Type := (List Int)
noncomputable def B58_58 (N : Nat) (f : P58_58 → Option R58_58) : P58_58 → Option R58_58
  | (x0, x1) =>
  iteP (decide (x0 < 8)) (
  iteP (decide ((List.length x1 + List.length [IntKind.wrap .i64 ((7 : Int) + x0), IntKind.wrap .i64 ((8 : Int) - x0)]) * 8 ≤ (140737488355328 : Nat) ∧ List.length x1 + List.length [IntKind.wrap .i64 ((7 : Int) + x0), IntKind.wrap .i64 ((8 : Int) - x0)] ≤ 140737488355328)) (
  Option.bind (f (IntKind.wrap .i64 (x0 + 1), x1 ++ [IntKind.wrap .i64 ((7 : Int) + x0), IntKind.wrap .i64 ((8 : Int) - x0)])) fun r => some r) (
  none)) (
  some (x1))
noncomputable def F58_58 (N : Nat) : Nat → P58_58 → Option R58_58
  | 0, _ => none
  | k + 1, x => B58_58 N (F58_58 N k) x
theorem C58_58_ok (N : Nat) (k : Nat) : CutAt Tryz.prog Tryz.f58 [] 58 (L58_58.cut (F58_58 N k)) :=
  L58_58.loopT ownT mix (tab58_ok N) Tryz.f58 [] (cuts := []) trivial (by decide +kernel) (by kernel_rfl) (B58_58 N) (F58_58 N) (fun _ => rfl) (fun _ _ => rfl) (fun f x => by kernel_rfl) k
@[reducible] def w58 : List SP := [⟨[.sl 0], [.row (.int .i64) 3]⟩]
noncomputable def F58 (N : Nat) : (Unit) → Option ((List Int))
  | () =>
  Option.bind (F58_58 N N ((1 : Int), [(16 : Int), (17 : Int), (18 : Int), (0 : Int)])) fun y0 =>
  iteP (decide ((List.length y0 + 1) * 8 ≤ (140737488355328 : Nat) ∧ List.length y0 + 1 ≤ (140737488355328 : Nat))) (
  some (y0 ++ [(15 : Int)])) (
  none)
noncomputable def T58 (N : Nat) : Pk → Tr Pk := tellS s58 w58 (F58 N)
theorem T58_ok (N : Nat) : FOK Tryz.prog 58 (T58 N) :=
  (fn_ok2 ownT mix (tab58_ok N) Tryz.func58 s58 w58 [] (cuts := [(58, L58_58.cut (F58_58 N N))]) ⟨C58_58_ok N N, trivial⟩ (fun _ => by kernel_rfl) (by kernel_rfl) (F58 N) (fun x => by kernel_rfl))
@[reducible] def s21 : SP := ⟨[.adr 0 [], .ro (.int .i64), .ro (.int .i64)], [.var (.agg [.sl 1, .int .i64, .int .i64]), .row (.int .u8) 5]⟩
noncomputable def tab21 (N : Nat) : Tabs := [(53, T53 N), (55, T55 N), (54, T54 N), (56, T56 N), (57, T57 N), (58, T58 N), (14, T14 N), (59, T59 N)]
theorem tab21_ok (N : Nat) : TabOK Tryz.prog (tab21 N) := ⟨T53_ok N, T55_ok N, T54_ok N, T56_ok N, T57_ok N, T58_ok N, T14_ok N, T59_ok N, trivial⟩
@[reducible] def L21_506 : LD := ⟨506, [58, 57, 1, 2, 8, 0, 56, 9], [(.ret, [6]), (.exit 0, [9, 0, 8, 2, 1])], ⟨[.int .i64, .int .i64, .ro (.int .i64), .ro (.int .i64), .sl 1, .adr 0 [], .sl 1, .sl 2], [.var (.agg [.sl 3, .int .i64, .int .i64]), .row y0 96, .row (.int .i64) 3, .row (.int .u8) 5]⟩, [(.exit 0, ⟨[.sl 1, .adr 0 [], .sl 2, .ro (.int .i64), .ro (.int .i64)], [.var (.agg [.sl 3, .int .i64, .int .i64]), .row (.int .i64) 3, .row y0 96, .row (.int .u8) 5]⟩)]⟩
abbrev P21_506 : Type := Int × Int × (List Int) × (List Int) × Int × Int × (List (Int × (Int × (Int × Unit)))) × (List Int) × (List Int)
abbrev R21_506 : Type := (List Int) × (List Int) × Int × Int × (List Int) × (List (Int × (Int × (Int × Unit)))) × (List Int)
noncomputable def B21_506 (N : Nat) (f : P21_506 → Option R21_506) : P21_506 → Option R21_506
  | (x0, x1, x2, x3, x4, x5, x6, x7, x8) =>
  iteP (decide (x0 < x1)) (
  iteP (within x0 (List.length x6)) (
  Option.bind (x6[Int.toNat x0]?) fun y0 =>
  iteP (within y0.1 (List.length x7)) (
  Option.bind (x7[Int.toNat y0.1]?) fun y1 =>
  iteP (within y0.1 (List.length x7)) (
  Option.bind (x7[Int.toNat y0.1]?) fun y2 =>
  Option.bind (f (IntKind.wrap .i64 (x0 + 1), x1, x2, x3, x4, x5, x6, List.set x7 (Int.toNat y0.1) (IntKind.wrap .i64 (y1 + 1)), x8)) fun r => some r) (
  none)) (
  none)) (
  none)) (
  some ((x3, x2, x4, x5, x7, x6, x8)))
noncomputable def F21_506 (N : Nat) : Nat → P21_506 → Option R21_506
  | 0, _ => none
  | k + 1, x => B21_506 N (F21_506 N k) x
theorem C21_506_ok (N : Nat) (k : Nat) : CutAt Tryz.prog Tryz.f21 [0] 506 (L21_506.cut (F21_506 N k)) :=
  L21_506.loopT ownT mix (tab21_ok N) Tryz.f21 [0] (cuts := []) trivial (by decide +kernel) (by kernel_rfl) (B21_506 N) (F21_506 N) (fun _ => rfl) (fun _ _ => rfl) (fun f x => by kernel_rfl) k
@[reducible] def L21_8188 : LD := ⟨8188, [17, 12, 0, 8, 14, 16, 2, 1], [(.ret, [6]), (.exit 2, [1, 2, 16, 17, 14, 8, 0, 12])], ⟨[.int .i64, .sl 1, .adr 0 [], .sl 2, .sl 3, .sl 4, .ro (.int .i64), .ro (.int .i64)], [.var (.agg [.sl 5, .int .i64, .int .i64]), .row (.int .i64) 3, .row y0 96, .row y2 105, .row (.int .i64) 3, .row (.int .u8) 5]⟩, [(.exit 2, ⟨[.ro (.int .i64), .ro (.int .i64), .sl 1, .int .i64, .sl 2, .sl 3, .adr 0 [], .sl 4], [.var (.agg [.sl 5, .int .i64, .int .i64]), .row (.int .i64) 3, .row y2 105, .row y0 96, .row (.int .i64) 3, .row (.int .u8) 5]⟩)]⟩
abbrev P21_8188 : Type := Int × (List Int) × (List Int) × Int × Int × (List Int) × (List (Int × (Int × (Int × Unit)))) × (List (Int × (Int × Unit))) × (List Int) × (List Int)
abbrev R21_8188 : Type := (List Int) × (List Int) × Int × Int × Int × (List Int) × (List (Int × (Int × Unit))) × (List (Int × (Int × (Int × Unit)))) × (List Int) × (List Int)
noncomputable def B21_8188 (N : Nat) (f : P21_8188 → Option R21_8188) : P21_8188 → Option R21_8188
  | (x0, x1, x2, x3, x4, x5, x6, x7, x8, x9) =>
  iteP (decide (x0 > 4)) (
  iteP (within (IntKind.wrap .i64 (x0 - 1)) (List.length x8)) (
  Option.bind (x8[Int.toNat (IntKind.wrap .i64 (x0 - 1))]?) fun y0 =>
  iteP (within y0 (List.length x5)) (
  Option.bind (x5[Int.toNat y0]?) fun y1 =>
  iteP (y1 == 0) (
  Option.bind (f (IntKind.wrap .i64 (x0 - 1), x1, x2, x3, x4, x5, x6, x7, x8, x9)) fun r => some r) (
  some ((x2, x1, x0, x3, x4, x8, x7, x6, x5, x9)))) (
  none)) (
  none)) (
  some ((x2, x1, x0, x3, x4, x8, x7, x6, x5, x9)))
noncomputable def F21_8188 (N : Nat) : Nat → P21_8188 → Option R21_8188
  | 0, _ => none
  | k + 1, x => B21_8188 N (F21_8188 N k) x
theorem C21_8188_ok (N : Nat) (k : Nat) : CutAt Tryz.prog Tryz.f21 [0] 8188 (L21_8188.cut (F21_8188 N k)) :=
  L21_8188.loopT ownT mix (tab21_ok N) Tryz.f21 [0] (cuts := [(506, L21_506.cut (F21_506 N N))]) ⟨C21_506_ok N N, trivial⟩ (by decide +kernel) (by kernel_rfl) (B21_8188 N) (F21_8188 N) (fun _ => rfl) (fun _ _ => rfl) (fun f x => by kernel_rfl) k
@[reducible] def L21_262138 : LD := ⟨262138, [116, 115, 14, 8, 114, 0, 12], [(.ret, [6]), (.exit 4, [8, 14, 0])], ⟨[.int .i64, .int .i64, .sl 1, .sl 2, .slp 3 (.c 0) .h, .adr 0 [], .sl 4], [.var (.agg [.sl 5, .int .i64, .int .i64]), .row y2 105, .row y0 96, .row (.int .i64) 3, .row (.int .i64) 3, .row (.int .u8) 5]⟩, [(.exit 4, ⟨[.sl 1, .sl 2, .adr 0 []], [.var (.agg [.sl 3, .int .i64, .int .i64]), .row y0 96, .row y2 105, .row (.int .u8) 5]⟩)]⟩
abbrev P21_262138 : Type := Int × Int × Nat × Int × Int × (List (Int × (Int × Unit))) × (List (Int × (Int × (Int × Unit)))) × (List Int) × (List Int) × (List Int)
abbrev R21_262138 : Type := Int × Int × (List (Int × (Int × (Int × Unit)))) × (List (Int × (Int × Unit))) × (List Int)
noncomputable def B21_262138 (N : Nat) (f : P21_262138 → Option R21_262138) : P21_262138 → Option R21_262138
  | (x0, x1, x2, x3, x4, x5, x6, x7, x8, x9) =>
  iteP (decide (x0 < x1)) (
  iteP (within x0 x2) (
  Option.bind (x7[(0 : Nat) + Int.toNat x0]?) fun y0 =>
  iteP (within y0 (List.length x8)) (
  Option.bind (x8[Int.toNat y0]?) fun y1 =>
  Option.bind (F14 N ((3 : Int), y1, x3, x4, x9)) fun y2 =>
  Option.bind (f (IntKind.wrap .i64 (x0 + 1), x1, x2, y2.1, y2.2.1, x5, x6, x7, x8, y2.2.2)) fun r => some r) (
  none)) (
  none)) (
  some ((x3, x4, x6, x5, x9)))
noncomputable def F21_262138 (N : Nat) : Nat → P21_262138 → Option R21_262138
  | 0, _ => none
  | k + 1, x => B21_262138 N (F21_262138 N k) x
theorem C21_262138_ok (N : Nat) (k : Nat) : CutAt Tryz.prog Tryz.f21 [0] 262138 (L21_262138.cut (F21_262138 N k)) :=
  L21_262138.loopT ownT mix (tab21_ok N) Tryz.f21 [0] (cuts := [(506, L21_506.cut (F21_506 N N)), (8188, L21_8188.cut (F21_8188 N N))]) ⟨C21_506_ok N N, C21_8188_ok N N, trivial⟩ (by decide +kernel) (by kernel_rfl) (B21_262138 N) (F21_262138 N) (fun _ => rfl) (fun _ _ => rfl) (fun f x => by kernel_rfl) k
@[reducible] def L21_524282 : LD := ⟨524282, [129, 128, 127, 14, 0], [(.ret, [6]), (.exit 6, [])], ⟨[.int .i64, .int .i64, .sl 1, .sl 2, .adr 0 []], [.var (.agg [.sl 3, .int .i64, .int .i64]), .row y0 96, .row y2 105, .row (.int .u8) 5]⟩, [(.exit 6, ⟨[], [.var (.agg [.sl 1, .int .i64, .int .i64]), .row (.int .u8) 5]⟩)]⟩
abbrev P21_524282 : Type := Int × Int × Int × Int × (List (Int × (Int × (Int × Unit)))) × (List (Int × (Int × Unit))) × (List Int)
abbrev R21_524282 : Type := Int × Int × (List Int)
noncomputable def B21_524282 (N : Nat) (f : P21_524282 → Option R21_524282) : P21_524282 → Option R21_524282
  | (x0, x1, x2, x3, x4, x5, x6) =>
  iteP (decide (x0 < x1)) (
  iteP (within x0 (List.length x4)) (
  Option.bind (x4[Int.toNat x0]?) fun y0 =>
  iteP (within y0.1 (List.length x5)) (
  Option.bind (x5[Int.toNat y0.1]?) fun y1 =>
  Option.bind (F59 N (y1.1, y1.2.1, x2, x3, x6)) fun y2 =>
  Option.bind (F14 N (y0.2.1, y0.2.2.1, y2.1, y2.2.1, y2.2.2)) fun y3 =>
  Option.bind (f (IntKind.wrap .i64 (x0 + 1), x1, y3.1, y3.2.1, x4, x5, y3.2.2)) fun r => some r) (
  none)) (
  none)) (
  some ((x2, x3, x6)))
noncomputable def F21_524282 (N : Nat) : Nat → P21_524282 → Option R21_524282
  | 0, _ => none
  | k + 1, x => B21_524282 N (F21_524282 N k) x
theorem C21_524282_ok (N : Nat) (k : Nat) : CutAt Tryz.prog Tryz.f21 [0] 524282 (L21_524282.cut (F21_524282 N k)) :=
  L21_524282.loopT ownT mix (tab21_ok N) Tryz.f21 [0] (cuts := [(506, L21_506.cut (F21_506 N N)), (8188, L21_8188.cut (F21_8188 N N)), (262138, L21_262138.cut (F21_262138 N N))]) ⟨C21_506_ok N N, C21_8188_ok N N, C21_262138_ok N N, trivial⟩ (by decide +kernel) (by kernel_rfl) (B21_524282 N) (F21_524282 N) (fun _ => rfl) (fun _ _ => rfl) (fun f x => by kernel_rfl) k
@[reducible] def L21_15 : LD := ⟨15, [1, 2, 0], [(.ret, [6]), (.normal, [6])], ⟨[.ro (.int .i64), .ro (.int .i64), .adr 0 []], [.var (.agg [.sl 1, .int .i64, .int .i64]), .row (.int .u8) 5]⟩, [(.ret, ⟨[.int .i64], [.var (.agg [.sl 1, .int .i64, .int .i64]), .row (.int .u8) 5]⟩)]⟩
noncomputable def F21_15 (N : Nat) : ((List Int) × (List Int) × Int × Int × (List Int)) → Option (Int × Int × Int × (List Int))
  | (x0, x1, x2, x3, x4) =>
  Option.bind (F55 N [x0, x1]) fun y0 =>
  Option.bind (F54 N y0) fun y1 =>
  Option.bind (F21_506 N N ((0 : Int), (↑(List.length y1) : Int), x0, x1, x2, x3, y1, List.replicate (19 : Nat) (0 : Int), x4)) fun y2 =>
  Option.bind (F56 N (y2.2.2.2.2.1, (7 : Int))) fun y3 =>
  Option.bind (F57 N y3.2) fun y4 =>
  Option.bind (F58 N ()) fun y5 =>
  Option.bind (F21_8188 N N ((↑(List.length y5) : Int), y2.1, y2.2.1, y2.2.2.1, y2.2.2.2.1, y3.2, y2.2.2.2.2.2.1, y4.2, y5, y2.2.2.2.2.2.2)) fun y6 =>
  Option.bind (F14 N ((5 : Int), IntKind.wrap .i64 ((↑(List.length y6.1) : Int) - (257 : Int)), y6.2.2.2.1, y6.2.2.2.2.1, y6.2.2.2.2.2.2.2.2.2)) fun y7 =>
  Option.bind (F14 N ((5 : Int), IntKind.wrap .i64 ((↑(List.length y6.2.1) : Int) - (1 : Int)), y7.1, y7.2.1, y7.2.2)) fun y8 =>
  Option.bind (F14 N ((4 : Int), IntKind.wrap .i64 (y6.2.2.1 - 4), y8.1, y8.2.1, y8.2.2)) fun y9 =>
  iteP (decide ((0 : Int) ≤ y6.2.2.1 ∧ y6.2.2.1 ≤ (↑(List.length y6.2.2.2.2.2.1) : Int))) (
  Option.bind (F21_262138 N N ((0 : Int), (↑(Int.toNat y6.2.2.1 - 0) : Int), Int.toNat y6.2.2.1 - 0, y9.1, y9.2.1, y6.2.2.2.2.2.2.1, y6.2.2.2.2.2.2.2.1, y6.2.2.2.2.2.1, y6.2.2.2.2.2.2.2.2.1, y9.2.2)) fun y10 =>
  Option.bind (F21_524282 N N ((0 : Int), (↑(List.length y10.2.2.1) : Int), y10.1, y10.2.1, y10.2.2.1, y10.2.2.2.1, y10.2.2.2.2)) fun y11 =>
  some (((0 : Int), y11.1, y11.2.1, y11.2.2))) (
  none)
theorem C21_15_ok (N : Nat) (k : Nat) : CutAt Tryz.prog Tryz.f21 [0] 15 (L21_15.cut (F21_15 N)) :=
  L21_15.pieceT ownT mix (tab21_ok N) Tryz.f21 [0] (cuts := [(506, L21_506.cut (F21_506 N N)), (8188, L21_8188.cut (F21_8188 N N)), (262138, L21_262138.cut (F21_262138 N N)), (524282, L21_524282.cut (F21_524282 N N))]) ⟨C21_506_ok N N, C21_8188_ok N N, C21_262138_ok N N, C21_524282_ok N N, trivial⟩ (by decide +kernel) (by kernel_rfl) (F21_15 N) (fun x => by kernel_rfl)
@[reducible] def w21 : List SP := [⟨[.int .i64], [.var (.agg [.sl 1, .int .i64, .int .i64]), .row (.int .u8) 5]⟩]
noncomputable def F21 (N : Nat) : ((List Int) × (List Int) × Int × Int × (List Int)) → Option (Int × Int × Int × (List Int))
  | (x0, x1, x2, x3, x4) =>
  iteP (decide ((↑(List.length x0) : Int) < (257 : Int))) (
  some (((1 : Int), x2, x3, x4))) (
  iteP (decide ((↑(List.length x0) : Int) > (286 : Int))) (
  some (((1 : Int), x2, x3, x4))) (
  iteP (decide ((↑(List.length x1) : Int) < (1 : Int))) (
  some (((1 : Int), x2, x3, x4))) (
  iteP (decide ((↑(List.length x1) : Int) > (30 : Int))) (
  some (((1 : Int), x2, x3, x4))) (
  Option.bind (F53a N x0) fun y0 =>
  iteP (y0) (
  some (((1 : Int), x2, x3, x4))) (
  Option.bind (F53a N x1) fun y1 =>
  iteP (y1) (
  some (((1 : Int), x2, x3, x4))) (
  Option.bind (F21_15 N (x0, x1, x2, x3, x4)) fun y2 =>
  some ((y2.1, y2.2.1, y2.2.2.1, y2.2.2.2))))))))
noncomputable def T21 (N : Nat) : Pk → Tr Pk := tellS s21 w21 (F21 N)
theorem T21_ok (N : Nat) : FOK Tryz.prog 21 (T21 N) :=
  (fn_ok2 ownT mix (tab21_ok N) Tryz.func21 s21 w21 [0] (cuts := [(506, L21_506.cut (F21_506 N N)), (8188, L21_8188.cut (F21_8188 N N)), (262138, L21_262138.cut (F21_262138 N N)), (524282, L21_524282.cut (F21_524282 N N)), (15, L21_15.cut (F21_15 N))]) ⟨C21_506_ok N N, C21_8188_ok N N, C21_262138_ok N N, C21_524282_ok N N, C21_15_ok N N, trivial⟩ (fun _ => by kernel_rfl) (by kernel_rfl) (F21 N) (fun x => by kernel_rfl))
@[reducible] def s26 : SP := ⟨[.adr 0 [], .ro y0, .bool, .bool], [.var (.agg [.sl 1, .int .i64, .int .i64]), .row (.int .u8) 5]⟩
noncomputable def tab26 (N : Nat) : Tabs := [(27, T27 N), (46, T46 N), (64, T64 N), (65, T65 N), (66, T66 N), (68, T68 N), (67, T67 N), (21, T21 N)]
theorem tab26_ok (N : Nat) : TabOK Tryz.prog (tab26 N) := ⟨T27_ok N, T46_ok N, T64_ok N, T65_ok N, T66_ok N, T68_ok N, T67_ok N, T21_ok N, trivial⟩
@[reducible] def L26_26 : LD := ⟨26, [19, 1, 0, 3, 2, 18, 20], [(.ret, [8]), (.exit 0, [2, 3, 0, 1])], ⟨[.int .i64, .ro y0, .adr 0 [], .bool, .bool, .ro y0, .int .i64], [.var (.agg [.sl 1, .int .i64, .int .i64]), .row (.int .u8) 5]⟩, [(.ret, ⟨[.int .i64], [.var (.agg [.sl 1, .int .i64, .int .i64]), .row (.int .u8) 5]⟩), (.exit 0, ⟨[.bool, .bool, .adr 0 [], .ro y0], [.var (.agg [.sl 1, .int .i64, .int .i64]), .row (.int .u8) 5]⟩)]⟩
abbrev P26_26 : Type := Int × (List (Int × (Int × (Int × Unit)))) × Bool × Bool × (List (Int × (Int × (Int × Unit)))) × Int × Int × Int × (List Int)
abbrev R26_26 : Type := ((Int × Int × Int × (List Int)) ⊕ (Bool × Bool × (List (Int × (Int × (Int × Unit)))) × Int × Int × (List Int)))
noncomputable def B26_26 (N : Nat) (f : P26_26 → Option R26_26) : P26_26 → Option R26_26
  | (x0, x1, x2, x3, x4, x5, x6, x7, x8) =>
  iteP (decide (x5 < x0)) (
  iteP (within x5 (List.length x4)) (
  Option.bind (x4[Int.toNat x5]?) fun y0 =>
  Option.bind (F27 N (y0.1, y0.2.1, y0.2.2.1)) fun y1 =>
  iteP (!y1) (
  some (.inl (((1 : Int), x6, x7, x8)))) (
  Option.bind (f (x0, x1, x2, x3, x4, IntKind.wrap .i64 (x5 + 1), x6, x7, x8)) fun r => match r with | .inl y => some (.inl y) | .inr y => some (.inr y))) (
  none)) (
  some (.inr ((x3, x2, x1, x6, x7, x8))))
noncomputable def F26_26 (N : Nat) : Nat → P26_26 → Option R26_26
  | 0, _ => none
  | k + 1, x => B26_26 N (F26_26 N k) x
theorem C26_26_ok (N : Nat) (k : Nat) : CutAt Tryz.prog Tryz.f26 [0] 26 (L26_26.cut (F26_26 N k)) :=
  L26_26.loopT ownT mix (tab26_ok N) Tryz.f26 [0] (cuts := []) trivial (by decide +kernel) (by kernel_rfl) (B26_26 N) (F26_26 N) (fun _ => rfl) (fun _ _ => rfl) (fun f x => by kernel_rfl) k
@[reducible] def w26 : List SP := [⟨[.int .i64], [.var (.agg [.sl 1, .int .i64, .int .i64]), .row (.int .u8) 5]⟩]
noncomputable def F26 (N : Nat) : ((List (Int × (Int × (Int × Unit)))) × Bool × Bool × Int × Int × (List Int)) → Option (Int × Int × Int × (List Int))
  | (x0, x1, x2, x3, x4, x5) =>
  Option.bind (F26_26 N N ((↑(List.length x0) : Int), x0, x2, x1, x0, (0 : Int), x3, x4, x5)) fun y0 =>
  match y0 with
  | .inl y1 =>
  some ((y1.1, y1.2.1, y1.2.2.1, y1.2.2.2))
  | .inr y1 =>
  iteP (!y1.1) (
  Option.bind (F46 N (y1.2.1, (1 : Int), y1.2.2.2.1, y1.2.2.2.2.1, y1.2.2.2.2.2)) fun y2 =>
  Option.bind (F64 N ()) fun y3 =>
  Option.bind (F65 N (y3.1, y3.2, y1.2.2.1, y2.1, y2.2.1, y2.2.2)) fun y4 =>
  some ((y4.1, y4.2.1, y4.2.2.1, y4.2.2.2))) (
  Option.bind (F66 N y1.2.2.1) fun y5 =>
  Option.bind (F68 N y5.1) fun y6 =>
  Option.bind (F67 N (y6, (257 : Int))) fun y7 =>
  Option.bind (F68 N y5.2) fun y8 =>
  Option.bind (F67 N (y8, (1 : Int))) fun y9 =>
  Option.bind (F46 N (y1.2.1, (2 : Int), y1.2.2.2.1, y1.2.2.2.2.1, y1.2.2.2.2.2)) fun y10 =>
  Option.bind (F21 N (y7, y9, y10.1, y10.2.1, y10.2.2)) fun y11 =>
  iteP (y11.1 != 0) (
  some ((y11.1, y11.2.1, y11.2.2.1, y11.2.2.2))) (
  Option.bind (F65 N (y7, y9, y1.2.2.1, y11.2.1, y11.2.2.1, y11.2.2.2)) fun y12 =>
  some ((y12.1, y12.2.1, y12.2.2.1, y12.2.2.2))))
noncomputable def T26 (N : Nat) : Pk → Tr Pk := tellS s26 w26 (F26 N)
theorem T26_ok (N : Nat) : FOK Tryz.prog 26 (T26 N) :=
  (fn_ok2 ownT mix (tab26_ok N) Tryz.func26 s26 w26 [0] (cuts := [(26, L26_26.cut (F26_26 N N))]) ⟨C26_26_ok N N, trivial⟩ (fun _ => by kernel_rfl) (by kernel_rfl) (F26 N) (fun x => by kernel_rfl))
noncomputable def tab160 (N : Nat) : Tabs := [(26, T26 N)]
theorem tab160_ok (N : Nat) : TabOK Tryz.prog (tab160 N) := ⟨T26_ok N, trivial⟩
noncomputable def T160 (N : Nat) : Pk → Tr Pk := inlT (mkE Tryz.prog ownT (tab160 N) []) Tryz.f160
theorem T160_ok (N : Nat) : FOK Tryz.prog 160 (T160 N) :=
  inl_ok (E := mkE Tryz.prog ownT (tab160 N) []) (mkE_ok mix (tab160_ok N)) Tryz.func160 (show Tryz.f160.body = some (bod Tryz.f160) by kernel_rfl) (by decide +kernel) (fun _ => cutsIn_ok trivial)
noncomputable def tab138 (N : Nat) : Tabs := [(18, T18 N), (160, T160 N)]
theorem tab138_ok (N : Nat) : TabOK Tryz.prog (tab138 N) := ⟨T18_ok N, T160_ok N, trivial⟩
noncomputable def T138 (N : Nat) : Pk → Tr Pk := inlT (mkE Tryz.prog ownT (tab138 N) []) Tryz.f138
theorem T138_ok (N : Nat) : FOK Tryz.prog 138 (T138 N) :=
  inl_ok (E := mkE Tryz.prog ownT (tab138 N) []) (mkE_ok mix (tab138_ok N)) Tryz.func138 (show Tryz.f138.body = some (bod Tryz.f138) by kernel_rfl) (by decide +kernel) (fun _ => cutsIn_ok trivial)
noncomputable def tab137 (N : Nat) : Tabs := []
theorem tab137_ok (N : Nat) : TabOK Tryz.prog (tab137 N) := trivial
noncomputable def T137 (N : Nat) : Pk → Tr Pk := inlT (mkE Tryz.prog ownT (tab137 N) []) Tryz.f137
theorem T137_ok (N : Nat) : FOK Tryz.prog 137 (T137 N) :=
  inl_ok (E := mkE Tryz.prog ownT (tab137 N) []) (mkE_ok mix (tab137_ok N)) Tryz.func137 (show Tryz.f137.body = some (bod Tryz.f137) by kernel_rfl) (by decide +kernel) (fun _ => cutsIn_ok trivial)
noncomputable def tab136 (N : Nat) : Tabs := [(15, T15 N)]
theorem tab136_ok (N : Nat) : TabOK Tryz.prog (tab136 N) := ⟨T15_ok N, trivial⟩
noncomputable def T136 (N : Nat) : Pk → Tr Pk := inlT (mkE Tryz.prog ownT (tab136 N) []) Tryz.f136
theorem T136_ok (N : Nat) : FOK Tryz.prog 136 (T136 N) :=
  inl_ok (E := mkE Tryz.prog ownT (tab136 N) []) (mkE_ok mix (tab136_ok N)) Tryz.func136 (show Tryz.f136.body = some (bod Tryz.f136) by kernel_rfl) (by decide +kernel) (fun _ => cutsIn_ok trivial)
@[reducible] def s111 : SP := ⟨[.adr 0 [], .ro y0, .str, .bool], [.var (.agg [.sl 1, .int .i64, .int .i64]), .row (.int .u8) 5]⟩
noncomputable def tab111 (N : Nat) : Tabs := [(138, T138 N), (137, T137 N), (136, T136 N), (160, T160 N)]
theorem tab111_ok (N : Nat) : TabOK Tryz.prog (tab111 N) := ⟨T138_ok N, T137_ok N, T136_ok N, T160_ok N, trivial⟩
@[reducible] def w111 : List SP := [⟨[.tup []], [.var (.agg [.sl 1, .int .i64, .int .i64]), .row (.int .u8) 5]⟩]
noncomputable def F111 (N : Nat) : ((List (Int × (Int × (Int × Unit)))) × ByteArray × Bool × Int × Int × (List Int)) → Option (Int × Int × (List Int))
  | (x0, x1, x2, x3, x4, x5) =>
  Option.bind (F26 N (x0, false, x2, (0 : Int), (0 : Int), [])) fun y0 =>
  Option.bind (F18 N (y0.2.2.2, y0.2.1, y0.2.2.1, ())) fun y1 =>
  Option.bind (F26 N (x0, true, x2, (0 : Int), (0 : Int), [])) fun y2 =>
  Option.bind (F18 N (y2.2.2.2, y2.2.1, y2.2.2.1, ())) fun y3 =>
  iteP (decide (y3 < y1)) (
  iteP (decide (y3 < IntKind.wrap .i64 (IntKind.wrap .i64 ((8 : Int) * (↑(ByteArray.size x1) : Int)) + IntKind.wrap .i64 ((40 : Int) * IntKind.wrap .i64 ((1 : Int) + IntKind.wrap .i64 (Int.tdiv (↑(ByteArray.size x1) : Int) (65535 : Int))))))) (
  Option.bind (F26 N (x0, true, x2, x3, x4, x5)) fun y4 =>
  some ((y4.2.1, y4.2.2.1, y4.2.2.2))) (
  Option.bind (F15 N (x1, x2, x3, x4, x5)) fun y5 =>
  some ((y5.1, y5.2.1, y5.2.2)))) (
  iteP (decide (y1 < IntKind.wrap .i64 (IntKind.wrap .i64 ((8 : Int) * (↑(ByteArray.size x1) : Int)) + IntKind.wrap .i64 ((40 : Int) * IntKind.wrap .i64 ((1 : Int) + IntKind.wrap .i64 (Int.tdiv (↑(ByteArray.size x1) : Int) (65535 : Int))))))) (
  Option.bind (F26 N (x0, false, x2, x3, x4, x5)) fun y6 =>
  some ((y6.2.1, y6.2.2.1, y6.2.2.2))) (
  Option.bind (F15 N (x1, x2, x3, x4, x5)) fun y7 =>
  some ((y7.1, y7.2.1, y7.2.2))))
noncomputable def T111 (N : Nat) : Pk → Tr Pk := tellS s111 w111 (F111 N)
theorem T111_ok (N : Nat) : FOK Tryz.prog 111 (T111 N) :=
  (fn_ok2 ownT mix (tab111_ok N) Tryz.func111 s111 w111 [0] (cuts := []) trivial (fun _ => by kernel_rfl) (by kernel_rfl) (F111 N) (fun x => by kernel_rfl))
end Go.Proofs.YteddgkplkjldcaaGreat.Am
