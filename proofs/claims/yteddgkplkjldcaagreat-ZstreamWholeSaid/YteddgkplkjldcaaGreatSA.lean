/- The seat's Go functions come to the Lean functions written here, wherever these give an answer (part A). -/
import Derived.Test.YteddgkplkjldcaaGreatAmC
import Derived.KernelRfl
import Derived.Test.YteddgkplkjldcaaGreatProg
set_option linter.unusedSimpArgs false
set_option linter.unusedVariables false
set_option maxRecDepth 100000
namespace Go.Proofs.YteddgkplkjldcaaGreat.Am
open Go.Am
theorem aA : Tryz.prog.follows .mixedOrders = true := by kernel_rfl
def ai : FuncId → List Nat := ad6 [(16, [1, 0, 0]), (18, [2]), (19, [2]), (43, [2]), (49, [1]), (79, [2]), (86, [2]), (89, [2, 0, 0]), (92, [3, 0]), (101, [1, 0, 0]), (113, [2]), (121, [2]), (124, [1]), (125, [4, 0]), (133, [2]), (136, [0, 5, 5]), (137, [1, 1]), (140, [2]), (144, [4]), (153, [3, 0]), (154, [4, 0, 0]), (160, [0, 5, 5, 5]), (161, [2]), (162, [2]), (168, [4, 0, 0, 0]), (169, [4, 0, 0, 0, 0]), (173, [4, 0, 0, 0, 0]), (174, [4, 0, 0, 0, 0])]
@[reducible] def s44 : SP := ⟨[.int .i64], []⟩
noncomputable def aa2 (N : Nat) : av := []
theorem OS (N : Nat) : aj Tryz.prog (aa2 N) := trivial
@[reducible] def w44 : List SP := [⟨[.int .i64], []⟩]
noncomputable def Zb (N : Nat) : (Int) → Option (Int)
  | x0 =>
  some (if (32 : Int) < if (0 : Int) > x0 then (0 : Int) else x0 then (32 : Int) else if (0 : Int) > x0 then (0 : Int) else x0)
noncomputable def T44 (N : Nat) : Pk → Tr Pk := ak s44 w44 (Zb N)
theorem HU (N : Nat) : aO Tryz.prog 44 (T44 N) :=
  (ah ai aA (OS N) Tryz.func44 s44 w44 [] (cuts := []) trivial (fun _ => by kernel_rfl) (by kernel_rfl) (Zb N) (fun x => by kernel_rfl))
@[reducible] def s45 : SP := ⟨[.int .i64, .int .i64], []⟩
noncomputable def aa1 (N : Nat) : av := []
theorem OR (N : Nat) : aj Tryz.prog (aa1 N) := trivial
@[reducible] def w45 : List SP := [⟨[.int .i64], []⟩]
noncomputable def F45 (N : Nat) : (Int × Int) → Option (Int)
  | (x0, x1) =>
  ac (decide (x0 < 0)) (
  none) (
  some (IntKind.wrap .i64 (↑(BitVec.toNat (BitVec.ofInt (64 : Nat) x1 &&& BitVec.ofInt (64 : Nat) (IntKind.wrap .i64 (IntKind.wrap .i64 ((1 : Int) * (2 : Int) ^ min (Int.toNat x0) (64 : Nat)) - 1)))) : Int)))
noncomputable def T45 (N : Nat) : Pk → Tr Pk := ak s45 w45 (F45 N)
theorem Rp (N : Nat) : aO Tryz.prog 45 (T45 N) :=
  (ah ai aA (OR N) Tryz.func45 s45 w45 [] (cuts := []) trivial (fun _ => by kernel_rfl) (by kernel_rfl) (F45 N) (fun x => by kernel_rfl))
@[reducible] def s14 : SP := ⟨[.adr 0 [], .int .i64, .int .i64], [.var (.agg [.sl 1, .int .i64, .int .i64]), .row (.int .u8) 5]⟩
noncomputable def ac6 (N : Nat) : av := [(44, T44 N), (45, T45 N)]
theorem EC (N : Nat) : aj Tryz.prog (ac6 N) := ⟨HU N, Rp N, trivial⟩
@[reducible] def IQ : LD := ⟨30, [0], [(.ret, []), (.exit 0, [])], ⟨[.adr 0 []], [.var (.agg [.sl 1, .int .i64, .int .i64]), .row (.int .u8) 5]⟩, [(.exit 0, ⟨[], [.var (.agg [.sl 1, .int .i64, .int .i64]), .row (.int .u8) 5]⟩)]⟩
abbrev Ix : Type := Int × Int × (List Int)
abbrev Ic : Type := Int × Int × (List Int)
noncomputable def JG (N : Nat) (f : Ix → Option Ic) : Ix → Option Ic
  | (x0, x1, x2) =>
  ac (decide (x1 ≥ 8)) (
  ac (decide ((List.length x2 + List.length [IntKind.wrap .u8 x0]) * 1 ≤ (140737488355328 : Nat) ∧ List.length x2 + List.length [IntKind.wrap .u8 x0] ≤ 140737488355328)) (
  Option.bind (f (Int.fdiv x0 (256 : Int), IntKind.wrap .i64 (x1 - 8), x2 ++ [IntKind.wrap .u8 x0])) fun r => some r) (
  none)) (
  some ((x0, x1, x2)))
noncomputable def pf (N : Nat) : Nat → Ix → Option Ic
  | 0, _ => none
  | k + 1, x => JG N (pf N k) x
theorem NU (N : Nat) (k : Nat) : ar Tryz.prog Tryz.f14 [0] 30 (IQ.cut (pf N k)) :=
  IQ.loopT ai aA (EC N) Tryz.f14 [0] (cuts := []) trivial (by decide +kernel) (by kernel_rfl) (JG N) (pf N) (fun _ => rfl) (fun _ _ => rfl) (fun f x => by kernel_rfl) k
@[reducible] def w14 : List SP := [⟨[.tup []], [.var (.agg [.sl 1, .int .i64, .int .i64]), .row (.int .u8) 5]⟩]
noncomputable def yk (N : Nat) : (Int × Int × Int × Int × (List Int)) → Option (Int × Int × (List Int))
  | (x0, x1, x2, x3, x4) =>
  Option.bind (Zb N x0) fun y0 =>
  Option.bind (F45 N (y0, x1)) fun y1 =>
  ac (decide (x3 < 0)) (
  none) (
  Option.bind (pf N N (IntKind.wrap .i64 (↑(BitVec.toNat (BitVec.ofInt (64 : Nat) x2 ||| BitVec.ofInt (64 : Nat) (IntKind.wrap .i64 (y1 * 2 ^ min (Int.toNat x3) (64 : Nat))))) : Int), IntKind.wrap .i64 (x3 + y0), x4)) fun y2 =>
  some ((y2.1, y2.2.1, y2.2.2)))
noncomputable def Yt (N : Nat) : Pk → Tr Pk := ak s14 w14 (yk N)
theorem rD (N : Nat) : aO Tryz.prog 14 (Yt N) :=
  (ah ai aA (EC N) Tryz.func14 s14 w14 [0] (cuts := [(30, IQ.cut (pf N N))]) ⟨NU N N, trivial⟩ (fun _ => by kernel_rfl) (by kernel_rfl) (yk N) (fun x => by kernel_rfl))
@[reducible] def s46 : SP := ⟨[.adr 0 [], .bool, .int .i64], [.var (.agg [.sl 1, .int .i64, .int .i64]), .row (.int .u8) 5]⟩
noncomputable def aa0 (N : Nat) : av := [(14, Yt N)]
theorem OQ (N : Nat) : aj Tryz.prog (aa0 N) := ⟨rD N, trivial⟩
@[reducible] def w46 : List SP := [⟨[.tup []], [.var (.agg [.sl 1, .int .i64, .int .i64]), .row (.int .u8) 5]⟩]
noncomputable def RX (N : Nat) : (Bool × Int × Int × Int × (List Int)) → Option (Int × Int × (List Int))
  | (x0, x1, x2, x3, x4) =>
  ac (x0) (
  Option.bind (yk N ((1 : Int), (1 : Int), x2, x3, x4)) fun y0 =>
  Option.bind (yk N ((2 : Int), x1, y0.1, y0.2.1, y0.2.2)) fun y1 =>
  some ((y1.1, y1.2.1, y1.2.2))) (
  Option.bind (yk N ((1 : Int), (0 : Int), x2, x3, x4)) fun y2 =>
  Option.bind (yk N ((2 : Int), x1, y2.1, y2.2.1, y2.2.2)) fun y3 =>
  some ((y3.1, y3.2.1, y3.2.2)))
noncomputable def T46 (N : Nat) : Pk → Tr Pk := ak s46 w46 (RX N)
theorem Ro (N : Nat) : aO Tryz.prog 46 (T46 N) :=
  (ah ai aA (OQ N) Tryz.func46 s46 w46 [0] (cuts := []) trivial (fun _ => by kernel_rfl) (by kernel_rfl) (RX N) (fun x => by kernel_rfl))
@[reducible] def s47 : SP := ⟨[.adr 0 []], [.var (.agg [.sl 1, .int .i64, .int .i64]), .row (.int .u8) 5]⟩
noncomputable def Z9 (N : Nat) : av := [(14, Yt N)]
theorem OP (N : Nat) : aj Tryz.prog (Z9 N) := ⟨rD N, trivial⟩
@[reducible] def w47 : List SP := [⟨[.tup []], [.var (.agg [.sl 1, .int .i64, .int .i64]), .row (.int .u8) 5]⟩]
noncomputable def V7 (N : Nat) : (Int × Int × (List Int)) → Option (Int × Int × (List Int))
  | (x0, x1, x2) =>
  Option.bind (yk N (Int.tmod (IntKind.wrap .i64 ((8 : Int) - x1)) (8 : Int), (0 : Int), x0, x1, x2)) fun y0 =>
  some ((y0.1, y0.2.1, y0.2.2))
noncomputable def T47 (N : Nat) : Pk → Tr Pk := ak s47 w47 (V7 N)
theorem Rn (N : Nat) : aO Tryz.prog 47 (T47 N) :=
  (ah ai aA (OP N) Tryz.func47 s47 w47 [0] (cuts := []) trivial (fun _ => by kernel_rfl) (by kernel_rfl) (V7 N) (fun x => by kernel_rfl))
@[reducible] def s48 : SP := ⟨[.adr 0 [], .str], [.var (.agg [.sl 1, .int .i64, .int .i64]), .row (.int .u8) 5]⟩
noncomputable def Z8 (N : Nat) : av := [(47, T47 N)]
theorem OO (N : Nat) : aj Tryz.prog (Z8 N) := ⟨Rn N, trivial⟩
@[reducible] def w48 : List SP := [⟨[.tup []], [.var (.agg [.sl 1, .int .i64, .int .i64]), .row (.int .u8) 5]⟩]
noncomputable def YH (N : Nat) : (ByteArray × Int × Int × (List Int)) → Option (Int × Int × (List Int))
  | (x0, x1, x2, x3) =>
  Option.bind (V7 N (x1, x2, x3)) fun y0 =>
  ac (decide ((List.length y0.2.2 + List.length (bytesOf x0)) * 1 ≤ (140737488355328 : Nat) ∧ List.length y0.2.2 + List.length (bytesOf x0) ≤ 140737488355328)) (
  some ((y0.1, y0.2.1, y0.2.2 ++ bytesOf x0))) (
  none)
noncomputable def T48 (N : Nat) : Pk → Tr Pk := ak s48 w48 (YH N)
theorem X5 (N : Nat) : aO Tryz.prog 48 (T48 N) :=
  (ah ai aA (OO N) Tryz.func48 s48 w48 [0] (cuts := []) trivial (fun _ => by kernel_rfl) (by kernel_rfl) (YH N) (fun x => by kernel_rfl))
@[reducible] def s15 : SP := ⟨[.adr 0 [], .str, .bool], [.var (.agg [.sl 1, .int .i64, .int .i64]), .row (.int .u8) 5]⟩
noncomputable def ac5 (N : Nat) : av := [(46, T46 N), (47, T47 N), (14, Yt N), (48, T48 N)]
theorem EB (N : Nat) : aj Tryz.prog (ac5 N) := ⟨Ro N, Rn N, rD N, X5 N, trivial⟩
@[reducible] def Rw : LD := ⟨2, [1, 2, 0], [(.ret, []), (.exit 0, [])], ⟨[.str, .bool, .adr 0 []], [.var (.agg [.sl 1, .int .i64, .int .i64]), .row (.int .u8) 5]⟩, [(.ret, ⟨[], [.var (.agg [.sl 1, .int .i64, .int .i64]), .row (.int .u8) 5]⟩)]⟩
abbrev Rv : Type := ByteArray × Bool × Int × Int × (List Int)
abbrev Ru : Type := Int × Int × (List Int)
noncomputable def KI (N : Nat) (f : Rv → Option Ru) : Rv → Option Ru
  | (x0, x1, x2, x3, x4) =>
  ac (x1) (
  Option.bind (RX N ((if (65535 : Int) < (↑(ByteArray.size x0) : Int) then (65535 : Int) else (↑(ByteArray.size x0) : Int)) == (↑(ByteArray.size x0) : Int), (0 : Int), x2, x3, x4)) fun y0 =>
  Option.bind (V7 N (y0.1, y0.2.1, y0.2.2)) fun y1 =>
  Option.bind (yk N ((16 : Int), if (65535 : Int) < (↑(ByteArray.size x0) : Int) then (65535 : Int) else (↑(ByteArray.size x0) : Int), y1.1, y1.2.1, y1.2.2)) fun y2 =>
  Option.bind (yk N ((16 : Int), IntKind.wrap .i64 (↑(BitVec.toNat (BitVec.ofInt (64 : Nat) (if (65535 : Int) < (↑(ByteArray.size x0) : Int) then (65535 : Int) else (↑(ByteArray.size x0) : Int)) ^^^ BitVec.ofInt (64 : Nat) (65535 : Int))) : Int), y2.1, y2.2.1, y2.2.2)) fun y3 =>
  ac (decide (((0 : Int) ≤ if (65535 : Int) < (↑(ByteArray.size x0) : Int) then (65535 : Int) else (↑(ByteArray.size x0) : Int)) ∧ (if (65535 : Int) < (↑(ByteArray.size x0) : Int) then (65535 : Int) else (↑(ByteArray.size x0) : Int)) ≤ (↑(ByteArray.size x0) : Int))) (
  Option.bind (YH N (ByteArray.extract x0 (0 : Nat) (Int.toNat (if (65535 : Int) < (↑(ByteArray.size x0) : Int) then (65535 : Int) else (↑(ByteArray.size x0) : Int))), y3.1, y3.2.1, y3.2.2)) fun y4 =>
  ac (decide (((0 : Int) ≤ if (65535 : Int) < (↑(ByteArray.size x0) : Int) then (65535 : Int) else (↑(ByteArray.size x0) : Int)) ∧ (if (65535 : Int) < (↑(ByteArray.size x0) : Int) then (65535 : Int) else (↑(ByteArray.size x0) : Int)) ≤ (↑(ByteArray.size x0) : Int))) (
  ac (ByteArray.toList (ByteArray.extract x0 (Int.toNat (if (65535 : Int) < (↑(ByteArray.size x0) : Int) then (65535 : Int) else (↑(ByteArray.size x0) : Int))) (ByteArray.size x0)) == []) (
  some ((y4.1, y4.2.1, y4.2.2))) (
  Option.bind (f (ByteArray.extract x0 (Int.toNat (if (65535 : Int) < (↑(ByteArray.size x0) : Int) then (65535 : Int) else (↑(ByteArray.size x0) : Int))) (ByteArray.size x0), x1, y4.1, y4.2.1, y4.2.2)) fun r => some r)) (
  none)) (
  none)) (
  Option.bind (RX N (false, (0 : Int), x2, x3, x4)) fun y5 =>
  Option.bind (V7 N (y5.1, y5.2.1, y5.2.2)) fun y6 =>
  Option.bind (yk N ((16 : Int), if (65535 : Int) < (↑(ByteArray.size x0) : Int) then (65535 : Int) else (↑(ByteArray.size x0) : Int), y6.1, y6.2.1, y6.2.2)) fun y7 =>
  Option.bind (yk N ((16 : Int), IntKind.wrap .i64 (↑(BitVec.toNat (BitVec.ofInt (64 : Nat) (if (65535 : Int) < (↑(ByteArray.size x0) : Int) then (65535 : Int) else (↑(ByteArray.size x0) : Int)) ^^^ BitVec.ofInt (64 : Nat) (65535 : Int))) : Int), y7.1, y7.2.1, y7.2.2)) fun y8 =>
  ac (decide (((0 : Int) ≤ if (65535 : Int) < (↑(ByteArray.size x0) : Int) then (65535 : Int) else (↑(ByteArray.size x0) : Int)) ∧ (if (65535 : Int) < (↑(ByteArray.size x0) : Int) then (65535 : Int) else (↑(ByteArray.size x0) : Int)) ≤ (↑(ByteArray.size x0) : Int))) (
  Option.bind (YH N (ByteArray.extract x0 (0 : Nat) (Int.toNat (if (65535 : Int) < (↑(ByteArray.size x0) : Int) then (65535 : Int) else (↑(ByteArray.size x0) : Int))), y8.1, y8.2.1, y8.2.2)) fun y9 =>
  ac (decide (((0 : Int) ≤ if (65535 : Int) < (↑(ByteArray.size x0) : Int) then (65535 : Int) else (↑(ByteArray.size x0) : Int)) ∧ (if (65535 : Int) < (↑(ByteArray.size x0) : Int) then (65535 : Int) else (↑(ByteArray.size x0) : Int)) ≤ (↑(ByteArray.size x0) : Int))) (
  ac (ByteArray.toList (ByteArray.extract x0 (Int.toNat (if (65535 : Int) < (↑(ByteArray.size x0) : Int) then (65535 : Int) else (↑(ByteArray.size x0) : Int))) (ByteArray.size x0)) == []) (
  some ((y9.1, y9.2.1, y9.2.2))) (
  Option.bind (f (ByteArray.extract x0 (Int.toNat (if (65535 : Int) < (↑(ByteArray.size x0) : Int) then (65535 : Int) else (↑(ByteArray.size x0) : Int))) (ByteArray.size x0), x1, y9.1, y9.2.1, y9.2.2)) fun r => some r)) (
  none)) (
  none))
noncomputable def yh (N : Nat) : Nat → Rv → Option Ru
  | 0, _ => none
  | k + 1, x => KI N (yh N k) x
theorem SR (N : Nat) (k : Nat) : ar Tryz.prog Tryz.f15 [0] 2 (Rw.cut (yh N k)) :=
  Rw.loopT ai aA (EB N) Tryz.f15 [0] (cuts := []) trivial (by decide +kernel) (by kernel_rfl) (KI N) (yh N) (fun _ => rfl) (fun _ _ => rfl) (fun f x => by kernel_rfl) k
@[reducible] def w15 : List SP := [⟨[.tup []], [.var (.agg [.sl 1, .int .i64, .int .i64]), .row (.int .u8) 5]⟩]
noncomputable def Wa (N : Nat) : (ByteArray × Bool × Int × Int × (List Int)) → Option (Int × Int × (List Int))
  | (x0, x1, x2, x3, x4) =>
  Option.bind (yh N N (x0, x1, x2, x3, x4)) fun y0 =>
  some ((y0.1, y0.2.1, y0.2.2))
noncomputable def T15 (N : Nat) : Pk → Tr Pk := ak s15 w15 (Wa N)
theorem Rt (N : Nat) : aO Tryz.prog 15 (T15 N) :=
  (ah ai aA (EB N) Tryz.func15 s15 w15 [0] (cuts := [(2, Rw.cut (yh N N))]) ⟨SR N N, trivial⟩ (fun _ => by kernel_rfl) (by kernel_rfl) (Wa N) (fun x => by kernel_rfl))
@[reducible] def s88 : SP := ⟨[.str], []⟩
noncomputable def Zw (N : Nat) : av := []
theorem Ot (N : Nat) : aj Tryz.prog (Zw N) := trivial
@[reducible] def w88 : List SP := [⟨[.str], []⟩]
noncomputable def RI (N : Nat) : (ByteArray) → Option (ByteArray)
  | x0 =>
  ac (decide (((0 : Int) ≤ if (0 : Int) > IntKind.wrap .i64 ((↑(ByteArray.size x0) : Int) - (32768 : Int)) then (0 : Int) else IntKind.wrap .i64 ((↑(ByteArray.size x0) : Int) - (32768 : Int))) ∧ (if (0 : Int) > IntKind.wrap .i64 ((↑(ByteArray.size x0) : Int) - (32768 : Int)) then (0 : Int) else IntKind.wrap .i64 ((↑(ByteArray.size x0) : Int) - (32768 : Int))) ≤ (↑(ByteArray.size x0) : Int))) (
  some (ByteArray.extract x0 (Int.toNat (if (0 : Int) > IntKind.wrap .i64 ((↑(ByteArray.size x0) : Int) - (32768 : Int)) then (0 : Int) else IntKind.wrap .i64 ((↑(ByteArray.size x0) : Int) - (32768 : Int)))) (ByteArray.size x0))) (
  none)
noncomputable def YY (N : Nat) : Pk → Tr Pk := ak s88 w88 (RI N)
theorem wj (N : Nat) : aO Tryz.prog 88 (YY N) :=
  (ah ai aA (Ot N) Tryz.func88 s88 w88 [] (cuts := []) trivial (fun _ => by kernel_rfl) (by kernel_rfl) (RI N) (fun x => by kernel_rfl))
@[reducible] def s134 : SP := ⟨[.adr 0 [], .int .i64], [.var (.agg [.str, .mp 1, .sl 2]), .map (.str) (.int .i64), .row (.int .i64) 3]⟩
noncomputable def WJ (N : Nat) : av := []
theorem Lo (N : Nat) : aj Tryz.prog (WJ N) := trivial
@[reducible] def w134 : List SP := [⟨[.tup []], [.var (.agg [.str, .mp 1, .sl 2]), .map (.str) (.int .i64), .row (.int .i64) 3]⟩]
noncomputable def No (N : Nat) : (Int × ByteArray × (List (ByteArray × Int)) × (List Int)) → Option (ByteArray × (List (ByteArray × Int)) × (List Int))
  | (x0, x1, x2, x3) =>
  ac (decide (IntKind.wrap .i64 (x0 + 3) ≤ (↑(ByteArray.size x1) : Int))) (
  ac (decide ((0 : Int) ≤ IntKind.wrap .i64 (x0 + 3) ∧ IntKind.wrap .i64 (x0 + 3) ≤ (↑(ByteArray.size x1) : Int))) (
  ac (decide ((0 : Int) ≤ x0 ∧ x0 ≤ (↑(Int.toNat (IntKind.wrap .i64 (x0 + 3))) : Int))) (
  ac (ij Ty.str (ByteArray.extract x1 (Int.toNat x0) (Int.toNat (IntKind.wrap .i64 (x0 + 3)))) x2) (
  ac (decide ((List.length x3 + List.length [gh Ty.str (ByteArray.extract x1 (Int.toNat x0) (Int.toNat (IntKind.wrap .i64 (x0 + 3)))) (0 : Int) x2]) * 8 ≤ (140737488355328 : Nat) ∧ List.length x3 + List.length [gh Ty.str (ByteArray.extract x1 (Int.toNat x0) (Int.toNat (IntKind.wrap .i64 (x0 + 3)))) (0 : Int) x2] ≤ 140737488355328)) (
  some ((x1, dW Ty.str (ByteArray.extract x1 (Int.toNat x0) (Int.toNat (IntKind.wrap .i64 (x0 + 3)))) x0 x2, x3 ++ [gh Ty.str (ByteArray.extract x1 (Int.toNat x0) (Int.toNat (IntKind.wrap .i64 (x0 + 3)))) (0 : Int) x2]))) (
  none)) (
  ac (decide ((List.length x3 + 1) * 8 ≤ (140737488355328 : Nat) ∧ List.length x3 + 1 ≤ (140737488355328 : Nat))) (
  some ((x1, dW Ty.str (ByteArray.extract x1 (Int.toNat x0) (Int.toNat (IntKind.wrap .i64 (x0 + 3)))) x0 x2, x3 ++ [(-1 : Int)]))) (
  none))) (
  none)) (
  none)) (
  ac (decide ((List.length x3 + 1) * 8 ≤ (140737488355328 : Nat) ∧ List.length x3 + 1 ≤ (140737488355328 : Nat))) (
  some ((x1, x2, x3 ++ [(-1 : Int)]))) (
  none))
noncomputable def ak0 (N : Nat) : Pk → Tr Pk := ak s134 w134 (No N)
theorem UG (N : Nat) : aO Tryz.prog 134 (ak0 N) :=
  (ah ai aA (Lo N) Tryz.func134 s134 w134 [0] (cuts := []) trivial (fun _ => by kernel_rfl) (by kernel_rfl) (No N) (fun x => by kernel_rfl))
@[reducible] def s159 : SP := ⟨[.adr 0 [], .int .i64, .int .i64], [.var (.agg [.str, .mp 1, .sl 2]), .map (.str) (.int .i64), .row (.int .i64) 3]⟩
noncomputable def Wn (N : Nat) : av := []
theorem zn (N : Nat) : aj Tryz.prog (Wn N) := trivial
@[reducible] def Dk : LD := ⟨28, [7, 1, 0, 2], [(.ret, [6]), (.exit 0, [7])], ⟨[.int .i64, .int .i64, .adr 0 [], .int .i64], [.var (.agg [.str, .mp 1, .sl 2]), .map (.str) (.int .i64), .row (.int .i64) 3]⟩, [(.exit 0, ⟨[.int .i64], [.var (.agg [.str, .mp 1, .sl 2]), .map (.str) (.int .i64), .row (.int .i64) 3]⟩)]⟩
abbrev CO : Type := Int × Int × Int × ByteArray × (List (ByteArray × Int)) × (List Int)
abbrev Ch : Type := Int × ByteArray × (List (ByteArray × Int)) × (List Int)
noncomputable def D4 (N : Nat) (f : CO → Option Ch) : CO → Option Ch
  | (x0, x1, x2, x3, x4, x5) =>
  ac (decide (x0 < 258)) (
  ac (decide (IntKind.wrap .i64 (x2 + x0) < (↑(ByteArray.size x3) : Int))) (
  ac (decide ((0 : Int) ≤ IntKind.wrap .i64 (x1 + x0))) (
  Option.bind (x3[Int.toNat (IntKind.wrap .i64 (x1 + x0))]?) fun y0 =>
  ac (decide ((0 : Int) ≤ IntKind.wrap .i64 (x2 + x0))) (
  Option.bind (x3[Int.toNat (IntKind.wrap .i64 (x2 + x0))]?) fun y1 =>
  ac ((↑(UInt8.toNat y0) : Int) == (↑(UInt8.toNat y1) : Int)) (
  Option.bind (f (IntKind.wrap .i64 (x0 + 1), x1, x2, x3, x4, x5)) fun r => some r) (
  some ((x0, x3, x4, x5)))) (
  none)) (
  none)) (
  some ((x0, x3, x4, x5)))) (
  some ((x0, x3, x4, x5)))
noncomputable def kU (N : Nat) : Nat → CO → Option Ch
  | 0, _ => none
  | k + 1, x => D4 N (kU N k) x
theorem Jw (N : Nat) (k : Nat) : ar Tryz.prog Tryz.f159 [0] 28 (Dk.cut (kU N k)) :=
  Dk.loopT ai aA (zn N) Tryz.f159 [0] (cuts := []) trivial (by decide +kernel) (by kernel_rfl) (D4 N) (kU N) (fun _ => rfl) (fun _ _ => rfl) (fun f x => by kernel_rfl) k
@[reducible] def w159 : List SP := [⟨[.int .i64], [.var (.agg [.str, .mp 1, .sl 2]), .map (.str) (.int .i64), .row (.int .i64) 3]⟩]
noncomputable def Sq (N : Nat) : (Int × Int × ByteArray × (List (ByteArray × Int)) × (List Int)) → Option (Int × ByteArray × (List (ByteArray × Int)) × (List Int))
  | (x0, x1, x2, x3, x4) =>
  Option.bind (kU N N ((0 : Int), x0, x1, x2, x3, x4)) fun y0 =>
  some ((y0.1, y0.2.1, y0.2.2.1, y0.2.2.2))
noncomputable def ai0 (N : Nat) : Pk → Tr Pk := ak s159 w159 (Sq N)
theorem Ul (N : Nat) : aO Tryz.prog 159 (ai0 N) :=
  (ah ai aA (zn N) Tryz.func159 s159 w159 [0] (cuts := [(28, Dk.cut (kU N N))]) ⟨Jw N N, trivial⟩ (fun _ => by kernel_rfl) (by kernel_rfl) (Sq N) (fun x => by kernel_rfl))
@[reducible] def s135 : SP := ⟨[.adr 0 [], .int .i64], [.var (.agg [.str, .mp 1, .sl 2]), .map (.str) (.int .i64), .row (.int .i64) 3]⟩
noncomputable def WI (N : Nat) : av := [(159, ai0 N)]
theorem qR (N : Nat) : aj Tryz.prog (WI N) := ⟨Ul N, trivial⟩
@[reducible] def nL : LD := ⟨1001, [7, 9, 8, 4, 1, 6, 0], [(.ret, [4, 5]), (.exit 0, [6, 4]), (.normal, [7, 9, 8, 4, 1, 6, 0])], ⟨[.int .i64, .int .i64, .bool, .adr 1 [], .int .i64, .adr 2 [], .adr 0 []], [.var (.agg [.str, .mp 3, .sl 4]), .var (.agg [.int .i64, .int .i64, .int .i64]), .var (.agg [.int .i64, .int .i64, .int .i64]), .map (.str) (.int .i64), .row (.int .i64) 3]⟩, [(.normal, ⟨[.int .i64, .int .i64, .bool, .adr 1 [], .int .i64, .adr 2 [], .adr 0 []], [.var (.agg [.str, .mp 3, .sl 4]), .var (.agg [.int .i64, .int .i64, .int .i64]), .var (.agg [.int .i64, .int .i64, .int .i64]), .map (.str) (.int .i64), .row (.int .i64) 3]⟩)]⟩
noncomputable def gS (N : Nat) : (Int × Int × Bool × Int × ByteArray × Int × Int × Int × Int × Int × Int × (List (ByteArray × Int)) × (List Int)) → Option (Int × Int × Bool × Int × ByteArray × Int × Int × Int × Int × Int × Int × (List (ByteArray × Int)) × (List Int))
  | (x0, x1, x2, x3, x4, x5, x6, x7, x8, x9, x10, x11, x12) =>
  Option.bind (Sq N (x0, x3, x4, x11, x12)) fun y0 =>
  ac (decide (y0.1 > x9)) (
  ac (within x0 (List.length y0.2.2.2)) (
  Option.bind (y0.2.2.2[Int.toNat x0]?) fun y1 =>
  some ((y1, IntKind.wrap .i64 (x1 + 1), x2, x3, y0.2.1, x5, x6, x7, (0 : Int), y0.1, IntKind.wrap .i64 (x3 - x0), y0.2.2.1, y0.2.2.2))) (
  none)) (
  ac (within x0 (List.length y0.2.2.2)) (
  Option.bind (y0.2.2.2[Int.toNat x0]?) fun y2 =>
  some ((y2, IntKind.wrap .i64 (x1 + 1), x2, x3, y0.2.1, x5, x6, x7, x8, x9, x10, y0.2.2.1, y0.2.2.2))) (
  none))
theorem qw (N : Nat) (k : Nat) : ar Tryz.prog Tryz.f135 [0] 1001 (nL.cut (gS N)) :=
  nL.pieceT ai aA (qR N) Tryz.f135 [0] (cuts := []) trivial (by decide +kernel) (by kernel_rfl) (gS N) (fun x => by kernel_rfl)
@[reducible] def xK : LD := ⟨250, [7, 9, 8, 4, 1, 6, 0], [(.ret, [4, 5]), (.exit 0, [6, 4])], ⟨[.int .i64, .int .i64, .bool, .adr 1 [], .int .i64, .adr 2 [], .adr 0 []], [.var (.agg [.str, .mp 3, .sl 4]), .var (.agg [.int .i64, .int .i64, .int .i64]), .var (.agg [.int .i64, .int .i64, .int .i64]), .map (.str) (.int .i64), .row (.int .i64) 3]⟩, [(.exit 0, ⟨[.adr 1 [], .adr 2 []], [.var (.agg [.str, .mp 3, .sl 4]), .var (.agg [.int .i64, .int .i64, .int .i64]), .var (.agg [.int .i64, .int .i64, .int .i64]), .map (.str) (.int .i64), .row (.int .i64) 3]⟩)]⟩
abbrev xn : Type := Int × Int × Bool × Int × ByteArray × Int × Int × Int × Int × Int × Int × (List (ByteArray × Int)) × (List Int)
abbrev wM : Type := ByteArray × Int × Int × Int × Int × Int × Int × (List (ByteArray × Int)) × (List Int)
noncomputable def ga (N : Nat) (f : xn → Option wM) : xn → Option wM
  | (x0, x1, x2, x3, x4, x5, x6, x7, x8, x9, x10, x11, x12) =>
  ac (x2) (
  ac (decide (x1 < 64)) (
  ac (decide (x0 ≥ 0)) (
  ac (decide (IntKind.wrap .i64 (x3 - x0) ≤ 32768)) (
  Option.bind (gS N (x0, x1, x2, x3, x4, x5, x6, x7, x8, x9, x10, x11, x12)) fun y0 =>
  Option.bind (f (y0.1, y0.2.1, y0.2.2.1, y0.2.2.2.1, y0.2.2.2.2.1, y0.2.2.2.2.2.1, y0.2.2.2.2.2.2.1, y0.2.2.2.2.2.2.2.1, y0.2.2.2.2.2.2.2.2.1, y0.2.2.2.2.2.2.2.2.2.1, y0.2.2.2.2.2.2.2.2.2.2.1, y0.2.2.2.2.2.2.2.2.2.2.2.1, y0.2.2.2.2.2.2.2.2.2.2.2.2)) fun r => some r) (
  some ((x4, x8, x9, x10, x5, x6, x7, x11, x12)))) (
  some ((x4, x8, x9, x10, x5, x6, x7, x11, x12)))) (
  some ((x4, x8, x9, x10, x5, x6, x7, x11, x12)))) (
  some ((x4, x8, x9, x10, x5, x6, x7, x11, x12)))
noncomputable def bT (N : Nat) : Nat → xn → Option wM
  | 0, _ => none
  | k + 1, x => ga N (bT N k) x
theorem GC (N : Nat) (k : Nat) : ar Tryz.prog Tryz.f135 [0] 250 (xK.cut (bT N k)) :=
  xK.loopT ai aA (qR N) Tryz.f135 [0] (cuts := [(1001, nL.cut (gS N))]) ⟨qw N N, trivial⟩ (by decide +kernel) (by kernel_rfl) (ga N) (bT N) (fun _ => rfl) (fun _ _ => rfl) (fun f x => by kernel_rfl) k
@[reducible] def w135 : List SP := [⟨[.tup [.agg [.int .i64, .int .i64, .int .i64], .bool]], [.var (.agg [.str, .mp 1, .sl 2]), .map (.str) (.int .i64), .row (.int .i64) 3]⟩]
noncomputable def Sz (N : Nat) : (Int × ByteArray × (List (ByteArray × Int)) × (List Int)) → Option (Int × Int × Int × Bool × ByteArray × (List (ByteArray × Int)) × (List Int))
  | (x0, x1, x2, x3) =>
  ac (decide (IntKind.wrap .i64 (x0 + 3) > (↑(ByteArray.size x1) : Int))) (
  some (((0 : Int), (0 : Int), (0 : Int), false, x1, x2, x3))) (
  ac (decide ((0 : Int) ≤ IntKind.wrap .i64 (x0 + 3) ∧ IntKind.wrap .i64 (x0 + 3) ≤ (↑(ByteArray.size x1) : Int))) (
  ac (decide ((0 : Int) ≤ x0 ∧ x0 ≤ (↑(Int.toNat (IntKind.wrap .i64 (x0 + 3))) : Int))) (
  Option.bind (bT N N (gh Ty.str (ByteArray.extract x1 (Int.toNat x0) (Int.toNat (IntKind.wrap .i64 (x0 + 3)))) (0 : Int) x2, (0 : Int), ij Ty.str (ByteArray.extract x1 (Int.toNat x0) (Int.toNat (IntKind.wrap .i64 (x0 + 3)))) x2, x0, x1, (0 : Int), (0 : Int), (0 : Int), (0 : Int), (0 : Int), (0 : Int), x2, x3)) fun y0 =>
  some ((y0.2.1, y0.2.2.1, y0.2.2.2.1, decide (y0.2.2.1 ≥ 3), y0.1, y0.2.2.2.2.2.2.2.1, y0.2.2.2.2.2.2.2.2))) (
  none)) (
  none))
noncomputable def aj9 (N : Nat) : Pk → Tr Pk := ak s135 w135 (Sz N)
theorem UF (N : Nat) : aO Tryz.prog 135 (aj9 N) :=
  (ah ai aA (qR N) Tryz.func135 s135 w135 [0] (cuts := [(1001, nL.cut (gS N)), (250, xK.cut (bT N N))]) ⟨qw N N, GC N N, trivial⟩ (fun _ => by kernel_rfl) (by kernel_rfl) (Sz N) (fun x => by kernel_rfl))
@[reducible] def s110 : SP := ⟨[.str, .str], []⟩
noncomputable def W3 (N : Nat) : av := [(88, YY N), (134, ak0 N), (135, aj9 N)]
theorem ni (N : Nat) : aj Tryz.prog (W3 N) := ⟨wj N, UG N, UF N, trivial⟩
@[reducible] def mD : LD := ⟨122, [22, 21, 5, 6], [(.ret, [4]), (.exit 0, [5, 6])], ⟨[.int .i64, .int .i64, .str, .adr 0 []], [.var (.agg [.str, .mp 1, .sl 2]), .map (.str) (.int .i64), .row (.int .i64) 3]⟩, [(.exit 0, ⟨[.str, .adr 0 []], [.var (.agg [.str, .mp 1, .sl 2]), .map (.str) (.int .i64), .row (.int .i64) 3]⟩)]⟩
abbrev xw : Type := Int × Int × ByteArray × ByteArray × (List (ByteArray × Int)) × (List Int)
abbrev wV : Type := ByteArray × ByteArray × (List (ByteArray × Int)) × (List Int)
noncomputable def qL (N : Nat) (f : xw → Option wV) : xw → Option wV
  | (x0, x1, x2, x3, x4, x5) =>
  ac (decide (x0 < x1)) (
  Option.bind (No N (x0, x3, x4, x5)) fun y0 =>
  Option.bind (f (IntKind.wrap .i64 (x0 + 1), x1, x2, y0.1, y0.2.1, y0.2.2)) fun r => some r) (
  some ((x2, x3, x4, x5)))
noncomputable def dT (N : Nat) : Nat → xw → Option wV
  | 0, _ => none
  | k + 1, x => qL N (dT N k) x
theorem nc (N : Nat) (k : Nat) : ar Tryz.prog Tryz.f110 [] 122 (mD.cut (dT N k)) :=
  mD.loopT ai aA (ni N) Tryz.f110 [] (cuts := []) trivial (by decide +kernel) (by kernel_rfl) (qL N) (dT N) (fun _ => rfl) (fun _ _ => rfl) (fun f x => by kernel_rfl) k
@[reducible] def y0 : Ty := (.cons (.int .i64) (.cons (.int .i64) (.cons (.int .i64) .unit)))
@[reducible] def iS : LD := ⟨129630, [9, 61, 60, 8, 6], [(.ret, [4]), (.exit 4, [8, 9, 6]), (.exit 3, [8, 9, 6]), (.exit 2, [8])], ⟨[.int .i64, .int .i64, .int .i64, .sl 0, .adr 1 []], [.row y0 52, .var (.agg [.str, .mp 2, .sl 3]), .map (.str) (.int .i64), .row (.int .i64) 3]⟩, [(.exit 4, ⟨[.sl 0, .int .i64, .adr 1 []], [.row y0 52, .var (.agg [.str, .mp 2, .sl 3]), .map (.str) (.int .i64), .row (.int .i64) 3]⟩)]⟩
abbrev mz : Type := Int × Int × Int × (List (Int × (Int × (Int × Unit)))) × ByteArray × (List (ByteArray × Int)) × (List Int)
abbrev mo : Type := Int × (List (Int × (Int × (Int × Unit)))) × ByteArray × (List (ByteArray × Int)) × (List Int)
noncomputable def jg (N : Nat) (f : mz → Option mo) : mz → Option mo
  | (x0, x1, x2, x3, x4, x5, x6) =>
  ac (decide (x1 < x2)) (
  Option.bind (No N (x0, x4, x5, x6)) fun y0 =>
  Option.bind (f (IntKind.wrap .i64 (x0 + 1), IntKind.wrap .i64 (x1 + 1), x2, x3, y0.1, y0.2.1, y0.2.2)) fun r => some r) (
  some ((x0, x3, x4, x5, x6)))
noncomputable def bO (N : Nat) : Nat → mz → Option mo
  | 0, _ => none
  | k + 1, x => jg N (bO N k) x
theorem nb (N : Nat) (k : Nat) : ar Tryz.prog Tryz.f110 [] 129630 (iS.cut (bO N k)) :=
  iS.loopT ai aA (ni N) Tryz.f110 [] (cuts := [(122, mD.cut (dT N N))]) ⟨nc N N, trivial⟩ (by decide +kernel) (by kernel_rfl) (jg N) (bO N) (fun _ => rfl) (fun _ _ => rfl) (fun f x => by kernel_rfl) k
@[reducible] def xS : LD := ⟨506, [8, 9, 6], [(.ret, [4]), (.exit 2, [8])], ⟨[.sl 0, .int .i64, .adr 1 []], [.row y0 52, .var (.agg [.str, .mp 2, .sl 3]), .map (.str) (.int .i64), .row (.int .i64) 3]⟩, [(.exit 2, ⟨[.sl 0], [.row y0 52]⟩)]⟩
abbrev xv : Type := Int × (List (Int × (Int × (Int × Unit)))) × ByteArray × (List (ByteArray × Int)) × (List Int)
abbrev wU : Type := (List (Int × (Int × (Int × Unit))))
noncomputable def j7 (N : Nat) (f : xv → Option wU) : xv → Option wU
  | (x0, x1, x2, x3, x4) =>
  ac (decide (x0 < (↑(ByteArray.size x2) : Int))) (
  Option.bind (Sz N (x0, x2, x3, x4)) fun y0 =>
  ac (!y0.2.2.2.1) (
  ac (decide ((0 : Int) ≤ x0)) (
  Option.bind (y0.2.2.2.2.1[Int.toNat x0]?) fun y1 =>
  ac (decide ((List.length x1 + List.length [(IntKind.wrap .i64 (↑(UInt8.toNat y1) : Int), (0 : Int), (0 : Int), ())]) * 24 ≤ (140737488355328 : Nat) ∧ List.length x1 + List.length [(IntKind.wrap .i64 (↑(UInt8.toNat y1) : Int), (0 : Int), (0 : Int), ())] ≤ 140737488355328)) (
  Option.bind (bO N N (x0, (0 : Int), (1 : Int), x1 ++ [(IntKind.wrap .i64 (↑(UInt8.toNat y1) : Int), (0 : Int), (0 : Int), ())], y0.2.2.2.2.1, y0.2.2.2.2.2.1, y0.2.2.2.2.2.2)) fun y2 =>
  Option.bind (f (y2.1, y2.2.1, y2.2.2.1, y2.2.2.2.1, y2.2.2.2.2)) fun r => some r) (
  none)) (
  none)) (
  ac (decide ((List.length x1 + List.length [(y0.1, y0.2.1, y0.2.2.1, ())]) * 24 ≤ (140737488355328 : Nat) ∧ List.length x1 + List.length [(y0.1, y0.2.1, y0.2.2.1, ())] ≤ 140737488355328)) (
  Option.bind (bO N N (x0, (0 : Int), if (1 : Int) > y0.2.1 then (1 : Int) else y0.2.1, x1 ++ [(y0.1, y0.2.1, y0.2.2.1, ())], y0.2.2.2.2.1, y0.2.2.2.2.2.1, y0.2.2.2.2.2.2)) fun y3 =>
  Option.bind (f (y3.1, y3.2.1, y3.2.2.1, y3.2.2.2.1, y3.2.2.2.2)) fun r => some r) (
  none))) (
  some (x1))
noncomputable def dS (N : Nat) : Nat → xv → Option wU
  | 0, _ => none
  | k + 1, x => j7 N (dS N k) x
theorem GK (N : Nat) (k : Nat) : ar Tryz.prog Tryz.f110 [] 506 (xS.cut (dS N k)) :=
  xS.loopT ai aA (ni N) Tryz.f110 [] (cuts := [(122, mD.cut (dT N N)), (129630, iS.cut (bO N N))]) ⟨nc N N, nb N N, trivial⟩ (by decide +kernel) (by kernel_rfl) (j7 N) (dS N) (fun _ => rfl) (fun _ _ => rfl) (fun f x => by kernel_rfl) k
@[reducible] def w110 : List SP := [⟨[.sl 0], [.row y0 52]⟩]
noncomputable def SJ (N : Nat) : (ByteArray × ByteArray) → Option ((List (Int × (Int × (Int × Unit)))))
  | (x0, x1) =>
  Option.bind (RI N x0) fun y0 =>
  ac (decide ((↑(ByteArray.size y0 + ByteArray.size x1) : Int) > (9223372036854775807 : Int))) (
  none) (
  Option.bind (dT N N ((0 : Int), (↑(ByteArray.size y0) : Int), y0, y0 ++ x1, [], [])) fun y1 =>
  Option.bind (dS N N ((↑(ByteArray.size y1.1) : Int), [], y1.2.1, y1.2.2.1, y1.2.2.2)) fun y2 =>
  some (y2))
noncomputable def al5 (N : Nat) : Pk → Tr Pk := ak s110 w110 (SJ N)
theorem UV (N : Nat) : aO Tryz.prog 110 (al5 N) :=
  (ah ai aA (ni N) Tryz.func110 s110 w110 [] (cuts := [(122, mD.cut (dT N N)), (129630, iS.cut (bO N N)), (506, xS.cut (dS N N))]) ⟨nc N N, nb N N, GK N N, trivial⟩ (fun _ => by kernel_rfl) (by kernel_rfl) (SJ N) (fun x => by kernel_rfl))
@[reducible] def y1 : Ty := (.cons (.sl (.int .u8)) (.cons (.int .i64) (.cons (.int .i64) .unit)))
@[reducible] def s18 : SP := ⟨[.radr y1 [.i 0 3]], []⟩
noncomputable def ac3 (N : Nat) : av := []
theorem O4 (N : Nat) : aj Tryz.prog (ac3 N) := trivial
@[reducible] def w18 : List SP := [⟨[.int .i64], []⟩]
noncomputable def Zh (N : Nat) : (((List Int) × (Int × (Int × Unit)))) → Option (Int)
  | x0 =>
  some (IntKind.wrap .i64 (IntKind.wrap .i64 ((8 : Int) * (↑(List.length x0.1) : Int)) + x0.2.2.1))
noncomputable def T18 (N : Nat) : Pk → Tr Pk := ak s18 w18 (Zh N)
theorem Yk (N : Nat) : aO Tryz.prog 18 (T18 N) :=
  (ah ai aA (O4 N) Tryz.func18 s18 w18 [] (cuts := []) trivial (fun _ => by kernel_rfl) (by kernel_rfl) (Zh N) (fun x => by kernel_rfl))
@[reducible] def s69 : SP := ⟨[.int .i64, .int .i64, .int .i64], []⟩
noncomputable def ZM (N : Nat) : av := []
theorem OH (N : Nat) : aj Tryz.prog (ZM N) := trivial
@[reducible] def w69 : List SP := [⟨[.bool], []⟩]
noncomputable def YF (N : Nat) : (Int × Int × Int) → Option (Bool)
  | (x0, x1, x2) =>
  ac (decide (x1 ≤ x0)) (
  some (decide (x0 ≤ x2))) (
  some (false))
noncomputable def T69 (N : Nat) : Pk → Tr Pk := ak s69 w69 (YF N)
theorem XU (N : Nat) : aO Tryz.prog 69 (T69 N) :=
  (ah ai aA (OH N) Tryz.func69 s69 w69 [] (cuts := []) trivial (fun _ => by kernel_rfl) (by kernel_rfl) (YF N) (fun x => by kernel_rfl))
@[reducible] def s27 : SP := ⟨[.agg [.int .i64, .int .i64, .int .i64]], []⟩
noncomputable def ab5 (N : Nat) : av := [(69, T69 N)]
theorem O1 (N : Nat) : aj Tryz.prog (ab5 N) := ⟨XU N, trivial⟩
@[reducible] def w27 : List SP := [⟨[.bool], []⟩]
noncomputable def V8 (N : Nat) : (Int × Int × Int) → Option (Bool)
  | (x0, x1, x2) =>
  ac (x1 == 0) (
  ac (x2 == 0) (
  Option.bind (YF N (x0, (0 : Int), (255 : Int))) fun y0 =>
  some (y0)) (
  some (false))) (
  ac (x0 == 0) (
  Option.bind (YF N (x1, (3 : Int), (258 : Int))) fun y1 =>
  ac (y1) (
  Option.bind (YF N (x2, (1 : Int), (32768 : Int))) fun y2 =>
  some (y2)) (
  some (false))) (
  some (false)))
noncomputable def T27 (N : Nat) : Pk → Tr Pk := ak s27 w27 (V8 N)
theorem BH (N : Nat) : aO Tryz.prog 27 (T27 N) :=
  (ah ai aA (O1 N) Tryz.func27 s27 w27 [] (cuts := []) trivial (fun _ => by kernel_rfl) (by kernel_rfl) (V8 N) (fun x => by kernel_rfl))
@[reducible] def s101 : SP := ⟨[.sl 0, .int .i64, .int .i64], [.row (.int .i64) 3]⟩
noncomputable def Xc (N : Nat) : av := []
theorem zw (N : Nat) : aj Tryz.prog (Xc N) := trivial
@[reducible] def Dq : LD := ⟨12, [0, 1, 2], [(.ret, [6]), (.exit 0, [0])], ⟨[.sl 0, .int .i64, .int .i64], [.row (.int .i64) 3]⟩, [(.exit 0, ⟨[.sl 0], [.row (.int .i64) 3]⟩)]⟩
abbrev CW : Type := Int × Int × (List Int)
abbrev Co : Type := (List Int)
noncomputable def KM (N : Nat) (f : CW → Option Co) : CW → Option Co
  | (x0, x1, x2) =>
  ac (decide ((↑(List.length x2) : Int) < x0)) (
  ac (decide ((List.length x2 + List.length [x1]) * 8 ≤ (140737488355328 : Nat) ∧ List.length x2 + List.length [x1] ≤ 140737488355328)) (
  Option.bind (f (x0, x1, x2 ++ [x1])) fun r => some r) (
  none)) (
  some (x2))
noncomputable def qs (N : Nat) : Nat → CW → Option Co
  | 0, _ => none
  | k + 1, x => KM N (qs N k) x
theorem JC (N : Nat) (k : Nat) : ar Tryz.prog Tryz.f101 [] 12 (Dq.cut (qs N k)) :=
  Dq.loopT ai aA (zw N) Tryz.f101 [] (cuts := []) trivial (by decide +kernel) (by kernel_rfl) (KM N) (qs N) (fun _ => rfl) (fun _ _ => rfl) (fun f x => by kernel_rfl) k
@[reducible] def w101 : List SP := [⟨[.sl 0], [.row (.int .i64) 3]⟩]
noncomputable def Jd (N : Nat) : (Int × Int × (List Int)) → Option ((List Int))
  | (x0, x1, x2) =>
  Option.bind (qs N N (x0, x1, x2)) fun y0 =>
  some (y0)
noncomputable def am2 (N : Nat) : Pk → Tr Pk := ak s101 w101 (Jd N)
theorem U2 (N : Nat) : aO Tryz.prog 101 (am2 N) :=
  (ah ai aA (zw N) Tryz.func101 s101 w101 [] (cuts := [(12, Dq.cut (qs N N))]) ⟨JC N N, trivial⟩ (fun _ => by kernel_rfl) (by kernel_rfl) (Jd N) (fun x => by kernel_rfl))
@[reducible] def s64 : SP := ⟨[], []⟩
noncomputable def ZR (N : Nat) : av := [(101, am2 N)]
theorem OJ (N : Nat) : aj Tryz.prog (ZR N) := ⟨U2 N, trivial⟩
@[reducible] def w64 : List SP := [⟨[.tup [.sl 0, .sl 1]], [.row (.int .i64) 3, .row (.int .i64) 3]⟩]
noncomputable def F64 (N : Nat) : (Unit) → Option ((List Int) × (List Int))
  | () =>
  Option.bind (Jd N ((144 : Int), (8 : Int), [])) fun y0 =>
  Option.bind (Jd N ((256 : Int), (9 : Int), y0)) fun y1 =>
  Option.bind (Jd N ((280 : Int), (7 : Int), y1)) fun y2 =>
  Option.bind (Jd N ((288 : Int), (8 : Int), y2)) fun y3 =>
  Option.bind (Jd N ((30 : Int), (5 : Int), [])) fun y4 =>
  some ((y3, y4))
noncomputable def T64 (N : Nat) : Pk → Tr Pk := ak s64 w64 (F64 N)
theorem Q9 (N : Nat) : aO Tryz.prog 64 (T64 N) :=
  (ah ai aA (OJ N) Tryz.func64 s64 w64 [] (cuts := []) trivial (fun _ => by kernel_rfl) (by kernel_rfl) (F64 N) (fun x => by kernel_rfl))
@[reducible] def s97 : SP := ⟨[.ro (.int .i64)], []⟩
noncomputable def Zo (N : Nat) : av := []
theorem Ef (N : Nat) : aj Tryz.prog (Zo N) := trivial
@[reducible] def CZ : LD := ⟨122, [12, 11, 13, 4, 2], [(.ret, [2, 3]), (.exit 0, [4, 2])], ⟨[.int .i64, .ro (.int .i64), .int .i64, .adr 0 [], .adr 1 []], [.var (.arr (.int .i64) 16), .var (.arr (.int .i64) 16)]⟩, [(.ret, ⟨[.adr 0 [], .int .i64], [.var (.arr (.int .i64) 16)]⟩), (.exit 0, ⟨[.adr 0 [], .adr 1 []], [.var (.arr (.int .i64) 16), .var (.arr (.int .i64) 16)]⟩)]⟩
abbrev Cq : Type := Int × (List Int) × Int × (List Int) × (List Int)
abbrev BL : Type := ((Int × (List Int)) ⊕ ((List Int) × (List Int)))
noncomputable def tW (N : Nat) (f : Cq → Option BL) : Cq → Option BL
  | (x0, x1, x2, x3, x4) =>
  ac (decide (x2 < x0)) (
  ac (within x2 (List.length x1)) (
  Option.bind (x1[Int.toNat x2]?) fun y0 =>
  ac (decide (y0 < 0)) (
  some (.inl (((50 : Int), x3)))) (
  ac (decide (y0 > 15)) (
  some (.inl (((50 : Int), x3)))) (
  ac (within y0 (16 : Nat)) (
  Option.bind (x3[Int.toNat y0]?) fun y1 =>
  ac (within y0 (16 : Nat)) (
  Option.bind (x3[Int.toNat y0]?) fun y2 =>
  Option.bind (f (x0, x1, IntKind.wrap .i64 (x2 + 1), List.set x3 (Int.toNat y0) (IntKind.wrap .i64 (y1 + 1)), x4)) fun r => match r with | .inl y => some (.inl y) | .inr y => some (.inr y)) (
  none)) (
  none)))) (
  none)) (
  some (.inr ((x3, x4))))
noncomputable def gy (N : Nat) : Nat → Cq → Option BL
  | 0, _ => none
  | k + 1, x => tW N (gy N k) x
theorem Je (N : Nat) (k : Nat) : ar Tryz.prog Tryz.f97 [] 122 (CZ.cut (gy N k)) :=
  CZ.loopT ai aA (Ef N) Tryz.f97 [] (cuts := []) trivial (by decide +kernel) (by kernel_rfl) (tW N) (gy N) (fun _ => rfl) (fun _ _ => rfl) (fun f x => by kernel_rfl) k
@[reducible] def w97 : List SP := [⟨[.tup [.arr (.int .i64) 16, .int .i64]], []⟩]
noncomputable def YC (N : Nat) : ((List Int)) → Option ((List Int) × Int)
  | x0 =>
  ac (decide ((↑(List.length x0) : Int) > (320 : Int))) (
  some (([(0 : Int), (0 : Int), (0 : Int), (0 : Int), (0 : Int), (0 : Int), (0 : Int), (0 : Int), (0 : Int), (0 : Int), (0 : Int), (0 : Int), (0 : Int), (0 : Int), (0 : Int), (0 : Int)], (50 : Int)))) (
  Option.bind (gy N N ((↑(List.length x0) : Int), x0, (0 : Int), [(0 : Int), (0 : Int), (0 : Int), (0 : Int), (0 : Int), (0 : Int), (0 : Int), (0 : Int), (0 : Int), (0 : Int), (0 : Int), (0 : Int), (0 : Int), (0 : Int), (0 : Int), (0 : Int)], [(0 : Int), (0 : Int), (0 : Int), (0 : Int), (0 : Int), (0 : Int), (0 : Int), (0 : Int), (0 : Int), (0 : Int), (0 : Int), (0 : Int), (0 : Int), (0 : Int), (0 : Int), (0 : Int)])) fun y0 =>
  match y0 with
  | .inl y1 =>
  some ((y1.2, y1.1))
  | .inr y1 =>
  some ((y1.1, (0 : Int))))
noncomputable def T97 (N : Nat) : Pk → Tr Pk := ak s97 w97 (YC N)
theorem HR (N : Nat) : aO Tryz.prog 97 (T97 N) :=
  (ah ai aA (Ef N) Tryz.func97 s97 w97 [] (cuts := [(122, CZ.cut (gy N N))]) ⟨Je N N, trivial⟩ (fun _ => by kernel_rfl) (by kernel_rfl) (YC N) (fun x => by kernel_rfl))
@[reducible] def s96 : SP := ⟨[.ro (.int .i64)], []⟩
noncomputable def Zp (N : Nat) : av := [(97, T97 N)]
theorem Eg (N : Nat) : aj Tryz.prog (Zp N) := ⟨HR N, trivial⟩
@[reducible] def C0 : LD := ⟨122, [6, 5, 7, 4], [(.ret, [2, 3]), (.exit 0, [6, 5])], ⟨[.int .i64, .int .i64, .int .i64, .adr 0 []], [.var (.arr (.int .i64) 16)]⟩, [(.exit 0, ⟨[.int .i64, .int .i64], []⟩)]⟩
abbrev Cr : Type := Int × Int × Int × (List Int)
abbrev BM : Type := Int × Int
noncomputable def nR (N : Nat) (f : Cr → Option BM) : Cr → Option BM
  | (x0, x1, x2, x3) =>
  ac (decide (x2 ≤ 15)) (
  ac (x1 == 0) (
  ac (within x2 (16 : Nat)) (
  Option.bind (x3[Int.toNat x2]?) fun y0 =>
  ac (decide (IntKind.wrap .i64 (IntKind.wrap .i64 (x0 * 2) - y0) < 0)) (
  Option.bind (f (IntKind.wrap .i64 (IntKind.wrap .i64 (x0 * 2) - y0), (50 : Int), IntKind.wrap .i64 (x2 + 1), x3)) fun r => some r) (
  Option.bind (f (IntKind.wrap .i64 (IntKind.wrap .i64 (x0 * 2) - y0), x1, IntKind.wrap .i64 (x2 + 1), x3)) fun r => some r)) (
  none)) (
  some ((x0, x1)))) (
  some ((x0, x1)))
noncomputable def eK (N : Nat) : Nat → Cr → Option BM
  | 0, _ => none
  | k + 1, x => nR N (eK N k) x
theorem Jf (N : Nat) (k : Nat) : ar Tryz.prog Tryz.f96 [] 122 (C0.cut (eK N k)) :=
  C0.loopT ai aA (Eg N) Tryz.f96 [] (cuts := []) trivial (by decide +kernel) (by kernel_rfl) (nR N) (eK N) (fun _ => rfl) (fun _ _ => rfl) (fun f x => by kernel_rfl) k
@[reducible] def w96 : List SP := [⟨[.tup [.int .i64, .int .i64]], []⟩]
noncomputable def Y3 (N : Nat) : ((List Int)) → Option (Int × Int)
  | x0 =>
  Option.bind (YC N x0) fun y0 =>
  Option.bind (eK N N ((1 : Int), y0.2, (1 : Int), y0.1)) fun y1 =>
  ac (y1.2 != 0) (
  some (((0 : Int), y1.2))) (
  some ((y1.1, (0 : Int))))
noncomputable def T96 (N : Nat) : Pk → Tr Pk := ak s96 w96 (Y3 N)
theorem QY (N : Nat) : aO Tryz.prog 96 (T96 N) :=
  (ah ai aA (Eg N) Tryz.func96 s96 w96 [] (cuts := [(122, C0.cut (eK N N))]) ⟨Jf N N, trivial⟩ (fun _ => by kernel_rfl) (by kernel_rfl) (Y3 N) (fun x => by kernel_rfl))
@[reducible] def s57 : SP := ⟨[.ro (.int .i64)], []⟩
noncomputable def ZY (N : Nat) : av := [(96, T96 N), (97, T97 N)]
theorem ux (N : Nat) : aj Tryz.prog (ZY N) := ⟨QY N, HR N, trivial⟩
@[reducible] def y2 : Ty := (.cons (.int .i64) (.cons (.int .i64) .unit))
@[reducible] def tQ : LD := ⟨250, [9, 0, 6, 8], [(.ret, [2, 3]), (.exit 0, [0, 8])], ⟨[.int .i64, .ro (.int .i64), .adr 0 [], .adr 1 []], [.var (.arr (.int .i64) 16), .var (.arr (.int .i64) 16)]⟩, [(.exit 0, ⟨[.ro (.int .i64), .adr 0 []], [.var (.arr (.int .i64) 16)]⟩)]⟩
abbrev CB : Type := Int × (List Int) × (List Int) × (List Int)
abbrev BV : Type := (List Int) × (List Int)
noncomputable def t7 (N : Nat) (f : CB → Option BV) : CB → Option BV
  | (x0, x1, x2, x3) =>
  ac (decide (x0 < 15)) (
  ac (within x0 (16 : Nat)) (
  Option.bind (x3[Int.toNat x0]?) fun y0 =>
  ac (within x0 (16 : Nat)) (
  Option.bind (x2[Int.toNat x0]?) fun y1 =>
  ac (within (IntKind.wrap .i64 (x0 + 1)) (16 : Nat)) (
  Option.bind (x3[Int.toNat (IntKind.wrap .i64 (x0 + 1))]?) fun y2 =>
  Option.bind (f (IntKind.wrap .i64 (x0 + 1), x1, x2, List.set x3 (Int.toNat (IntKind.wrap .i64 (x0 + 1))) (IntKind.wrap .i64 (IntKind.wrap .i64 (y0 + y1) * 2)))) fun r => some r) (
  none)) (
  none)) (
  none)) (
  some ((x1, x3)))
noncomputable def gE (N : Nat) : Nat → CB → Option BV
  | 0, _ => none
  | k + 1, x => t7 N (gE N k) x
theorem yr (N : Nat) (k : Nat) : ar Tryz.prog Tryz.f57 [] 250 (tQ.cut (gE N k)) :=
  tQ.loopT ai aA (ux N) Tryz.f57 [] (cuts := []) trivial (by decide +kernel) (by kernel_rfl) (t7 N) (gE N) (fun _ => rfl) (fun _ _ => rfl) (fun f x => by kernel_rfl) k
@[reducible] def xz : LD := ⟨1018, [46, 45, 44, 10, 8], [(.ret, [2, 3]), (.exit 2, [10])], ⟨[.int .i64, .int .i64, .ro (.int .i64), .sl 0, .adr 1 []], [.row y2 105, .var (.arr (.int .i64) 16)]⟩, [(.exit 2, ⟨[.sl 0], [.row y2 105]⟩)]⟩
abbrev xb : Type := Int × Int × (List Int) × (List (Int × (Int × Unit))) × (List Int)
abbrev wv : Type := (List (Int × (Int × Unit)))
noncomputable def qB (N : Nat) (f : xb → Option wv) : xb → Option wv
  | (x0, x1, x2, x3, x4) =>
  ac (decide (x0 < x1)) (
  ac (within x0 (List.length x2)) (
  Option.bind (x2[Int.toNat x0]?) fun y0 =>
  ac (decide (y0 > 0)) (
  ac (within y0 (16 : Nat)) (
  Option.bind (x4[Int.toNat y0]?) fun y1 =>
  ac (within x0 (List.length x3)) (
  Option.bind (x3[Int.toNat x0]?) fun y2 =>
  ac (within y0 (16 : Nat)) (
  Option.bind (x4[Int.toNat y0]?) fun y3 =>
  ac (within y0 (16 : Nat)) (
  Option.bind (x4[Int.toNat y0]?) fun y4 =>
  Option.bind (f (IntKind.wrap .i64 (x0 + 1), x1, x2, List.set x3 (Int.toNat x0) (y1, y0, ()), List.set x4 (Int.toNat y0) (IntKind.wrap .i64 (y3 + 1)))) fun r => some r) (
  none)) (
  none)) (
  none)) (
  none)) (
  Option.bind (f (IntKind.wrap .i64 (x0 + 1), x1, x2, x3, x4)) fun r => some r)) (
  none)) (
  some (x3))
noncomputable def fS (N : Nat) : Nat → xb → Option wv
  | 0, _ => none
  | k + 1, x => qB N (fS N k) x
theorem Gv (N : Nat) (k : Nat) : ar Tryz.prog Tryz.f57 [] 1018 (xz.cut (fS N k)) :=
  xz.loopT ai aA (ux N) Tryz.f57 [] (cuts := [(250, tQ.cut (gE N N))]) ⟨yr N N, trivial⟩ (by decide +kernel) (by kernel_rfl) (qB N) (fS N) (fun _ => rfl) (fun _ _ => rfl) (fun f x => by kernel_rfl) k
@[reducible] def w57 : List SP := [⟨[.tup [.sl 0, .int .i64]], [.row y2 105]⟩]
noncomputable def V5 (N : Nat) : ((List Int)) → Option (Int × (List (Int × (Int × Unit))))
  | x0 =>
  Option.bind (Y3 N x0) fun y0 =>
  ac (y0.2 != 0) (
  some ((y0.2, []))) (
  Option.bind (YC N x0) fun y1 =>
  Option.bind (gE N N ((1 : Int), x0, y1.1, [(0 : Int), (0 : Int), (0 : Int), (0 : Int), (0 : Int), (0 : Int), (0 : Int), (0 : Int), (0 : Int), (0 : Int), (0 : Int), (0 : Int), (0 : Int), (0 : Int), (0 : Int), (0 : Int)])) fun y2 =>
  ac (decide ((0 : Int) ≤ (↑(List.length y2.1) : Int) ∧ (↑(List.length y2.1) : Int) ≤ (↑(List.length y2.1) : Int) ∧ (↑(List.length y2.1) : Int) * (16 : Int) ≤ (140737488355328 : Int) ∧ (↑(List.length y2.1) : Int) ≤ (140737488355328 : Int))) (
  Option.bind (fS N N ((0 : Int), (↑(List.length y2.1) : Int), y2.1, List.replicate (Int.toNat (↑(List.length y2.1) : Int)) ((0 : Int), (0 : Int), ()), y2.2)) fun y3 =>
  some (((0 : Int), y3))) (
  none))
noncomputable def T57 (N : Nat) : Pk → Tr Pk := ak s57 w57 (V5 N)
theorem Rh (N : Nat) : aO Tryz.prog 57 (T57 N) :=
  (ah ai aA (ux N) Tryz.func57 s57 w57 [] (cuts := [(250, tQ.cut (gE N N)), (1018, xz.cut (fS N N))]) ⟨yr N N, Gv N N, trivial⟩ (fun _ => by kernel_rfl) (by kernel_rfl) (V5 N) (fun x => by kernel_rfl))
@[reducible] def s170 : SP := ⟨[.int .i64, .int .i64, .int .i64], []⟩
noncomputable def We (N : Nat) : av := []
theorem KY (N : Nat) : aj Tryz.prog (We N) := trivial
@[reducible] def w170 : List SP := [⟨[.int .i64], []⟩]
noncomputable def Vp (N : Nat) : (Int × Int × Int) → Option (Int)
  | (x0, x1, x2) =>
  ac (decide (x2 = (0 : Int))) (
  none) (
  ac (decide (x1 = (0 : Int))) (
  none) (
  some (IntKind.wrap .i64 ((if (0 : Int) > IntKind.wrap .i64 (IntKind.wrap .i64 (Int.tdiv (IntKind.wrap .i64 (x0 - x1)) x2) + 1) then (0 : Int) else IntKind.wrap .i64 (IntKind.wrap .i64 (Int.tdiv (IntKind.wrap .i64 (x0 - x1)) x2) + 1)) * if (1 : Int) < IntKind.wrap .i64 (Int.tdiv x0 x1) then (1 : Int) else IntKind.wrap .i64 (Int.tdiv x0 x1)))))
noncomputable def ah3 (N : Nat) : Pk → Tr Pk := ak s170 w170 (Vp N)
theorem Ud (N : Nat) : aO Tryz.prog 170 (ah3 N) :=
  (ah ai aA (KY N) Tryz.func170 s170 w170 [] (cuts := []) trivial (fun _ => by kernel_rfl) (by kernel_rfl) (Vp N) (fun x => by kernel_rfl))
@[reducible] def s158 : SP := ⟨[.int .i64, .int .i64, .int .i64, .int .i64], []⟩
noncomputable def Wo (N : Nat) : av := [(170, ah3 N)]
theorem zo (N : Nat) : aj Tryz.prog (Wo N) := ⟨Ud N, trivial⟩
@[reducible] def Dl : LD := ⟨58, [10, 14, 13, 0, 1, 2], [(.ret, [8, 9]), (.exit 0, [10, 0, 1, 2])], ⟨[.int .i64, .int .i64, .int .i64, .int .i64, .int .i64, .int .i64], []⟩, [(.exit 0, ⟨[.int .i64, .int .i64, .int .i64, .int .i64], []⟩)]⟩
abbrev CP : Type := Int × Int × Int × Int × Int × Int
abbrev Ci : Type := Int × Int × Int × Int
noncomputable def KJ (N : Nat) (f : CP → Option Ci) : CP → Option Ci
  | (x0, x1, x2, x3, x4, x5) =>
  ac (decide (x1 < x2)) (
  Option.bind (Vp N (x1, x4, x5)) fun y0 =>
  ac (decide (y0 < 0)) (
  none) (
  Option.bind (f (IntKind.wrap .i64 (x0 + IntKind.wrap .i64 ((1 : Int) * (2 : Int) ^ min (Int.toNat y0) (64 : Nat))), IntKind.wrap .i64 (x1 + 1), x2, x3, x4, x5)) fun r => some r)) (
  some ((x0, x3, x4, x5)))
noncomputable def qo (N : Nat) : Nat → CP → Option Ci
  | 0, _ => none
  | k + 1, x => KJ N (qo N k) x
theorem Jx (N : Nat) (k : Nat) : ar Tryz.prog Tryz.f158 [] 58 (Dl.cut (qo N k)) :=
  Dl.loopT ai aA (zo N) Tryz.f158 [] (cuts := []) trivial (by decide +kernel) (by kernel_rfl) (KJ N) (qo N) (fun _ => rfl) (fun _ _ => rfl) (fun f x => by kernel_rfl) k
@[reducible] def w158 : List SP := [⟨[.tup [.int .i64, .int .i64]], []⟩]
noncomputable def Vr (N : Nat) : (Int × Int × Int × Int) → Option (Int × Int)
  | (x0, x1, x2, x3) =>
  Option.bind (qo N N (x3, (0 : Int), x0, x0, x1, x2)) fun y0 =>
  Option.bind (Vp N (y0.2.1, y0.2.2.1, y0.2.2.2)) fun y1 =>
  some ((y0.1, y1))
noncomputable def Yp (N : Nat) : Pk → Tr Pk := ak s158 w158 (Vr N)
theorem Ki (N : Nat) : aO Tryz.prog 158 (Yp N) :=
  (ah ai aA (zo N) Tryz.func158 s158 w158 [] (cuts := [(58, Dl.cut (qo N N))]) ⟨Jx N N, trivial⟩ (fun _ => by kernel_rfl) (by kernel_rfl) (Vr N) (fun x => by kernel_rfl))
@[reducible] def s131 : SP := ⟨[.int .i64], []⟩
noncomputable def WM (N : Nat) : av := [(158, Yp N)]
theorem Lr (N : Nat) : aj Tryz.prog (WM N) := ⟨Ki N, trivial⟩
@[reducible] def w131 : List SP := [⟨[.tup [.int .i64, .int .i64]], []⟩]
noncomputable def ym (N : Nat) : (Int) → Option (Int × Int)
  | x0 =>
  ac (x0 == 285) (
  some (((258 : Int), (0 : Int)))) (
  ac (decide (x0 < 257)) (
  some (((0 : Int), (0 : Int)))) (
  ac (decide (x0 > 285)) (
  some (((0 : Int), (0 : Int)))) (
  Option.bind (Vr N (IntKind.wrap .i64 (x0 - 257), (8 : Int), (4 : Int), (3 : Int))) fun y0 =>
  some ((y0.1, y0.2)))))
noncomputable def Yv (N : Nat) : Pk → Tr Pk := ak s131 w131 (ym N)
theorem Kn (N : Nat) : aO Tryz.prog 131 (Yv N) :=
  (ah ai aA (Lr N) Tryz.func131 s131 w131 [] (cuts := []) trivial (fun _ => by kernel_rfl) (by kernel_rfl) (ym N) (fun x => by kernel_rfl))
@[reducible] def s132 : SP := ⟨[.int .i64], []⟩
noncomputable def WL (N : Nat) : av := [(158, Yp N)]
theorem Lq (N : Nat) : aj Tryz.prog (WL N) := ⟨Ki N, trivial⟩
@[reducible] def w132 : List SP := [⟨[.tup [.int .i64, .int .i64]], []⟩]
noncomputable def yl (N : Nat) : (Int) → Option (Int × Int)
  | x0 =>
  ac (decide (x0 < 0)) (
  some (((0 : Int), (0 : Int)))) (
  ac (decide (x0 ≥ 30)) (
  some (((0 : Int), (0 : Int)))) (
  Option.bind (Vr N (x0, (4 : Int), (2 : Int), (1 : Int))) fun y0 =>
  some ((y0.1, y0.2))))
noncomputable def Yu (N : Nat) : Pk → Tr Pk := ak s132 w132 (yl N)
theorem Km (N : Nat) : aO Tryz.prog 132 (Yu N) :=
  (ah ai aA (Lq N) Tryz.func132 s132 w132 [] (cuts := []) trivial (fun _ => by kernel_rfl) (by kernel_rfl) (yl N) (fun x => by kernel_rfl))
@[reducible] def s130a : SP := ⟨[.int .i64, .int .i64, .int .i64, .fn 131], []⟩
noncomputable def Tg (N : Nat) : av := [(131, Yv N)]
theorem uE (N : Nat) : aj Tryz.prog (Tg N) := ⟨Kn N, trivial⟩
@[reducible] def xM : LD := ⟨26, [1, 3, 11, 0], [(.ret, [8, 9, 10]), (.exit 0, [])], ⟨[.int .i64, .fn 131, .int .i64, .int .i64], []⟩, [(.ret, ⟨[.int .i64, .int .i64, .int .i64], []⟩), (.exit 0, ⟨[], []⟩)]⟩
abbrev xp : Type := Int × Int × Int
abbrev wP : Type := ((Int × Int × Int) ⊕ (Unit))
noncomputable def yz (N : Nat) (f : xp → Option wP) : xp → Option wP
  | (x0, x1, x2) =>
  ac (decide (x1 ≥ x0)) (
  Option.bind (ym N x1) fun y0 =>
  ac (decide (y0.1 ≤ x2)) (
  some (.inl ((x1, IntKind.wrap .i64 (x2 - y0.1), y0.2)))) (
  Option.bind (f (x0, IntKind.wrap .i64 (x1 - 1), x2)) fun r => match r with | .inl y => some (.inl y) | .inr y => some (.inr y))) (
  some (.inr (())))
noncomputable def iz (N : Nat) : Nat → xp → Option wP
  | 0, _ => none
  | k + 1, x => yz N (iz N k) x
theorem GF (N : Nat) (k : Nat) : ar Tryz.prog Tryz.f130 [] 26 (xM.cut (iz N k)) :=
  xM.loopT ai aA (uE N) Tryz.f130 [] (cuts := []) trivial (by decide +kernel) (by kernel_rfl) (yz N) (iz N) (fun _ => rfl) (fun _ _ => rfl) (fun f x => by kernel_rfl) k
@[reducible] def w130a : List SP := [⟨[.tup [.int .i64, .int .i64, .int .i64]], []⟩]
noncomputable def KE (N : Nat) : (Int × Int × Int) → Option (Int × Int × Int)
  | (x0, x1, x2) =>
  Option.bind (iz N N (x1, x2, x0)) fun y0 =>
  match y0 with
  | .inl y1 =>
  some ((y1.1, y1.2.1, y1.2.2))
  | .inr y1 =>
  some (((0 : Int), (0 : Int), (0 : Int)))
noncomputable def VY (N : Nat) : Pk → Tr Pk := ak s130a w130a (KE N)
theorem QU (N : Nat) : aO Tryz.prog 130 (VY N) :=
  (ah ai aA (uE N) Tryz.func130 s130a w130a [] (cuts := [(26, xM.cut (iz N N))]) ⟨GF N N, trivial⟩ (fun _ => by kernel_rfl) (by kernel_rfl) (KE N) (fun x => by kernel_rfl))
@[reducible] def s130b : SP := ⟨[.int .i64, .int .i64, .int .i64, .fn 132], []⟩
noncomputable def Tf (N : Nat) : av := [(132, Yu N)]
theorem uD (N : Nat) : aj Tryz.prog (Tf N) := ⟨Km N, trivial⟩
@[reducible] def xL : LD := ⟨26, [1, 3, 11, 0], [(.ret, [8, 9, 10]), (.exit 0, [])], ⟨[.int .i64, .fn 132, .int .i64, .int .i64], []⟩, [(.ret, ⟨[.int .i64, .int .i64, .int .i64], []⟩), (.exit 0, ⟨[], []⟩)]⟩
abbrev xo : Type := Int × Int × Int
abbrev wO : Type := ((Int × Int × Int) ⊕ (Unit))
noncomputable def yy (N : Nat) (f : xo → Option wO) : xo → Option wO
  | (x0, x1, x2) =>
  ac (decide (x1 ≥ x0)) (
  Option.bind (yl N x1) fun y0 =>
  ac (decide (y0.1 ≤ x2)) (
  some (.inl ((x1, IntKind.wrap .i64 (x2 - y0.1), y0.2)))) (
  Option.bind (f (x0, IntKind.wrap .i64 (x1 - 1), x2)) fun r => match r with | .inl y => some (.inl y) | .inr y => some (.inr y))) (
  some (.inr (())))
noncomputable def iy (N : Nat) : Nat → xo → Option wO
  | 0, _ => none
  | k + 1, x => yy N (iy N k) x
theorem GD (N : Nat) (k : Nat) : ar Tryz.prog Tryz.f130 [] 26 (xL.cut (iy N k)) :=
  xL.loopT ai aA (uD N) Tryz.f130 [] (cuts := []) trivial (by decide +kernel) (by kernel_rfl) (yy N) (iy N) (fun _ => rfl) (fun _ _ => rfl) (fun f x => by kernel_rfl) k
@[reducible] def w130b : List SP := [⟨[.tup [.int .i64, .int .i64, .int .i64]], []⟩]
noncomputable def KD (N : Nat) : (Int × Int × Int) → Option (Int × Int × Int)
  | (x0, x1, x2) =>
  Option.bind (iy N N (x1, x2, x0)) fun y0 =>
  match y0 with
  | .inl y1 =>
  some ((y1.1, y1.2.1, y1.2.2))
  | .inr y1 =>
  some (((0 : Int), (0 : Int), (0 : Int)))
noncomputable def VX (N : Nat) : Pk → Tr Pk := ak s130b w130b (KD N)
theorem QT (N : Nat) : aO Tryz.prog 130 (VX N) :=
  (ah ai aA (uD N) Tryz.func130 s130b w130b [] (cuts := [(26, xL.cut (iy N N))]) ⟨GD N N, trivial⟩ (fun _ => by kernel_rfl) (by kernel_rfl) (KD N) (fun x => by kernel_rfl))
noncomputable def Yw (N : Nat) : Pk → Tr Pk := (orT s130a.I (VY N) (VX N))
theorem Ko (N : Nat) : aO Tryz.prog 130 (Yw N) := (Pq (QU N) (QT N))
@[reducible] def s103 : SP := ⟨[.int .i64], []⟩
noncomputable def Xa (N : Nat) : av := [(130, Yw N)]
theorem LI (N : Nat) : aj Tryz.prog (Xa N) := ⟨Ko N, trivial⟩
@[reducible] def w103 : List SP := [⟨[.tup [.int .i64, .int .i64, .int .i64]], []⟩]
noncomputable def Nz (N : Nat) : (Int) → Option (Int × Int × Int)
  | x0 =>
  ac (decide (x0 > 258)) (
  some (((0 : Int), (0 : Int), (0 : Int)))) (
  Option.bind (KE N (x0, (257 : Int), (285 : Int))) fun y0 =>
  some ((y0.1, y0.2.1, y0.2.2)))
noncomputable def YA (N : Nat) : Pk → Tr Pk := ak s103 w103 (Nz N)
theorem Kr (N : Nat) : aO Tryz.prog 103 (YA N) :=
  (ah ai aA (LI N) Tryz.func103 s103 w103 [] (cuts := []) trivial (fun _ => by kernel_rfl) (by kernel_rfl) (Nz N) (fun x => by kernel_rfl))
@[reducible] def s104 : SP := ⟨[.int .i64], []⟩
noncomputable def W9 (N : Nat) : av := [(130, Yw N)]
theorem LH (N : Nat) : aj Tryz.prog (W9 N) := ⟨Ko N, trivial⟩
@[reducible] def w104 : List SP := [⟨[.tup [.int .i64, .int .i64, .int .i64]], []⟩]
noncomputable def Ny (N : Nat) : (Int) → Option (Int × Int × Int)
  | x0 =>
  ac (decide (x0 > 32768)) (
  some (((0 : Int), (0 : Int), (0 : Int)))) (
  Option.bind (KD N (x0, (0 : Int), (29 : Int))) fun y0 =>
  some ((y0.1, y0.2.1, y0.2.2)))
noncomputable def Yz (N : Nat) : Pk → Tr Pk := ak s104 w104 (Ny N)
theorem Kq (N : Nat) : aO Tryz.prog 104 (Yz N) :=
  (ah ai aA (LH N) Tryz.func104 s104 w104 [] (cuts := []) trivial (fun _ => by kernel_rfl) (by kernel_rfl) (Ny N) (fun x => by kernel_rfl))
@[reducible] def s66 : SP := ⟨[.ro y0], []⟩
noncomputable def ZP (N : Nat) : av := [(27, T27 N), (103, YA N), (104, Yz N)]
theorem En (N : Nat) : aj Tryz.prog (ZP N) := ⟨BH N, Kr N, Kq N, trivial⟩
@[reducible] def C3 : LD := ⟨122, [18, 17, 16, 2, 3], [(.ret, [2, 3]), (.exit 0, [2, 3])], ⟨[.int .i64, .int .i64, .ro y0, .sl 0, .sl 1], [.row (.int .i64) 3, .row (.int .i64) 3]⟩, [(.exit 0, ⟨[.sl 0, .sl 1], [.row (.int .i64) 3, .row (.int .i64) 3]⟩)]⟩
abbrev Cw : Type := Int × Int × (List (Int × (Int × (Int × Unit)))) × (List Int) × (List Int)
abbrev BR : Type := (List Int) × (List Int)
noncomputable def tY (N : Nat) (f : Cw → Option BR) : Cw → Option BR
  | (x0, x1, x2, x3, x4) =>
  ac (decide (x0 < x1)) (
  ac (within x0 (List.length x2)) (
  Option.bind (x2[Int.toNat x0]?) fun y0 =>
  Option.bind (V8 N (y0.1, y0.2.1, y0.2.2.1)) fun y1 =>
  ac (!y1) (
  Option.bind (f (IntKind.wrap .i64 (x0 + 1), x1, x2, x3, x4)) fun r => some r) (
  ac (y0.2.1 == 0) (
  ac (within y0.1 (List.length x3)) (
  Option.bind (x3[Int.toNat y0.1]?) fun y2 =>
  ac (within y0.1 (List.length x3)) (
  Option.bind (x3[Int.toNat y0.1]?) fun y3 =>
  Option.bind (f (IntKind.wrap .i64 (x0 + 1), x1, x2, List.set x3 (Int.toNat y0.1) (IntKind.wrap .i64 (y2 + 1)), x4)) fun r => some r) (
  none)) (
  none)) (
  Option.bind (Nz N y0.2.1) fun y4 =>
  Option.bind (Ny N y0.2.2.1) fun y5 =>
  ac (within y4.1 (List.length x3)) (
  Option.bind (x3[Int.toNat y4.1]?) fun y6 =>
  ac (within y4.1 (List.length x3)) (
  Option.bind (x3[Int.toNat y4.1]?) fun y7 =>
  ac (within y5.1 (List.length x4)) (
  Option.bind (x4[Int.toNat y5.1]?) fun y8 =>
  ac (within y5.1 (List.length x4)) (
  Option.bind (x4[Int.toNat y5.1]?) fun y9 =>
  Option.bind (f (IntKind.wrap .i64 (x0 + 1), x1, x2, List.set x3 (Int.toNat y4.1) (IntKind.wrap .i64 (y6 + 1)), List.set x4 (Int.toNat y5.1) (IntKind.wrap .i64 (y8 + 1)))) fun r => some r) (
  none)) (
  none)) (
  none)) (
  none)))) (
  none)) (
  some ((x3, x4)))
noncomputable def gC (N : Nat) : Nat → Cw → Option BR
  | 0, _ => none
  | k + 1, x => tY N (gC N k) x
theorem Ji (N : Nat) (k : Nat) : ar Tryz.prog Tryz.f66 [] 122 (C3.cut (gC N k)) :=
  C3.loopT ai aA (En N) Tryz.f66 [] (cuts := []) trivial (by decide +kernel) (by kernel_rfl) (tY N) (gC N) (fun _ => rfl) (fun _ _ => rfl) (fun f x => by kernel_rfl) k
@[reducible] def w66 : List SP := [⟨[.tup [.sl 0, .sl 1]], [.row (.int .i64) 3, .row (.int .i64) 3]⟩]
noncomputable def Ve (N : Nat) : ((List (Int × (Int × (Int × Unit))))) → Option ((List Int) × (List Int))
  | x0 =>
  Option.bind (gC N N ((0 : Int), (↑(List.length x0) : Int), x0, [(0 : Int), (0 : Int), (0 : Int), (0 : Int), (0 : Int), (0 : Int), (0 : Int), (0 : Int), (0 : Int), (0 : Int), (0 : Int), (0 : Int), (0 : Int), (0 : Int), (0 : Int), (0 : Int), (0 : Int), (0 : Int), (0 : Int), (0 : Int), (0 : Int), (0 : Int), (0 : Int), (0 : Int), (0 : Int), (0 : Int), (0 : Int), (0 : Int), (0 : Int), (0 : Int), (0 : Int), (0 : Int), (0 : Int), (0 : Int), (0 : Int), (0 : Int), (0 : Int), (0 : Int), (0 : Int), (0 : Int), (0 : Int), (0 : Int), (0 : Int), (0 : Int), (0 : Int), (0 : Int), (0 : Int), (0 : Int), (0 : Int), (0 : Int), (0 : Int), (0 : Int), (0 : Int), (0 : Int), (0 : Int), (0 : Int), (0 : Int), (0 : Int), (0 : Int), (0 : Int), (0 : Int), (0 : Int), (0 : Int), (0 : Int), (0 : Int), (0 : Int), (0 : Int), (0 : Int), (0 : Int), (0 : Int), (0 : Int), (0 : Int), (0 : Int), (0 : Int), (0 : Int), (0 : Int), (0 : Int), (0 : Int), (0 : Int), (0 : Int), (0 : Int), (0 : Int), (0 : Int), (0 : Int), (0 : Int), (0 : Int), (0 : Int), (0 : Int), (0 : Int), (0 : Int), (0 : Int), (0 : Int), (0 : Int), (0 : Int), (0 : Int), (0 : Int), (0 : Int), (0 : Int), (0 : Int), (0 : Int), (0 : Int), (0 : Int), (0 : Int), (0 : Int), (0 : Int), (0 : Int), (0 : Int), (0 : Int), (0 : Int), (0 : Int), (0 : Int), (0 : Int), (0 : Int), (0 : Int), (0 : Int), (0 : Int), (0 : Int), (0 : Int), (0 : Int), (0 : Int), (0 : Int), (0 : Int), (0 : Int), (0 : Int), (0 : Int), (0 : Int), (0 : Int), (0 : Int), (0 : Int), (0 : Int), (0 : Int), (0 : Int), (0 : Int), (0 : Int), (0 : Int), (0 : Int), (0 : Int), (0 : Int), (0 : Int), (0 : Int), (0 : Int), (0 : Int), (0 : Int), (0 : Int), (0 : Int), (0 : Int), (0 : Int), (0 : Int), (0 : Int), (0 : Int), (0 : Int), (0 : Int), (0 : Int), (0 : Int), (0 : Int), (0 : Int), (0 : Int), (0 : Int), (0 : Int), (0 : Int), (0 : Int), (0 : Int), (0 : Int), (0 : Int), (0 : Int), (0 : Int), (0 : Int), (0 : Int), (0 : Int), (0 : Int), (0 : Int), (0 : Int), (0 : Int), (0 : Int), (0 : Int), (0 : Int), (0 : Int), (0 : Int), (0 : Int), (0 : Int), (0 : Int), (0 : Int), (0 : Int), (0 : Int), (0 : Int), (0 : Int), (0 : Int), (0 : Int), (0 : Int), (0 : Int), (0 : Int), (0 : Int), (0 : Int), (0 : Int), (0 : Int), (0 : Int), (0 : Int), (0 : Int), (0 : Int), (0 : Int), (0 : Int), (0 : Int), (0 : Int), (0 : Int), (0 : Int), (0 : Int), (0 : Int), (0 : Int), (0 : Int), (0 : Int), (0 : Int), (0 : Int), (0 : Int), (0 : Int), (0 : Int), (0 : Int), (0 : Int), (0 : Int), (0 : Int), (0 : Int), (0 : Int), (0 : Int), (0 : Int), (0 : Int), (0 : Int), (0 : Int), (0 : Int), (0 : Int), (0 : Int), (0 : Int), (0 : Int), (0 : Int), (0 : Int), (0 : Int), (0 : Int), (0 : Int), (0 : Int), (0 : Int), (0 : Int), (0 : Int), (0 : Int), (0 : Int), (0 : Int), (0 : Int), (0 : Int), (0 : Int), (0 : Int), (0 : Int), (0 : Int), (0 : Int), (0 : Int), (0 : Int), (0 : Int), (0 : Int), (0 : Int), (0 : Int), (1 : Int), (0 : Int), (0 : Int), (0 : Int), (0 : Int), (0 : Int), (0 : Int), (0 : Int), (0 : Int), (0 : Int), (0 : Int), (0 : Int), (0 : Int), (0 : Int), (0 : Int), (0 : Int), (0 : Int), (0 : Int), (0 : Int), (0 : Int), (0 : Int), (0 : Int), (0 : Int), (0 : Int), (0 : Int), (0 : Int), (0 : Int), (0 : Int), (0 : Int), (0 : Int)], List.replicate (30 : Nat) (0 : Int))) fun y0 =>
  some ((y0.1, y0.2))
noncomputable def T66 (N : Nat) : Pk → Tr Pk := ak s66 w66 (Ve N)
theorem Q8 (N : Nat) : aO Tryz.prog 66 (T66 N) :=
  (ah ai aA (En N) Tryz.func66 s66 w66 [] (cuts := [(122, C3.cut (gC N N))]) ⟨Ji N N, trivial⟩ (fun _ => by kernel_rfl) (by kernel_rfl) (Ve N) (fun x => by kernel_rfl))
@[reducible] def s102 : SP := ⟨[.ro y2, .ro (.int .i64)], []⟩
noncomputable def Xb (N : Nat) : av := []
theorem zv (N : Nat) : aj Tryz.prog (Xb N) := trivial
@[reducible] def Dp : LD := ⟨26, [8, 7, 0, 9], [(.ret, [4]), (.exit 0, [])], ⟨[.int .i64, .ro (.int .i64), .ro y2, .int .i64], []⟩, [(.ret, ⟨[.bool], []⟩), (.exit 0, ⟨[], []⟩)]⟩
abbrev CV : Type := Int × (List Int) × (List (Int × (Int × Unit))) × Int
abbrev Cn : Type := ((Bool) ⊕ (Unit))
noncomputable def uk (N : Nat) (f : CV → Option Cn) : CV → Option Cn
  | (x0, x1, x2, x3) =>
  ac (decide (x3 < x0)) (
  ac (within x3 (List.length x1)) (
  Option.bind (x1[Int.toNat x3]?) fun y0 =>
  ac (decide (y0 > 0)) (
  ac (decide (x3 ≥ (↑(List.length x2) : Int))) (
  some (.inl (false))) (
  ac (within x3 (List.length x2)) (
  Option.bind (x2[Int.toNat x3]?) fun y1 =>
  ac (y1.2.1 == 0) (
  some (.inl (false))) (
  Option.bind (f (x0, x1, x2, IntKind.wrap .i64 (x3 + 1))) fun r => match r with | .inl y => some (.inl y) | .inr y => some (.inr y))) (
  none))) (
  Option.bind (f (x0, x1, x2, IntKind.wrap .i64 (x3 + 1))) fun r => match r with | .inl y => some (.inl y) | .inr y => some (.inr y))) (
  none)) (
  some (.inr (())))
noncomputable def gI (N : Nat) : Nat → CV → Option Cn
  | 0, _ => none
  | k + 1, x => uk N (gI N k) x
theorem JB (N : Nat) (k : Nat) : ar Tryz.prog Tryz.f102 [] 26 (Dp.cut (gI N k)) :=
  Dp.loopT ai aA (zv N) Tryz.f102 [] (cuts := []) trivial (by decide +kernel) (by kernel_rfl) (uk N) (gI N) (fun _ => rfl) (fun _ _ => rfl) (fun f x => by kernel_rfl) k
@[reducible] def w102 : List SP := [⟨[.bool], []⟩]
noncomputable def NB (N : Nat) : ((List (Int × (Int × Unit))) × (List Int)) → Option (Bool)
  | (x0, x1) =>
  Option.bind (gI N N ((↑(List.length x1) : Int), x1, x0, (0 : Int))) fun y0 =>
  match y0 with
  | .inl y1 =>
  some (y1)
  | .inr y1 =>
  some (true)
noncomputable def am1 (N : Nat) : Pk → Tr Pk := ak s102 w102 (NB N)
theorem U1 (N : Nat) : aO Tryz.prog 102 (am1 N) :=
  (ah ai aA (zv N) Tryz.func102 s102 w102 [] (cuts := [(26, Dp.cut (gI N N))]) ⟨JB N N, trivial⟩ (fun _ => by kernel_rfl) (by kernel_rfl) (NB N) (fun x => by kernel_rfl))
@[reducible] def s156 : SP := ⟨[.int .u64], []⟩
noncomputable def Wq (N : Nat) : av := []
theorem K5 (N : Nat) : aj Tryz.prog (Wq N) := trivial
@[reducible] def w156 : List SP := [⟨[.int .u64], []⟩]
noncomputable def Vs (N : Nat) : (Int) → Option (Int)
  | x0 =>
  some (IntKind.wrap .u64 (↑(BitVec.toNat (BitVec.ofInt (64 : Nat) (Int.fdiv (IntKind.wrap .u64 (↑(BitVec.toNat (BitVec.ofInt (64 : Nat) (IntKind.wrap .u64 (↑(BitVec.toNat (BitVec.ofInt (64 : Nat) (Int.fdiv (IntKind.wrap .u64 (↑(BitVec.toNat (BitVec.ofInt (64 : Nat) (IntKind.wrap .u64 (↑(BitVec.toNat (BitVec.ofInt (64 : Nat) (Int.fdiv x0 (256 : Int)) &&& BitVec.ofInt (64 : Nat) (71777214294589695 : Int))) : Int)) ||| BitVec.ofInt (64 : Nat) (IntKind.wrap .u64 (IntKind.wrap .u64 (↑(BitVec.toNat (BitVec.ofInt (64 : Nat) x0 &&& BitVec.ofInt (64 : Nat) (71777214294589695 : Int))) : Int) * (256 : Int))))) : Int)) (65536 : Int)) &&& BitVec.ofInt (64 : Nat) (281470681808895 : Int))) : Int)) ||| BitVec.ofInt (64 : Nat) (IntKind.wrap .u64 (IntKind.wrap .u64 (↑(BitVec.toNat (BitVec.ofInt (64 : Nat) (IntKind.wrap .u64 (↑(BitVec.toNat (BitVec.ofInt (64 : Nat) (IntKind.wrap .u64 (↑(BitVec.toNat (BitVec.ofInt (64 : Nat) (Int.fdiv x0 (256 : Int)) &&& BitVec.ofInt (64 : Nat) (71777214294589695 : Int))) : Int)) ||| BitVec.ofInt (64 : Nat) (IntKind.wrap .u64 (IntKind.wrap .u64 (↑(BitVec.toNat (BitVec.ofInt (64 : Nat) x0 &&& BitVec.ofInt (64 : Nat) (71777214294589695 : Int))) : Int) * (256 : Int))))) : Int)) &&& BitVec.ofInt (64 : Nat) (281470681808895 : Int))) : Int) * (65536 : Int))))) : Int)) (4294967296 : Int)) ||| BitVec.ofInt (64 : Nat) (IntKind.wrap .u64 (IntKind.wrap .u64 (↑(BitVec.toNat (BitVec.ofInt (64 : Nat) (IntKind.wrap .u64 (↑(BitVec.toNat (BitVec.ofInt (64 : Nat) (Int.fdiv (IntKind.wrap .u64 (↑(BitVec.toNat (BitVec.ofInt (64 : Nat) (IntKind.wrap .u64 (↑(BitVec.toNat (BitVec.ofInt (64 : Nat) (Int.fdiv x0 (256 : Int)) &&& BitVec.ofInt (64 : Nat) (71777214294589695 : Int))) : Int)) ||| BitVec.ofInt (64 : Nat) (IntKind.wrap .u64 (IntKind.wrap .u64 (↑(BitVec.toNat (BitVec.ofInt (64 : Nat) x0 &&& BitVec.ofInt (64 : Nat) (71777214294589695 : Int))) : Int) * (256 : Int))))) : Int)) (65536 : Int)) &&& BitVec.ofInt (64 : Nat) (281470681808895 : Int))) : Int)) ||| BitVec.ofInt (64 : Nat) (IntKind.wrap .u64 (IntKind.wrap .u64 (↑(BitVec.toNat (BitVec.ofInt (64 : Nat) (IntKind.wrap .u64 (↑(BitVec.toNat (BitVec.ofInt (64 : Nat) (IntKind.wrap .u64 (↑(BitVec.toNat (BitVec.ofInt (64 : Nat) (Int.fdiv x0 (256 : Int)) &&& BitVec.ofInt (64 : Nat) (71777214294589695 : Int))) : Int)) ||| BitVec.ofInt (64 : Nat) (IntKind.wrap .u64 (IntKind.wrap .u64 (↑(BitVec.toNat (BitVec.ofInt (64 : Nat) x0 &&& BitVec.ofInt (64 : Nat) (71777214294589695 : Int))) : Int) * (256 : Int))))) : Int)) &&& BitVec.ofInt (64 : Nat) (281470681808895 : Int))) : Int) * (65536 : Int))))) : Int) * (4294967296 : Int))))) : Int))
noncomputable def ai2 (N : Nat) : Pk → Tr Pk := ak s156 w156 (Vs N)
theorem Un (N : Nat) : aO Tryz.prog 156 (ai2 N) :=
  (ah ai aA (K5 N) Tryz.func156 s156 w156 [] (cuts := []) trivial (fun _ => by kernel_rfl) (by kernel_rfl) (Vs N) (fun x => by kernel_rfl))
@[reducible] def s128 : SP := ⟨[.int .u64], []⟩
noncomputable def WO (N : Nat) : av := [(156, ai2 N)]
theorem Ls (N : Nat) : aj Tryz.prog (WO N) := ⟨Un N, trivial⟩
@[reducible] def w128 : List SP := [⟨[.int .u64], []⟩]
noncomputable def SD (N : Nat) : (Int) → Option (Int)
  | x0 =>
  Option.bind (Vs N (IntKind.wrap .u64 (↑(BitVec.toNat (BitVec.ofInt (64 : Nat) (IntKind.wrap .u64 (↑(BitVec.toNat (BitVec.ofInt (64 : Nat) (Int.fdiv (IntKind.wrap .u64 (↑(BitVec.toNat (BitVec.ofInt (64 : Nat) (IntKind.wrap .u64 (↑(BitVec.toNat (BitVec.ofInt (64 : Nat) (Int.fdiv (IntKind.wrap .u64 (↑(BitVec.toNat (BitVec.ofInt (64 : Nat) (IntKind.wrap .u64 (↑(BitVec.toNat (BitVec.ofInt (64 : Nat) (Int.fdiv x0 (2 : Int)) &&& BitVec.ofInt (64 : Nat) (6148914691236517205 : Int))) : Int)) ||| BitVec.ofInt (64 : Nat) (IntKind.wrap .u64 (IntKind.wrap .u64 (↑(BitVec.toNat (BitVec.ofInt (64 : Nat) x0 &&& BitVec.ofInt (64 : Nat) (6148914691236517205 : Int))) : Int) * (2 : Int))))) : Int)) (4 : Int)) &&& BitVec.ofInt (64 : Nat) (3689348814741910323 : Int))) : Int)) ||| BitVec.ofInt (64 : Nat) (IntKind.wrap .u64 (IntKind.wrap .u64 (↑(BitVec.toNat (BitVec.ofInt (64 : Nat) (IntKind.wrap .u64 (↑(BitVec.toNat (BitVec.ofInt (64 : Nat) (IntKind.wrap .u64 (↑(BitVec.toNat (BitVec.ofInt (64 : Nat) (Int.fdiv x0 (2 : Int)) &&& BitVec.ofInt (64 : Nat) (6148914691236517205 : Int))) : Int)) ||| BitVec.ofInt (64 : Nat) (IntKind.wrap .u64 (IntKind.wrap .u64 (↑(BitVec.toNat (BitVec.ofInt (64 : Nat) x0 &&& BitVec.ofInt (64 : Nat) (6148914691236517205 : Int))) : Int) * (2 : Int))))) : Int)) &&& BitVec.ofInt (64 : Nat) (3689348814741910323 : Int))) : Int) * (4 : Int))))) : Int)) (16 : Int)) &&& BitVec.ofInt (64 : Nat) (1085102592571150095 : Int))) : Int)) ||| BitVec.ofInt (64 : Nat) (IntKind.wrap .u64 (IntKind.wrap .u64 (↑(BitVec.toNat (BitVec.ofInt (64 : Nat) (IntKind.wrap .u64 (↑(BitVec.toNat (BitVec.ofInt (64 : Nat) (IntKind.wrap .u64 (↑(BitVec.toNat (BitVec.ofInt (64 : Nat) (Int.fdiv (IntKind.wrap .u64 (↑(BitVec.toNat (BitVec.ofInt (64 : Nat) (IntKind.wrap .u64 (↑(BitVec.toNat (BitVec.ofInt (64 : Nat) (Int.fdiv x0 (2 : Int)) &&& BitVec.ofInt (64 : Nat) (6148914691236517205 : Int))) : Int)) ||| BitVec.ofInt (64 : Nat) (IntKind.wrap .u64 (IntKind.wrap .u64 (↑(BitVec.toNat (BitVec.ofInt (64 : Nat) x0 &&& BitVec.ofInt (64 : Nat) (6148914691236517205 : Int))) : Int) * (2 : Int))))) : Int)) (4 : Int)) &&& BitVec.ofInt (64 : Nat) (3689348814741910323 : Int))) : Int)) ||| BitVec.ofInt (64 : Nat) (IntKind.wrap .u64 (IntKind.wrap .u64 (↑(BitVec.toNat (BitVec.ofInt (64 : Nat) (IntKind.wrap .u64 (↑(BitVec.toNat (BitVec.ofInt (64 : Nat) (IntKind.wrap .u64 (↑(BitVec.toNat (BitVec.ofInt (64 : Nat) (Int.fdiv x0 (2 : Int)) &&& BitVec.ofInt (64 : Nat) (6148914691236517205 : Int))) : Int)) ||| BitVec.ofInt (64 : Nat) (IntKind.wrap .u64 (IntKind.wrap .u64 (↑(BitVec.toNat (BitVec.ofInt (64 : Nat) x0 &&& BitVec.ofInt (64 : Nat) (6148914691236517205 : Int))) : Int) * (2 : Int))))) : Int)) &&& BitVec.ofInt (64 : Nat) (3689348814741910323 : Int))) : Int) * (4 : Int))))) : Int)) &&& BitVec.ofInt (64 : Nat) (1085102592571150095 : Int))) : Int) * (16 : Int))))) : Int))) fun y0 =>
  some (y0)
noncomputable def ak3 (N : Nat) : Pk → Tr Pk := ak s128 w128 (SD N)
theorem UJ (N : Nat) : aO Tryz.prog 128 (ak3 N) :=
  (ah ai aA (Ls N) Tryz.func128 s128 w128 [] (cuts := []) trivial (fun _ => by kernel_rfl) (by kernel_rfl) (SD N) (fun x => by kernel_rfl))
@[reducible] def s98 : SP := ⟨[.agg [.int .i64, .int .i64]], []⟩
noncomputable def Zn (N : Nat) : av := [(44, T44 N), (45, T45 N), (128, ak3 N)]
theorem Om (N : Nat) : aj Tryz.prog (Zn N) := ⟨HU N, Rp N, UJ N, trivial⟩
@[reducible] def w98 : List SP := [⟨[.int .i64], []⟩]
noncomputable def F98 (N : Nat) : (Int × Int) → Option (Int)
  | (x0, x1) =>
  Option.bind (Zb N x1) fun y0 =>
  Option.bind (F45 N (y0, x0)) fun y1 =>
  Option.bind (SD N (IntKind.wrap .u64 y1)) fun y2 =>
  ac (decide (IntKind.wrap .i64 ((64 : Int) - y0) < 0)) (
  none) (
  some (IntKind.wrap .i64 (Int.fdiv y2 ((2 : Int) ^ min (Int.toNat (IntKind.wrap .i64 ((64 : Int) - y0))) (64 : Nat)))))
noncomputable def T98 (N : Nat) : Pk → Tr Pk := ak s98 w98 (F98 N)
theorem XF (N : Nat) : aO Tryz.prog 98 (T98 N) :=
  (ah ai aA (Om N) Tryz.func98 s98 w98 [] (cuts := []) trivial (fun _ => by kernel_rfl) (by kernel_rfl) (F98 N) (fun x => by kernel_rfl))
@[reducible] def s59 : SP := ⟨[.adr 0 [], .agg [.int .i64, .int .i64]], [.var (.agg [.sl 1, .int .i64, .int .i64]), .row (.int .u8) 5]⟩
noncomputable def ZW (N : Nat) : av := [(98, T98 N), (14, Yt N)]
theorem OL (N : Nat) : aj Tryz.prog (ZW N) := ⟨XF N, rD N, trivial⟩
@[reducible] def w59 : List SP := [⟨[.tup []], [.var (.agg [.sl 1, .int .i64, .int .i64]), .row (.int .u8) 5]⟩]
noncomputable def Vf (N : Nat) : (Int × Int × Int × Int × (List Int)) → Option (Int × Int × (List Int))
  | (x0, x1, x2, x3, x4) =>
  Option.bind (F98 N (x0, x1)) fun y0 =>
  Option.bind (yk N (x1, y0, x2, x3, x4)) fun y1 =>
  some ((y1.1, y1.2.1, y1.2.2))
noncomputable def T59 (N : Nat) : Pk → Tr Pk := ak s59 w59 (Vf N)
theorem Rc (N : Nat) : aO Tryz.prog 59 (T59 N) :=
  (ah ai aA (OL N) Tryz.func59 s59 w59 [0] (cuts := []) trivial (fun _ => by kernel_rfl) (by kernel_rfl) (Vf N) (fun x => by kernel_rfl))
@[reducible] def s65 : SP := ⟨[.adr 0 [], .ro (.int .i64), .ro (.int .i64), .ro y0], [.var (.agg [.sl 1, .int .i64, .int .i64]), .row (.int .u8) 5]⟩
noncomputable def ZQ (N : Nat) : av := [(27, T27 N), (57, T57 N), (66, T66 N), (102, am1 N), (59, T59 N), (103, YA N), (14, Yt N), (104, Yz N)]
theorem uv (N : Nat) : aj Tryz.prog (ZQ N) := ⟨BH N, Rh N, Q8 N, U1 N, Rc N, Kr N, rD N, Kq N, trivial⟩
@[reducible] def C4 : LD := ⟨26, [23, 3, 0, 2, 1, 22, 24], [(.ret, [8]), (.exit 0, [1, 2, 0, 3])], ⟨[.int .i64, .ro y0, .adr 0 [], .ro (.int .i64), .ro (.int .i64), .ro y0, .int .i64], [.var (.agg [.sl 1, .int .i64, .int .i64]), .row (.int .u8) 5]⟩, [(.ret, ⟨[.int .i64], [.var (.agg [.sl 1, .int .i64, .int .i64]), .row (.int .u8) 5]⟩), (.exit 0, ⟨[.ro (.int .i64), .ro (.int .i64), .adr 0 [], .ro y0], [.var (.agg [.sl 1, .int .i64, .int .i64]), .row (.int .u8) 5]⟩)]⟩
abbrev Im : Type := Int × (List (Int × (Int × (Int × Unit)))) × (List Int) × (List Int) × (List (Int × (Int × (Int × Unit)))) × Int × Int × Int × (List Int)
abbrev H2 : Type := ((Int × Int × Int × (List Int)) ⊕ ((List Int) × (List Int) × (List (Int × (Int × (Int × Unit)))) × Int × Int × (List Int)))
noncomputable def DU (N : Nat) (f : Im → Option H2) : Im → Option H2
  | (x0, x1, x2, x3, x4, x5, x6, x7, x8) =>
  ac (decide (x5 < x0)) (
  ac (within x5 (List.length x4)) (
  Option.bind (x4[Int.toNat x5]?) fun y0 =>
  Option.bind (V8 N (y0.1, y0.2.1, y0.2.2.1)) fun y1 =>
  ac (!y1) (
  some (.inl (((1 : Int), x6, x7, x8)))) (
  Option.bind (f (x0, x1, x2, x3, x4, IntKind.wrap .i64 (x5 + 1), x6, x7, x8)) fun r => match r with | .inl y => some (.inl y) | .inr y => some (.inr y))) (
  none)) (
  some (.inr ((x3, x2, x1, x6, x7, x8))))
noncomputable def jp (N : Nat) : Nat → Im → Option H2
  | 0, _ => none
  | k + 1, x => DU N (jp N k) x
theorem Ay (N : Nat) (k : Nat) : ar Tryz.prog Tryz.f65 [0] 26 (C4.cut (jp N k)) :=
  C4.loopT ai aA (uv N) Tryz.f65 [0] (cuts := []) trivial (by decide +kernel) (by kernel_rfl) (DU N) (jp N) (fun _ => rfl) (fun _ _ => rfl) (fun f x => by kernel_rfl) k
@[reducible] def xy : LD := ⟨1018, [67, 66, 65, 13, 0, 11], [(.ret, [8]), (.exit 2, [0, 11])], ⟨[.int .i64, .int .i64, .ro y0, .sl 1, .adr 0 [], .sl 2], [.var (.agg [.sl 3, .int .i64, .int .i64]), .row y2 105, .row y2 105, .row (.int .u8) 5]⟩, [(.exit 2, ⟨[.adr 0 [], .sl 1], [.var (.agg [.sl 2, .int .i64, .int .i64]), .row y2 105, .row (.int .u8) 5]⟩)]⟩
abbrev xa : Type := Int × Int × (List (Int × (Int × (Int × Unit)))) × Int × Int × (List (Int × (Int × Unit))) × (List (Int × (Int × Unit))) × (List Int)
abbrev wu : Type := Int × Int × (List (Int × (Int × Unit))) × (List Int)
noncomputable def qA (N : Nat) (f : xa → Option wu) : xa → Option wu
  | (x0, x1, x2, x3, x4, x5, x6, x7) =>
  ac (decide (x0 < x1)) (
  ac (within x0 (List.length x2)) (
  Option.bind (x2[Int.toNat x0]?) fun y0 =>
  ac (y0.2.1 == 0) (
  ac (within y0.1 (List.length x6)) (
  Option.bind (x6[Int.toNat y0.1]?) fun y1 =>
  Option.bind (Vf N (y1.1, y1.2.1, x3, x4, x7)) fun y2 =>
  Option.bind (f (IntKind.wrap .i64 (x0 + 1), x1, x2, y2.1, y2.2.1, x5, x6, y2.2.2)) fun r => some r) (
  none)) (
  Option.bind (Nz N y0.2.1) fun y3 =>
  ac (within y3.1 (List.length x6)) (
  Option.bind (x6[Int.toNat y3.1]?) fun y4 =>
  Option.bind (Vf N (y4.1, y4.2.1, x3, x4, x7)) fun y5 =>
  Option.bind (yk N (y3.2.2, y3.2.1, y5.1, y5.2.1, y5.2.2)) fun y6 =>
  Option.bind (Ny N y0.2.2.1) fun y7 =>
  ac (within y7.1 (List.length x5)) (
  Option.bind (x5[Int.toNat y7.1]?) fun y8 =>
  Option.bind (Vf N (y8.1, y8.2.1, y6.1, y6.2.1, y6.2.2)) fun y9 =>
  Option.bind (yk N (y7.2.2, y7.2.1, y9.1, y9.2.1, y9.2.2)) fun y10 =>
  Option.bind (f (IntKind.wrap .i64 (x0 + 1), x1, x2, y10.1, y10.2.1, x5, x6, y10.2.2)) fun r => some r) (
  none)) (
  none))) (
  none)) (
  some ((x3, x4, x6, x7)))
noncomputable def fR (N : Nat) : Nat → xa → Option wu
  | 0, _ => none
  | k + 1, x => qA N (fR N k) x
theorem Gu (N : Nat) (k : Nat) : ar Tryz.prog Tryz.f65 [0] 1018 (xy.cut (fR N k)) :=
  xy.loopT ai aA (uv N) Tryz.f65 [0] (cuts := [(26, C4.cut (jp N N))]) ⟨Ay N N, trivial⟩ (by decide +kernel) (by kernel_rfl) (qA N) (fR N) (fun _ => rfl) (fun _ _ => rfl) (fun f x => by kernel_rfl) k
@[reducible] def w65 : List SP := [⟨[.int .i64], [.var (.agg [.sl 1, .int .i64, .int .i64]), .row (.int .u8) 5]⟩]
noncomputable def Y8 (N : Nat) : ((List Int) × (List Int) × (List (Int × (Int × (Int × Unit)))) × Int × Int × (List Int)) → Option (Int × Int × Int × (List Int))
  | (x0, x1, x2, x3, x4, x5) =>
  Option.bind (jp N N ((↑(List.length x2) : Int), x2, x1, x0, x2, (0 : Int), x3, x4, x5)) fun y0 =>
  match y0 with
  | .inl y1 =>
  some ((y1.1, y1.2.1, y1.2.2.1, y1.2.2.2))
  | .inr y1 =>
  Option.bind (V5 N y1.1) fun y2 =>
  Option.bind (V5 N y1.2.1) fun y3 =>
  Option.bind (Ve N y1.2.2.1) fun y4 =>
  ac (y2.1 != 0) (
  some (((50 : Int), y1.2.2.2.1, y1.2.2.2.2.1, y1.2.2.2.2.2))) (
  ac (y3.1 != 0) (
  some (((50 : Int), y1.2.2.2.1, y1.2.2.2.2.1, y1.2.2.2.2.2))) (
  Option.bind (NB N (y2.2, y4.1)) fun y5 =>
  ac (!y5) (
  some (((50 : Int), y1.2.2.2.1, y1.2.2.2.2.1, y1.2.2.2.2.2))) (
  Option.bind (NB N (y3.2, y4.2)) fun y6 =>
  ac (!y6) (
  some (((50 : Int), y1.2.2.2.1, y1.2.2.2.2.1, y1.2.2.2.2.2))) (
  Option.bind (fR N N ((0 : Int), (↑(List.length y1.2.2.1) : Int), y1.2.2.1, y1.2.2.2.1, y1.2.2.2.2.1, y3.2, y2.2, y1.2.2.2.2.2)) fun y7 =>
  ac (within (256 : Int) (List.length y7.2.2.1)) (
  Option.bind (y7.2.2.1[(256 : Nat)]?) fun y8 =>
  Option.bind (Vf N (y8.1, y8.2.1, y7.1, y7.2.1, y7.2.2.2)) fun y9 =>
  some (((0 : Int), y9.1, y9.2.1, y9.2.2))) (
  none)))))
noncomputable def T65 (N : Nat) : Pk → Tr Pk := ak s65 w65 (Y8 N)
theorem XX (N : Nat) : aO Tryz.prog 65 (T65 N) :=
  (ah ai aA (uv N) Tryz.func65 s65 w65 [0] (cuts := [(26, C4.cut (jp N N)), (1018, xy.cut (fR N N))]) ⟨Ay N N, Gu N N, trivial⟩ (fun _ => by kernel_rfl) (by kernel_rfl) (Y8 N) (fun x => by kernel_rfl))
@[reducible] def s153 : SP := ⟨[.nilsl, .int .i64], []⟩
noncomputable def Ws (N : Nat) : av := []
theorem K7 (N : Nat) : aj Tryz.prog (Ws N) := trivial
@[reducible] def y3 : Ty := (.cons (.int .i64) (.cons (.sl (.int .i64)) .unit))
@[reducible] def w153 : List SP := [⟨[.slp 0 (.c 0) (.c 0)], [.row y3 137]⟩, ⟨[.sl 0], [.row y3 137]⟩]
noncomputable def Na (N : Nat) : (Int) → Option ((((List (Int × ((List Int) × Unit)))) ⊕ ((List (Int × ((List Int) × Unit))))))
  | x0 =>
  ac (decide (x0 < 0)) (
  none) (
  ac (decide (IntKind.wrap .i64 (x0 - 0) > 0)) (
  ac (decide ((0 : Int) < IntKind.wrap .i64 (x0 - 0) ∧ IntKind.wrap .i64 (x0 - 0) * 32 ≤ (140737488355328 : Int) ∧ IntKind.wrap .i64 (x0 - 0) ≤ 140737488355328)) (
  ac (decide ((0 : Int) ≤ (0 : Int) ∧ (0 : Int) ≤ (↑(List.length (List.replicate (Int.toNat (IntKind.wrap .i64 (x0 - 0))) ((0 : Int), ae0 (Ty.den (Ty.int IntKind.i64)), ()))) : Int))) (
  some (.inl (List.replicate (Int.toNat (IntKind.wrap .i64 (x0 - 0))) ((0 : Int), ae0 (Ty.den (Ty.int IntKind.i64)), ())))) (
  none)) (
  none)) (
  some (.inr ([]))))
noncomputable def ai5 (N : Nat) : Pk → Tr Pk := u4 (JH (Ty.cons (Ty.int IntKind.i64) (Ty.cons (Ty.sl (Ty.int IntKind.i64)) (Ty.unit))) 137) (ak s153 w153 (Na N))
theorem Uq (N : Nat) : aO Tryz.prog 153 (ai5 N) :=
  lQ (Eb _ _) (ah ai aA (K7 N) Tryz.func153 s153 w153 [] (cuts := []) trivial (fun _ => by kernel_rfl) (by kernel_rfl) (Na N) (fun x => by kernel_rfl))
@[reducible] def y4 : Ty := (.sl (.cons (.int .i64) (.cons (.sl (.int .i64)) .unit)))
@[reducible] def s124 : SP := ⟨[.sl 0], [.row y4 133]⟩
noncomputable def WR (N : Nat) : av := [(153, ai5 N)]
theorem qS (N : Nat) : aj Tryz.prog (WR N) := ⟨Uq N, trivial⟩
@[reducible] def tT : LD := ⟨58, [3, 11, 10, 0, 9], [(.ret, [2]), (.exit 0, [3, 0])], ⟨[.int .i64, .int .i64, .int .i64, .sl 0, .sl 0], [.row y4 133]⟩, [(.exit 0, ⟨[.int .i64, .sl 0], [.row y4 133]⟩)]⟩
abbrev CR : Type := Int × Int × Int × (List (List (Int × ((List Int) × Unit))))
abbrev Ck : Type := Int × (List (List (Int × ((List Int) × Unit))))
noncomputable def D5 (N : Nat) (f : CR → Option Ck) : CR → Option Ck
  | (x0, x1, x2, x3) =>
  ac (decide (x1 < x2)) (
  ac (within x1 (List.length x3)) (
  Option.bind (x3[Int.toNat x1]?) fun y0 =>
  ac (decide (IntKind.wrap .i64 (x0 + (↑(List.length y0) : Int)) < 0)) (
  none) (
  Option.bind (f (IntKind.wrap .i64 (x0 + (↑(List.length y0) : Int)), IntKind.wrap .i64 (x1 + 1), x2, x3)) fun r => some r)) (
  none)) (
  some ((x0, x3)))
noncomputable def i6 (N : Nat) : Nat → CR → Option Ck
  | 0, _ => none
  | k + 1, x => D5 N (i6 N k) x
theorem yv (N : Nat) (k : Nat) : ar Tryz.prog Tryz.f124 [] 58 (tT.cut (i6 N k)) :=
  tT.loopT ai aA (qS N) Tryz.f124 [] (cuts := []) trivial (by decide +kernel) (by kernel_rfl) (D5 N) (i6 N) (fun _ => rfl) (fun _ _ => rfl) (fun f x => by kernel_rfl) k
@[reducible] def xN : LD := ⟨250, [6, 27, 26, 25], [(.ret, [2]), (.exit 2, [6])], ⟨[.sl 0, .int .i64, .int .i64, .sl 1], [.row y3 137, .row y4 133]⟩, [(.exit 2, ⟨[.sl 0], [.row y3 137]⟩)]⟩
abbrev xq : Type := Int × Int × (List (Int × ((List Int) × Unit))) × (List (List (Int × ((List Int) × Unit))))
abbrev wQ : Type := (List (Int × ((List Int) × Unit)))
noncomputable def yA (N : Nat) (f : xq → Option wQ) : xq → Option wQ
  | (x0, x1, x2, x3) =>
  ac (decide (x0 < x1)) (
  ac (within x0 (List.length x3)) (
  Option.bind (x3[Int.toNat x0]?) fun y0 =>
  ac (decide ((List.length x2 + List.length y0) * 32 ≤ (140737488355328 : Nat) ∧ List.length x2 + List.length y0 ≤ 140737488355328)) (
  Option.bind (f (IntKind.wrap .i64 (x0 + 1), x1, x2 ++ y0, x3)) fun r => some r) (
  none)) (
  none)) (
  some (x2))
noncomputable def fX (N : Nat) : Nat → xq → Option wQ
  | 0, _ => none
  | k + 1, x => yA N (fX N k) x
theorem GG (N : Nat) (k : Nat) : ar Tryz.prog Tryz.f124 [] 250 (xN.cut (fX N k)) :=
  xN.loopT ai aA (qS N) Tryz.f124 [] (cuts := [(58, tT.cut (i6 N N))]) ⟨yv N N, trivial⟩ (by decide +kernel) (by kernel_rfl) (yA N) (fX N) (fun _ => rfl) (fun _ _ => rfl) (fun f x => by kernel_rfl) k
@[reducible] def w124 : List SP := [⟨[.sl 0], [.row y3 137]⟩]
noncomputable def SF (N : Nat) : ((List (List (Int × ((List Int) × Unit))))) → Option ((List (Int × ((List Int) × Unit))))
  | x0 =>
  Option.bind (i6 N N ((0 : Int), (0 : Int), (↑(List.length x0) : Int), x0)) fun y0 =>
  Option.bind (Na N y0.1) fun y1 =>
  match y1 with
  | .inl y2 =>
  Option.bind (fX N N ((0 : Int), (↑(List.length y0.2) : Int), [], y0.2)) fun y3 =>
  some (y3)
  | .inr y2 =>
  Option.bind (fX N N ((0 : Int), (↑(List.length y0.2) : Int), y2, y0.2)) fun y4 =>
  some (y4)
noncomputable def ak6 (N : Nat) : Pk → Tr Pk := ak s124 w124 (SF N)
theorem UM (N : Nat) : aO Tryz.prog 124 (ak6 N) :=
  (ah ai aA (qS N) Tryz.func124 s124 w124 [] (cuts := [(58, tT.cut (i6 N N)), (250, xN.cut (fX N N))]) ⟨yv N N, GG N N, trivial⟩ (fun _ => by kernel_rfl) (by kernel_rfl) (SF N) (fun x => by kernel_rfl))
@[reducible] def s155 : SP := ⟨[.int .i64], []⟩
noncomputable def Wr (N : Nat) : av := []
theorem K6 (N : Nat) : aj Tryz.prog (Wr N) := trivial
@[reducible] def w155 : List SP := [⟨[.bool], []⟩]
noncomputable def M8 (N : Nat) : (Int) → Option (Bool)
  | x0 =>
  some (x0 != x0)
noncomputable def ai3 (N : Nat) : Pk → Tr Pk := ak s155 w155 (M8 N)
theorem Uo (N : Nat) : aO Tryz.prog 155 (ai3 N) :=
  (ah ai aA (K6 N) Tryz.func155 s155 w155 [] (cuts := []) trivial (fun _ => by kernel_rfl) (by kernel_rfl) (M8 N) (fun x => by kernel_rfl))
@[reducible] def s127 : SP := ⟨[.int .i64, .int .i64], []⟩
noncomputable def WP (N : Nat) : av := [(155, ai3 N)]
theorem Lt (N : Nat) : aj Tryz.prog (WP N) := ⟨Uo N, trivial⟩
@[reducible] def w127 : List SP := [⟨[.int .i64], []⟩]
noncomputable def Vw (N : Nat) : (Int × Int) → Option (Int)
  | (x0, x1) =>
  Option.bind (M8 N x0) fun y0 =>
  Option.bind (M8 N x1) fun y1 =>
  ac (y0) (
  ac (y1) (
  some ((0 : Int))) (
  some ((-1 : Int)))) (
  ac (y1) (
  some ((1 : Int))) (
  ac (decide (x0 < x1)) (
  some ((-1 : Int))) (
  ac (decide (x0 > x1)) (
  some ((1 : Int))) (
  some ((0 : Int))))))
noncomputable def ak4 (N : Nat) : Pk → Tr Pk := ak s127 w127 (Vw N)
theorem UK (N : Nat) : aO Tryz.prog 127 (ak4 N) :=
  (ah ai aA (Lt N) Tryz.func127 s127 w127 [] (cuts := []) trivial (fun _ => by kernel_rfl) (by kernel_rfl) (Vw N) (fun x => by kernel_rfl))
@[reducible] def s126 : SP := ⟨[.agg [.int .i64, .ro (.int .i64)], .agg [.int .i64, .ro (.int .i64)]], []⟩
noncomputable def WQ (N : Nat) : av := [(127, ak4 N)]
theorem Lu (N : Nat) : aj Tryz.prog (WQ N) := ⟨UK N, trivial⟩
@[reducible] def w126 : List SP := [⟨[.int .i64], []⟩]
noncomputable def Gk (N : Nat) : (Int × (List Int) × Int × (List Int)) → Option (Int)
  | (x0, x1, x2, x3) =>
  Option.bind (Vw N (x0, x2)) fun y0 =>
  some (y0)
noncomputable def HV (N : Nat) : Pk → Tr Pk := ak s126 w126 (Gk N)
theorem nI (N : Nat) : aO Tryz.prog 126 (HV N) :=
  (ah ai aA (Lu N) Tryz.func126 s126 w126 [] (cuts := []) trivial (fun _ => by kernel_rfl) (by kernel_rfl) (Gk N) (fun x => by kernel_rfl))
@[reducible] def s168a : SP := ⟨[.slp 0 .h .h, .int .i64, .int .i64, .fn 126], [.row y3 137]⟩
noncomputable def Td (N : Nat) : av := [(126, HV N)]
theorem oy (N : Nat) : aj Tryz.prog (Td N) := ⟨nI N, trivial⟩
@[reducible] def nK : LD := ⟨402, [9, 3, 1, 2, 8, 0], [(.ret, []), (.exit 2, [8, 2, 1, 3, 0]), (.exit 1, [8, 2, 1, 3, 0]), (.exit 0, [])], ⟨[.int .i64, .fn 126, .int .i64, .int .i64, .int .i64, .slp 0 .h .h], [.row y3 137]⟩, [(.exit 2, ⟨[.int .i64, .int .i64, .int .i64, .fn 126, .slp 0 .h .h], [.row y3 137]⟩)]⟩
abbrev rV : Type := Int × Int × Int × Int × Nat × Nat × (List (Int × ((List Int) × Unit)))
abbrev rJ : Type := Int × Int × Int × Nat × Nat × (List (Int × ((List Int) × Unit)))
noncomputable def nW (N : Nat) (f : rV → Option rJ) : rV → Option rJ
  | (x0, x1, x2, x3, x4, x5, x6) =>
  ac (decide (x0 > x1)) (
  ac (within x0 x5) (
  Option.bind (x6[x4 + Int.toNat x0]?) fun y0 =>
  ac (within (IntKind.wrap .i64 (x0 - 1)) x5) (
  Option.bind (x6[x4 + Int.toNat (IntKind.wrap .i64 (x0 - 1))]?) fun y1 =>
  Option.bind (Gk N (y0.1, y0.2.1, y1.1, y1.2.1)) fun y2 =>
  ac (decide (y2 < 0)) (
  ac (within (IntKind.wrap .i64 (x0 - 1)) x5) (
  Option.bind (x6[x4 + Int.toNat (IntKind.wrap .i64 (x0 - 1))]?) fun y3 =>
  ac (within x0 x5) (
  Option.bind (x6[x4 + Int.toNat x0]?) fun y4 =>
  ac (within x0 x5) (
  Option.bind (x6[x4 + Int.toNat x0]?) fun y5 =>
  ac (within (IntKind.wrap .i64 (x0 - 1)) x5) (
  Option.bind ((List.set x6 (x4 + Int.toNat x0) (y3.1, y3.2.1, ()))[x4 + Int.toNat (IntKind.wrap .i64 (x0 - 1))]?) fun y6 =>
  Option.bind (f (IntKind.wrap .i64 (x0 - 1), x1, x2, x3, x4, x5, List.set (List.set x6 (x4 + Int.toNat x0) (y3.1, y3.2.1, ())) (x4 + Int.toNat (IntKind.wrap .i64 (x0 - 1))) (y4.1, y4.2.1, ()))) fun r => some r) (
  none)) (
  none)) (
  none)) (
  none)) (
  some ((x3, x2, x1, x4, x5, x6)))) (
  none)) (
  none)) (
  some ((x3, x2, x1, x4, x5, x6)))
noncomputable def db (N : Nat) : Nat → rV → Option rJ
  | 0, _ => none
  | k + 1, x => nW N (db N k) x
theorem qu (N : Nat) (k : Nat) : ar Tryz.prog Tryz.f168 [0] 402 (nK.cut (db N k)) :=
  nK.loopT ai aA (oy N) Tryz.f168 [0] (cuts := []) trivial (by decide +kernel) (by kernel_rfl) (nW N) (db N) (fun _ => rfl) (fun _ _ => rfl) (fun f x => by kernel_rfl) k
@[reducible] def Dh : LD := ⟨6, [2, 1, 3, 8, 0], [(.ret, []), (.exit 0, [])], ⟨[.int .i64, .int .i64, .fn 126, .int .i64, .slp 0 .h .h], [.row y3 137]⟩, [(.exit 0, ⟨[], [.row y3 137]⟩)]⟩
abbrev CL : Type := Int × Int × Int × Nat × Nat × (List (Int × ((List Int) × Unit)))
abbrev Ce : Type := (List (Int × ((List Int) × Unit)))
noncomputable def qF (N : Nat) (f : CL → Option Ce) : CL → Option Ce
  | (x0, x1, x2, x3, x4, x5) =>
  ac (decide (x2 < x0)) (
  Option.bind (db N N (x2, x1, x0, x2, x3, x4, x5)) fun y0 =>
  Option.bind (f (y0.2.1, y0.2.2.1, IntKind.wrap .i64 (y0.1 + 1), y0.2.2.2.1, y0.2.2.2.2.1, y0.2.2.2.2.2)) fun r => some r) (
  some (x5))
noncomputable def fv (N : Nat) : Nat → CL → Option Ce
  | 0, _ => none
  | k + 1, x => qF N (fv N k) x
theorem Jt (N : Nat) (k : Nat) : ar Tryz.prog Tryz.f168 [0] 6 (Dh.cut (fv N k)) :=
  Dh.loopT ai aA (oy N) Tryz.f168 [0] (cuts := [(402, nK.cut (db N N))]) ⟨qu N N, trivial⟩ (by decide +kernel) (by kernel_rfl) (qF N) (fv N) (fun _ => rfl) (fun _ _ => rfl) (fun f x => by kernel_rfl) k
@[reducible] def w168a : List SP := [⟨[.tup []], [.row y3 137]⟩]
noncomputable def As (N : Nat) : (Nat × Nat × Int × Int × (List (Int × ((List Int) × Unit)))) → Option ((List (Int × ((List Int) × Unit))))
  | (x0, x1, x2, x3, x4) =>
  Option.bind (fv N N (x3, x2, IntKind.wrap .i64 (x2 + 1), x0, x1, x4)) fun y0 =>
  some (y0)
noncomputable def VV (N : Nat) : Pk → Tr Pk := ak s168a w168a (As N)
theorem QR (N : Nat) : aO Tryz.prog 168 (VV N) :=
  (ah ai aA (oy N) Tryz.func168 s168a w168a [0] (cuts := [(402, nK.cut (db N N)), (6, Dh.cut (fv N N))]) ⟨qu N N, Jt N N, trivial⟩ (fun _ => by kernel_rfl) (by kernel_rfl) (As N) (fun x => by kernel_rfl))
noncomputable def ah5 (N : Nat) : Pk → Tr Pk := (VV N)
theorem Uf (N : Nat) : aO Tryz.prog 168 (ah5 N) := (QR N)
@[reducible] def s174a : SP := ⟨[.slp 0 .h .h, .int .i64, .int .i64, .int .i64, .fn 126], [.row y3 137]⟩
noncomputable def S8 (N : Nat) : av := [(126, HV N)]
theorem uB (N : Nat) : aj Tryz.prog (S8 N) := ⟨nI N, trivial⟩
@[reducible] def De : LD := ⟨6, [10, 3, 2, 0, 1], [(.ret, []), (.exit 0, [])], ⟨[.int .i64, .int .i64, .int .i64, .slp 0 .h .h, .int .i64], [.row y3 137]⟩, [(.exit 0, ⟨[], [.row y3 137]⟩)]⟩
abbrev CJ : Type := Int × Int × Int × Nat × Nat × Int × (List (Int × ((List Int) × Unit)))
abbrev Cc : Type := (List (Int × ((List Int) × Unit)))
noncomputable def ue (N : Nat) (f : CJ → Option Cc) : CJ → Option Cc
  | (x0, x1, x2, x3, x4, x5, x6) =>
  ac (decide (x0 < x1)) (
  ac (within (IntKind.wrap .i64 (x2 + x0)) x4) (
  Option.bind (x6[x3 + Int.toNat (IntKind.wrap .i64 (x2 + x0))]?) fun y0 =>
  ac (within (IntKind.wrap .i64 (x5 + x0)) x4) (
  Option.bind (x6[x3 + Int.toNat (IntKind.wrap .i64 (x5 + x0))]?) fun y1 =>
  ac (within (IntKind.wrap .i64 (x5 + x0)) x4) (
  Option.bind (x6[x3 + Int.toNat (IntKind.wrap .i64 (x5 + x0))]?) fun y2 =>
  ac (within (IntKind.wrap .i64 (x2 + x0)) x4) (
  Option.bind ((List.set x6 (x3 + Int.toNat (IntKind.wrap .i64 (x5 + x0))) (y0.1, y0.2.1, ()))[x3 + Int.toNat (IntKind.wrap .i64 (x2 + x0))]?) fun y3 =>
  Option.bind (f (IntKind.wrap .i64 (x0 + 1), x1, x2, x3, x4, x5, List.set (List.set x6 (x3 + Int.toNat (IntKind.wrap .i64 (x5 + x0))) (y0.1, y0.2.1, ())) (x3 + Int.toNat (IntKind.wrap .i64 (x2 + x0))) (y1.1, y1.2.1, ()))) fun r => some r) (
  none)) (
  none)) (
  none)) (
  none)) (
  some (x6))
noncomputable def iX (N : Nat) : Nat → CJ → Option Cc
  | 0, _ => none
  | k + 1, x => ue N (iX N k) x
theorem Jr (N : Nat) (k : Nat) : ar Tryz.prog Tryz.f174 [0] 6 (De.cut (iX N k)) :=
  De.loopT ai aA (uB N) Tryz.f174 [0] (cuts := []) trivial (by decide +kernel) (by kernel_rfl) (ue N) (iX N) (fun _ => rfl) (fun _ _ => rfl) (fun f x => by kernel_rfl) k
@[reducible] def w174a : List SP := [⟨[.tup []], [.row y3 137]⟩]
noncomputable def tg (N : Nat) : (Nat × Nat × Int × Int × Int × (List (Int × ((List Int) × Unit)))) → Option ((List (Int × ((List Int) × Unit))))
  | (x0, x1, x2, x3, x4, x5) =>
  Option.bind (iX N N ((0 : Int), x4, x3, x0, x1, x2, x5)) fun y0 =>
  some (y0)
noncomputable def VQ (N : Nat) : Pk → Tr Pk := ak s174a w174a (tg N)
theorem QM (N : Nat) : aO Tryz.prog 174 (VQ N) :=
  (ah ai aA (uB N) Tryz.func174 s174a w174a [0] (cuts := [(6, De.cut (iX N N))]) ⟨Jr N N, trivial⟩ (fun _ => by kernel_rfl) (by kernel_rfl) (tg N) (fun x => by kernel_rfl))
noncomputable def ag9 (N : Nat) : Pk → Tr Pk := (VQ N)
theorem TZ (N : Nat) : aO Tryz.prog 174 (ag9 N) := (QM N)
@[reducible] def s173a : SP := ⟨[.slp 0 .h .h, .int .i64, .int .i64, .int .i64, .fn 126], [.row y3 137]⟩
noncomputable def S9 (N : Nat) : av := [(174, ag9 N), (126, HV N)]
theorem uC (N : Nat) : aj Tryz.prog (S9 N) := ⟨TZ N, nI N, trivial⟩
@[reducible] def xC : LD := ⟨28, [10, 0, 2, 4, 11], [(.ret, []), (.exit 0, [0, 2, 10, 4])], ⟨[.int .i64, .slp 0 .h .h, .int .i64, .fn 126, .int .i64], [.row y3 137]⟩, [(.exit 0, ⟨[.slp 0 .h .h, .int .i64, .int .i64, .fn 126], [.row y3 137]⟩)]⟩
abbrev xg : Type := Int × Nat × Nat × Int × Int × (List (Int × ((List Int) × Unit)))
abbrev wD : Type := Nat × Nat × Int × Int × (List (Int × ((List Int) × Unit)))
noncomputable def yx (N : Nat) (f : xg → Option wD) : xg → Option wD
  | (x0, x1, x2, x3, x4, x5) =>
  ac (x0 != x4) (
  ac (decide (x0 > x4)) (
  Option.bind (tg N (x1, x2, IntKind.wrap .i64 (x3 - x0), x3, x4, x5)) fun y0 =>
  Option.bind (f (IntKind.wrap .i64 (x0 - x4), x1, x2, x3, x4, y0)) fun r => some r) (
  Option.bind (tg N (x1, x2, IntKind.wrap .i64 (x3 - x0), IntKind.wrap .i64 (IntKind.wrap .i64 (x3 + x4) - x0), x0, x5)) fun y1 =>
  Option.bind (f (x0, x1, x2, x3, IntKind.wrap .i64 (x4 - x0), y1)) fun r => some r)) (
  some ((x1, x2, x3, x0, x5)))
noncomputable def iw (N : Nat) : Nat → xg → Option wD
  | 0, _ => none
  | k + 1, x => yx N (iw N k) x
theorem Gy (N : Nat) (k : Nat) : ar Tryz.prog Tryz.f173 [0] 28 (xC.cut (iw N k)) :=
  xC.loopT ai aA (uC N) Tryz.f173 [0] (cuts := []) trivial (by decide +kernel) (by kernel_rfl) (yx N) (iw N) (fun _ => rfl) (fun _ _ => rfl) (fun f x => by kernel_rfl) k
@[reducible] def w173a : List SP := [⟨[.tup []], [.row y3 137]⟩]
noncomputable def ti (N : Nat) : (Nat × Nat × Int × Int × Int × (List (Int × ((List Int) × Unit)))) → Option ((List (Int × ((List Int) × Unit))))
  | (x0, x1, x2, x3, x4, x5) =>
  Option.bind (iw N N (IntKind.wrap .i64 (x3 - x2), x0, x1, x3, IntKind.wrap .i64 (x4 - x3), x5)) fun y0 =>
  Option.bind (tg N (y0.1, y0.2.1, IntKind.wrap .i64 (y0.2.2.1 - y0.2.2.2.1), y0.2.2.1, y0.2.2.2.1, y0.2.2.2.2)) fun y1 =>
  some (y1)
noncomputable def VR (N : Nat) : Pk → Tr Pk := ak s173a w173a (ti N)
theorem QN (N : Nat) : aO Tryz.prog 173 (VR N) :=
  (ah ai aA (uC N) Tryz.func173 s173a w173a [0] (cuts := [(28, xC.cut (iw N N))]) ⟨Gy N N, trivial⟩ (fun _ => by kernel_rfl) (by kernel_rfl) (ti N) (fun x => by kernel_rfl))
noncomputable def ah0 (N : Nat) : Pk → Tr Pk := (VR N)
theorem Ua (N : Nat) : aO Tryz.prog 173 (ah0 N) := (QN N)
@[reducible] def s169a : SP := ⟨[.slp 0 .h .h, .int .i64, .int .i64, .int .i64, .fn 126], [.row y3 137]⟩
@[reducible] def w169a : List SP := [⟨[.tup []], [.row (.cons (.int .i64) (.cons (.sl (.int .i64)) .unit)) 137]⟩]
noncomputable def Tc (N : Nat) (G : (Nat × Nat × Int × Int × Int × (List (Int × ((List Int) × Unit)))) → Option ((List (Int × ((List Int) × Unit))))) : List (Nat × (Pk → Tr Pk)) := [(169, ak s169a w169a G), (173, ah0 N), (126, HV N)]
theorem eR (N : Nat) (G : (Nat × Nat × Int × Int × Int × (List (Int × ((List Int) × Unit)))) → Option ((List (Int × ((List Int) × Unit))))) (hG : aO Tryz.prog 169 (ak s169a w169a G)) : aj Tryz.prog (Tc N G) := ⟨hG, Ua N, nI N, trivial⟩
@[reducible] def Al : LD := ⟨172, [10, 11, 4, 0, 1], [(.ret, []), (.exit 0, [1, 10, 0])], ⟨[.int .i64, .int .i64, .fn 126, .slp 0 .h .h, .int .i64], [.row y3 137]⟩, [(.exit 0, ⟨[.int .i64, .int .i64, .slp 0 .h .h], [.row y3 137]⟩)]⟩
abbrev rU : Type := Int × Int × Nat × Nat × Int × (List (Int × ((List Int) × Unit)))
abbrev rI : Type := Int × Int × Nat × Nat × (List (Int × ((List Int) × Unit)))
noncomputable def nV (N : Nat) (G : (Nat × Nat × Int × Int × Int × (List (Int × ((List Int) × Unit)))) → Option ((List (Int × ((List Int) × Unit))))) (f : rU → Option rI) : rU → Option rI
  | (x0, x1, x2, x3, x4, x5) =>
  ac (decide (x0 < x1)) (
  ac (within (IntKind.wrap .i64 (Int.fdiv (IntKind.wrap .u64 (IntKind.wrap .i64 (x0 + x1))) (2 : Int))) x3) (
  Option.bind (x5[x2 + Int.toNat (IntKind.wrap .i64 (Int.fdiv (IntKind.wrap .u64 (IntKind.wrap .i64 (x0 + x1))) (2 : Int)))]?) fun y0 =>
  ac (within x4 x3) (
  Option.bind (x5[x2 + Int.toNat x4]?) fun y1 =>
  Option.bind (Gk N (y0.1, y0.2.1, y1.1, y1.2.1)) fun y2 =>
  ac (decide (y2 < 0)) (
  Option.bind (f (IntKind.wrap .i64 (IntKind.wrap .i64 (Int.fdiv (IntKind.wrap .u64 (IntKind.wrap .i64 (x0 + x1))) (2 : Int)) + 1), x1, x2, x3, x4, x5)) fun r => some r) (
  Option.bind (f (x0, IntKind.wrap .i64 (Int.fdiv (IntKind.wrap .u64 (IntKind.wrap .i64 (x0 + x1))) (2 : Int)), x2, x3, x4, x5)) fun r => some r)) (
  none)) (
  none)) (
  some ((x4, x0, x2, x3, x5)))
noncomputable def em (N : Nat) (G : (Nat × Nat × Int × Int × Int × (List (Int × ((List Int) × Unit)))) → Option ((List (Int × ((List Int) × Unit))))) : Nat → rU → Option rI
  | 0, _ => none
  | k + 1, x => nV N G (em N G k) x
noncomputable def gU (N : Nat) (G : (Nat × Nat × Int × Int × Int × (List (Int × ((List Int) × Unit)))) → Option ((List (Int × ((List Int) × Unit))))) (k : Nat) : Cut := Al.cut (em N G k)
theorem eP (N : Nat) (G : (Nat × Nat × Int × Int × Int × (List (Int × ((List Int) × Unit)))) → Option ((List (Int × ((List Int) × Unit))))) (hG : aO Tryz.prog 169 (ak s169a w169a G)) (k : Nat) : ar Tryz.prog Tryz.f169 [0] 172 (gU N G k) :=
  Al.loopT ai aA (eR N G hG) Tryz.f169 [0] (cuts := []) trivial (by decide +kernel) (by kernel_rfl) (nV N G) (em N G) (fun _ => rfl) (fun _ _ => rfl) (fun f x => by kernel_rfl) k
@[reducible] def Aj : LD := ⟨698, [13, 10, 0], [(.ret, []), (.exit 2, [])], ⟨[.int .i64, .int .i64, .slp 0 .h .h], [.row y3 137]⟩, [(.exit 2, ⟨[], [.row y3 137]⟩)]⟩
abbrev rS : Type := Int × Int × Nat × Nat × (List (Int × ((List Int) × Unit)))
abbrev rG : Type := (List (Int × ((List Int) × Unit)))
noncomputable def nT (N : Nat) (G : (Nat × Nat × Int × Int × Int × (List (Int × ((List Int) × Unit)))) → Option ((List (Int × ((List Int) × Unit))))) (f : rS → Option rG) : rS → Option rG
  | (x0, x1, x2, x3, x4) =>
  ac (decide (x0 < IntKind.wrap .i64 (x1 - 1))) (
  ac (within (IntKind.wrap .i64 (x0 + 1)) x3) (
  Option.bind (x4[x2 + Int.toNat (IntKind.wrap .i64 (x0 + 1))]?) fun y0 =>
  ac (within x0 x3) (
  Option.bind (x4[x2 + Int.toNat x0]?) fun y1 =>
  ac (within x0 x3) (
  Option.bind (x4[x2 + Int.toNat x0]?) fun y2 =>
  ac (within (IntKind.wrap .i64 (x0 + 1)) x3) (
  Option.bind ((List.set x4 (x2 + Int.toNat x0) (y0.1, y0.2.1, ()))[x2 + Int.toNat (IntKind.wrap .i64 (x0 + 1))]?) fun y3 =>
  Option.bind (f (IntKind.wrap .i64 (x0 + 1), x1, x2, x3, List.set (List.set x4 (x2 + Int.toNat x0) (y0.1, y0.2.1, ())) (x2 + Int.toNat (IntKind.wrap .i64 (x0 + 1))) (y1.1, y1.2.1, ()))) fun r => some r) (
  none)) (
  none)) (
  none)) (
  none)) (
  some (x4))
noncomputable def eg (N : Nat) (G : (Nat × Nat × Int × Int × Int × (List (Int × ((List Int) × Unit)))) → Option ((List (Int × ((List Int) × Unit))))) : Nat → rS → Option rG
  | 0, _ => none
  | k + 1, x => nT N G (eg N G k) x
noncomputable def j6 (N : Nat) (G : (Nat × Nat × Int × Int × Int × (List (Int × ((List Int) × Unit)))) → Option ((List (Int × ((List Int) × Unit))))) (k : Nat) : Cut := Aj.cut (eg N G k)
theorem gM (N : Nat) (G : (Nat × Nat × Int × Int × Int × (List (Int × ((List Int) × Unit)))) → Option ((List (Int × ((List Int) × Unit))))) (hG : aO Tryz.prog 169 (ak s169a w169a G)) (k : Nat) : ar Tryz.prog Tryz.f169 [0] 698 (j6 N G k) :=
  Aj.loopT ai aA (eR N G hG) Tryz.f169 [0] (cuts := [(172, gU N G N)]) ⟨eP N G hG N, trivial⟩ (by decide +kernel) (by kernel_rfl) (nT N G) (eg N G) (fun _ => rfl) (fun _ _ => rfl) (fun f x => by kernel_rfl) k
@[reducible] def Ak : LD := ⟨428, [14, 15, 4, 2, 0], [(.ret, []), (.exit 4, [2, 14, 0])], ⟨[.int .i64, .int .i64, .fn 126, .int .i64, .slp 0 .h .h], [.row y3 137]⟩, [(.exit 4, ⟨[.int .i64, .int .i64, .slp 0 .h .h], [.row y3 137]⟩)]⟩
abbrev rT : Type := Int × Int × Int × Nat × Nat × (List (Int × ((List Int) × Unit)))
abbrev rH : Type := Int × Int × Nat × Nat × (List (Int × ((List Int) × Unit)))
noncomputable def nU (N : Nat) (G : (Nat × Nat × Int × Int × Int × (List (Int × ((List Int) × Unit)))) → Option ((List (Int × ((List Int) × Unit))))) (f : rT → Option rH) : rT → Option rH
  | (x0, x1, x2, x3, x4, x5) =>
  ac (decide (x0 < x1)) (
  ac (within x2 x4) (
  Option.bind (x5[x3 + Int.toNat x2]?) fun y0 =>
  ac (within (IntKind.wrap .i64 (Int.fdiv (IntKind.wrap .u64 (IntKind.wrap .i64 (x0 + x1))) (2 : Int))) x4) (
  Option.bind (x5[x3 + Int.toNat (IntKind.wrap .i64 (Int.fdiv (IntKind.wrap .u64 (IntKind.wrap .i64 (x0 + x1))) (2 : Int)))]?) fun y1 =>
  Option.bind (Gk N (y0.1, y0.2.1, y1.1, y1.2.1)) fun y2 =>
  ac (!decide (y2 < 0)) (
  Option.bind (f (IntKind.wrap .i64 (IntKind.wrap .i64 (Int.fdiv (IntKind.wrap .u64 (IntKind.wrap .i64 (x0 + x1))) (2 : Int)) + 1), x1, x2, x3, x4, x5)) fun r => some r) (
  Option.bind (f (x0, IntKind.wrap .i64 (Int.fdiv (IntKind.wrap .u64 (IntKind.wrap .i64 (x0 + x1))) (2 : Int)), x2, x3, x4, x5)) fun r => some r)) (
  none)) (
  none)) (
  some ((x2, x0, x3, x4, x5)))
noncomputable def eh (N : Nat) (G : (Nat × Nat × Int × Int × Int × (List (Int × ((List Int) × Unit)))) → Option ((List (Int × ((List Int) × Unit))))) : Nat → rT → Option rH
  | 0, _ => none
  | k + 1, x => nU N G (eh N G k) x
noncomputable def nQ (N : Nat) (G : (Nat × Nat × Int × Int × Int × (List (Int × ((List Int) × Unit)))) → Option ((List (Int × ((List Int) × Unit))))) (k : Nat) : Cut := Ak.cut (eh N G k)
theorem kY (N : Nat) (G : (Nat × Nat × Int × Int × Int × (List (Int × ((List Int) × Unit)))) → Option ((List (Int × ((List Int) × Unit))))) (hG : aO Tryz.prog 169 (ak s169a w169a G)) (k : Nat) : ar Tryz.prog Tryz.f169 [0] 428 (nQ N G k) :=
  Ak.loopT ai aA (eR N G hG) Tryz.f169 [0] (cuts := [(172, gU N G N), (698, j6 N G N)]) ⟨eP N G hG N, gM N G hG N, trivial⟩ (by decide +kernel) (by kernel_rfl) (nU N G) (eh N G) (fun _ => rfl) (fun _ _ => rfl) (fun f x => by kernel_rfl) k
@[reducible] def xE : LD := ⟨1722, [17, 14, 0], [(.ret, []), (.exit 6, [])], ⟨[.int .i64, .int .i64, .slp 0 .h .h], [.row y3 137]⟩, [(.exit 6, ⟨[], [.row y3 137]⟩)]⟩
abbrev oZ : Type := Int × Int × Nat × Nat × (List (Int × ((List Int) × Unit)))
abbrev oQ : Type := (List (Int × ((List Int) × Unit)))
noncomputable def k9 (N : Nat) (G : (Nat × Nat × Int × Int × Int × (List (Int × ((List Int) × Unit)))) → Option ((List (Int × ((List Int) × Unit))))) (f : oZ → Option oQ) : oZ → Option oQ
  | (x0, x1, x2, x3, x4) =>
  ac (decide (x0 > x1)) (
  ac (within (IntKind.wrap .i64 (x0 - 1)) x3) (
  Option.bind (x4[x2 + Int.toNat (IntKind.wrap .i64 (x0 - 1))]?) fun y0 =>
  ac (within x0 x3) (
  Option.bind (x4[x2 + Int.toNat x0]?) fun y1 =>
  ac (within x0 x3) (
  Option.bind (x4[x2 + Int.toNat x0]?) fun y2 =>
  ac (within (IntKind.wrap .i64 (x0 - 1)) x3) (
  Option.bind ((List.set x4 (x2 + Int.toNat x0) (y0.1, y0.2.1, ()))[x2 + Int.toNat (IntKind.wrap .i64 (x0 - 1))]?) fun y3 =>
  Option.bind (f (IntKind.wrap .i64 (x0 - 1), x1, x2, x3, List.set (List.set x4 (x2 + Int.toNat x0) (y0.1, y0.2.1, ())) (x2 + Int.toNat (IntKind.wrap .i64 (x0 - 1))) (y1.1, y1.2.1, ()))) fun r => some r) (
  none)) (
  none)) (
  none)) (
  none)) (
  some (x4))
noncomputable def cK (N : Nat) (G : (Nat × Nat × Int × Int × Int × (List (Int × ((List Int) × Unit)))) → Option ((List (Int × ((List Int) × Unit))))) : Nat → oZ → Option oQ
  | 0, _ => none
  | k + 1, x => k9 N G (cK N G k) x
noncomputable def pg (N : Nat) (G : (Nat × Nat × Int × Int × Int × (List (Int × ((List Int) × Unit)))) → Option ((List (Int × ((List Int) × Unit))))) (k : Nat) : Cut := xE.cut (cK N G k)
theorem oq (N : Nat) (G : (Nat × Nat × Int × Int × Int × (List (Int × ((List Int) × Unit)))) → Option ((List (Int × ((List Int) × Unit))))) (hG : aO Tryz.prog 169 (ak s169a w169a G)) (k : Nat) : ar Tryz.prog Tryz.f169 [0] 1722 (pg N G k) :=
  xE.loopT ai aA (eR N G hG) Tryz.f169 [0] (cuts := [(172, gU N G N), (698, j6 N G N), (428, nQ N G N)]) ⟨eP N G hG N, gM N G hG N, kY N G hG N, trivial⟩ (by decide +kernel) (by kernel_rfl) (k9 N G) (cK N G) (fun _ => rfl) (fun _ _ => rfl) (fun f x => by kernel_rfl) k
@[reducible] def xF : LD := ⟨1020, [20, 3, 18, 1, 2, 19, 21, 4, 22, 0], [(.ret, []), (.exit 8, [19, 2, 1, 20, 0, 18, 3, 4])], ⟨[.int .i64, .int .i64, .int .i64, .int .i64, .int .i64, .int .i64, .int .i64, .fn 126, .int .i64, .slp 0 .h .h], [.row y3 137]⟩, [(.exit 8, ⟨[.int .i64, .int .i64, .int .i64, .int .i64, .slp 0 .h .h, .int .i64, .int .i64, .fn 126], [.row y3 137]⟩)]⟩
abbrev o7 : Type := Int × Int × Int × Int × Int × Int × Int × Int × Nat × Nat × (List (Int × ((List Int) × Unit)))
abbrev oR : Type := Int × Int × Int × Int × Nat × Nat × Int × Int × (List (Int × ((List Int) × Unit)))
noncomputable def lc (N : Nat) (G : (Nat × Nat × Int × Int × Int × (List (Int × ((List Int) × Unit)))) → Option ((List (Int × ((List Int) × Unit))))) (f : o7 → Option oR) : o7 → Option oR
  | (x0, x1, x2, x3, x4, x5, x6, x7, x8, x9, x10) =>
  ac (decide (x0 < x6)) (
  ac (within (IntKind.wrap .i64 (x7 - IntKind.wrap .i64 (Int.fdiv (IntKind.wrap .u64 (IntKind.wrap .i64 (x0 + x6))) (2 : Int)))) x9) (
  Option.bind (x10[x8 + Int.toNat (IntKind.wrap .i64 (x7 - IntKind.wrap .i64 (Int.fdiv (IntKind.wrap .u64 (IntKind.wrap .i64 (x0 + x6))) (2 : Int))))]?) fun y0 =>
  ac (within (IntKind.wrap .i64 (Int.fdiv (IntKind.wrap .u64 (IntKind.wrap .i64 (x0 + x6))) (2 : Int))) x9) (
  Option.bind (x10[x8 + Int.toNat (IntKind.wrap .i64 (Int.fdiv (IntKind.wrap .u64 (IntKind.wrap .i64 (x0 + x6))) (2 : Int)))]?) fun y1 =>
  Option.bind (Gk N (y0.1, y0.2.1, y1.1, y1.2.1)) fun y2 =>
  ac (!decide (y2 < 0)) (
  Option.bind (f (IntKind.wrap .i64 (IntKind.wrap .i64 (Int.fdiv (IntKind.wrap .u64 (IntKind.wrap .i64 (x0 + x6))) (2 : Int)) + 1), x1, x2, x3, x4, x5, x6, x7, x8, x9, x10)) fun r => some r) (
  Option.bind (f (x0, x1, x2, x3, x4, x5, IntKind.wrap .i64 (Int.fdiv (IntKind.wrap .u64 (IntKind.wrap .i64 (x0 + x6))) (2 : Int)), x7, x8, x9, x10)) fun r => some r)) (
  none)) (
  none)) (
  some ((x5, x4, x3, x0, x8, x9, x2, x1, x10)))
noncomputable def cj (N : Nat) (G : (Nat × Nat × Int × Int × Int × (List (Int × ((List Int) × Unit)))) → Option ((List (Int × ((List Int) × Unit))))) : Nat → o7 → Option oR
  | 0, _ => none
  | k + 1, x => lc N G (cj N G k) x
noncomputable def yu (N : Nat) (G : (Nat × Nat × Int × Int × Int × (List (Int × ((List Int) × Unit)))) → Option ((List (Int × ((List Int) × Unit))))) (k : Nat) : Cut := xF.cut (cj N G k)
theorem yY (N : Nat) (G : (Nat × Nat × Int × Int × Int × (List (Int × ((List Int) × Unit)))) → Option ((List (Int × ((List Int) × Unit))))) (hG : aO Tryz.prog 169 (ak s169a w169a G)) (k : Nat) : ar Tryz.prog Tryz.f169 [0] 1020 (yu N G k) :=
  xF.loopT ai aA (eR N G hG) Tryz.f169 [0] (cuts := [(172, gU N G N), (698, j6 N G N), (428, nQ N G N), (1722, pg N G N)]) ⟨eP N G hG N, gM N G hG N, kY N G hG N, oq N G hG N, trivial⟩ (by decide +kernel) (by kernel_rfl) (lc N G) (cj N G) (fun _ => rfl) (fun _ _ => rfl) (fun f x => by kernel_rfl) k
noncomputable def Dw (N : Nat) (G : (Nat × Nat × Int × Int × Int × (List (Int × ((List Int) × Unit)))) → Option ((List (Int × ((List Int) × Unit))))) : (Nat × Nat × Int × Int × Int × (List (Int × ((List Int) × Unit)))) → Option ((List (Int × ((List Int) × Unit))))
  | (x0, x1, x2, x3, x4, x5) =>
  ac (IntKind.wrap .i64 (x3 - x2) == 1) (
  Option.bind (em N G N (x3, x4, x0, x1, x2, x5)) fun y0 =>
  Option.bind (eg N G N (y0.1, y0.2.1, y0.2.2.1, y0.2.2.2.1, y0.2.2.2.2)) fun y1 =>
  some (y1)) (
  ac (IntKind.wrap .i64 (x4 - x3) == 1) (
  Option.bind (eh N G N (x2, x3, x3, x0, x1, x5)) fun y2 =>
  Option.bind (cK N G N (y2.1, y2.2.1, y2.2.2.1, y2.2.2.2.1, y2.2.2.2.2)) fun y3 =>
  some (y3)) (
  ac (decide (x3 > IntKind.wrap .i64 (Int.fdiv (IntKind.wrap .u64 (IntKind.wrap .i64 (x2 + x4))) (2 : Int)))) (
  Option.bind (cj N G N (IntKind.wrap .i64 (IntKind.wrap .i64 (IntKind.wrap .i64 (Int.fdiv (IntKind.wrap .u64 (IntKind.wrap .i64 (x2 + x4))) (2 : Int)) + x3) - x4), x4, IntKind.wrap .i64 (Int.fdiv (IntKind.wrap .u64 (IntKind.wrap .i64 (x2 + x4))) (2 : Int)), x2, x3, IntKind.wrap .i64 (IntKind.wrap .i64 (Int.fdiv (IntKind.wrap .u64 (IntKind.wrap .i64 (x2 + x4))) (2 : Int)) + x3), IntKind.wrap .i64 (Int.fdiv (IntKind.wrap .u64 (IntKind.wrap .i64 (x2 + x4))) (2 : Int)), IntKind.wrap .i64 (IntKind.wrap .i64 (IntKind.wrap .i64 (Int.fdiv (IntKind.wrap .u64 (IntKind.wrap .i64 (x2 + x4))) (2 : Int)) + x3) - 1), x0, x1, x5)) fun y4 =>
  ac (decide (y4.2.2.2.1 < y4.2.1)) (
  ac (decide (y4.2.1 < IntKind.wrap .i64 (y4.1 - y4.2.2.2.1))) (
  Option.bind (ti N (y4.2.2.2.2.1, y4.2.2.2.2.2.1, y4.2.2.2.1, y4.2.1, IntKind.wrap .i64 (y4.1 - y4.2.2.2.1), y4.2.2.2.2.2.2.2.2)) fun y5 =>
  ac (decide (y4.2.2.1 < y4.2.2.2.1)) (
  ac (decide (y4.2.2.2.1 < y4.2.2.2.2.2.2.1)) (
  Option.bind (G (y4.2.2.2.2.1, y4.2.2.2.2.2.1, y4.2.2.1, y4.2.2.2.1, y4.2.2.2.2.2.2.1, y5)) fun y6 =>
  ac (decide (y4.2.2.2.2.2.2.1 < IntKind.wrap .i64 (y4.1 - y4.2.2.2.1))) (
  ac (decide (IntKind.wrap .i64 (y4.1 - y4.2.2.2.1) < y4.2.2.2.2.2.2.2.1)) (
  Option.bind (G (y4.2.2.2.2.1, y4.2.2.2.2.2.1, y4.2.2.2.2.2.2.1, IntKind.wrap .i64 (y4.1 - y4.2.2.2.1), y4.2.2.2.2.2.2.2.1, y6)) fun y7 =>
  some (y7)) (
  some (y6))) (
  some (y6))) (
  ac (decide (y4.2.2.2.2.2.2.1 < IntKind.wrap .i64 (y4.1 - y4.2.2.2.1))) (
  ac (decide (IntKind.wrap .i64 (y4.1 - y4.2.2.2.1) < y4.2.2.2.2.2.2.2.1)) (
  Option.bind (G (y4.2.2.2.2.1, y4.2.2.2.2.2.1, y4.2.2.2.2.2.2.1, IntKind.wrap .i64 (y4.1 - y4.2.2.2.1), y4.2.2.2.2.2.2.2.1, y5)) fun y8 =>
  some (y8)) (
  some (y5))) (
  some (y5)))) (
  ac (decide (y4.2.2.2.2.2.2.1 < IntKind.wrap .i64 (y4.1 - y4.2.2.2.1))) (
  ac (decide (IntKind.wrap .i64 (y4.1 - y4.2.2.2.1) < y4.2.2.2.2.2.2.2.1)) (
  Option.bind (G (y4.2.2.2.2.1, y4.2.2.2.2.2.1, y4.2.2.2.2.2.2.1, IntKind.wrap .i64 (y4.1 - y4.2.2.2.1), y4.2.2.2.2.2.2.2.1, y5)) fun y9 =>
  some (y9)) (
  some (y5))) (
  some (y5)))) (
  ac (decide (y4.2.2.1 < y4.2.2.2.1)) (
  ac (decide (y4.2.2.2.1 < y4.2.2.2.2.2.2.1)) (
  Option.bind (G (y4.2.2.2.2.1, y4.2.2.2.2.2.1, y4.2.2.1, y4.2.2.2.1, y4.2.2.2.2.2.2.1, y4.2.2.2.2.2.2.2.2)) fun y10 =>
  ac (decide (y4.2.2.2.2.2.2.1 < IntKind.wrap .i64 (y4.1 - y4.2.2.2.1))) (
  ac (decide (IntKind.wrap .i64 (y4.1 - y4.2.2.2.1) < y4.2.2.2.2.2.2.2.1)) (
  Option.bind (G (y4.2.2.2.2.1, y4.2.2.2.2.2.1, y4.2.2.2.2.2.2.1, IntKind.wrap .i64 (y4.1 - y4.2.2.2.1), y4.2.2.2.2.2.2.2.1, y10)) fun y11 =>
  some (y11)) (
  some (y10))) (
  some (y10))) (
  ac (decide (y4.2.2.2.2.2.2.1 < IntKind.wrap .i64 (y4.1 - y4.2.2.2.1))) (
  ac (decide (IntKind.wrap .i64 (y4.1 - y4.2.2.2.1) < y4.2.2.2.2.2.2.2.1)) (
  Option.bind (G (y4.2.2.2.2.1, y4.2.2.2.2.2.1, y4.2.2.2.2.2.2.1, IntKind.wrap .i64 (y4.1 - y4.2.2.2.1), y4.2.2.2.2.2.2.2.1, y4.2.2.2.2.2.2.2.2)) fun y12 =>
  some (y12)) (
  some y4.2.2.2.2.2.2.2.2)) (
  some y4.2.2.2.2.2.2.2.2))) (
  ac (decide (y4.2.2.2.2.2.2.1 < IntKind.wrap .i64 (y4.1 - y4.2.2.2.1))) (
  ac (decide (IntKind.wrap .i64 (y4.1 - y4.2.2.2.1) < y4.2.2.2.2.2.2.2.1)) (
  Option.bind (G (y4.2.2.2.2.1, y4.2.2.2.2.2.1, y4.2.2.2.2.2.2.1, IntKind.wrap .i64 (y4.1 - y4.2.2.2.1), y4.2.2.2.2.2.2.2.1, y4.2.2.2.2.2.2.2.2)) fun y13 =>
  some (y13)) (
  some y4.2.2.2.2.2.2.2.2)) (
  some y4.2.2.2.2.2.2.2.2)))) (
  ac (decide (y4.2.2.1 < y4.2.2.2.1)) (
  ac (decide (y4.2.2.2.1 < y4.2.2.2.2.2.2.1)) (
  Option.bind (G (y4.2.2.2.2.1, y4.2.2.2.2.2.1, y4.2.2.1, y4.2.2.2.1, y4.2.2.2.2.2.2.1, y4.2.2.2.2.2.2.2.2)) fun y14 =>
  ac (decide (y4.2.2.2.2.2.2.1 < IntKind.wrap .i64 (y4.1 - y4.2.2.2.1))) (
  ac (decide (IntKind.wrap .i64 (y4.1 - y4.2.2.2.1) < y4.2.2.2.2.2.2.2.1)) (
  Option.bind (G (y4.2.2.2.2.1, y4.2.2.2.2.2.1, y4.2.2.2.2.2.2.1, IntKind.wrap .i64 (y4.1 - y4.2.2.2.1), y4.2.2.2.2.2.2.2.1, y14)) fun y15 =>
  some (y15)) (
  some (y14))) (
  some (y14))) (
  ac (decide (y4.2.2.2.2.2.2.1 < IntKind.wrap .i64 (y4.1 - y4.2.2.2.1))) (
  ac (decide (IntKind.wrap .i64 (y4.1 - y4.2.2.2.1) < y4.2.2.2.2.2.2.2.1)) (
  Option.bind (G (y4.2.2.2.2.1, y4.2.2.2.2.2.1, y4.2.2.2.2.2.2.1, IntKind.wrap .i64 (y4.1 - y4.2.2.2.1), y4.2.2.2.2.2.2.2.1, y4.2.2.2.2.2.2.2.2)) fun y16 =>
  some (y16)) (
  some y4.2.2.2.2.2.2.2.2)) (
  some y4.2.2.2.2.2.2.2.2))) (
  ac (decide (y4.2.2.2.2.2.2.1 < IntKind.wrap .i64 (y4.1 - y4.2.2.2.1))) (
  ac (decide (IntKind.wrap .i64 (y4.1 - y4.2.2.2.1) < y4.2.2.2.2.2.2.2.1)) (
  Option.bind (G (y4.2.2.2.2.1, y4.2.2.2.2.2.1, y4.2.2.2.2.2.2.1, IntKind.wrap .i64 (y4.1 - y4.2.2.2.1), y4.2.2.2.2.2.2.2.1, y4.2.2.2.2.2.2.2.2)) fun y17 =>
  some (y17)) (
  some y4.2.2.2.2.2.2.2.2)) (
  some y4.2.2.2.2.2.2.2.2)))) (
  Option.bind (cj N G N (x2, x4, IntKind.wrap .i64 (Int.fdiv (IntKind.wrap .u64 (IntKind.wrap .i64 (x2 + x4))) (2 : Int)), x2, x3, IntKind.wrap .i64 (IntKind.wrap .i64 (Int.fdiv (IntKind.wrap .u64 (IntKind.wrap .i64 (x2 + x4))) (2 : Int)) + x3), x3, IntKind.wrap .i64 (IntKind.wrap .i64 (IntKind.wrap .i64 (Int.fdiv (IntKind.wrap .u64 (IntKind.wrap .i64 (x2 + x4))) (2 : Int)) + x3) - 1), x0, x1, x5)) fun y18 =>
  ac (decide (y18.2.2.2.1 < y18.2.1)) (
  ac (decide (y18.2.1 < IntKind.wrap .i64 (y18.1 - y18.2.2.2.1))) (
  Option.bind (ti N (y18.2.2.2.2.1, y18.2.2.2.2.2.1, y18.2.2.2.1, y18.2.1, IntKind.wrap .i64 (y18.1 - y18.2.2.2.1), y18.2.2.2.2.2.2.2.2)) fun y19 =>
  ac (decide (y18.2.2.1 < y18.2.2.2.1)) (
  ac (decide (y18.2.2.2.1 < y18.2.2.2.2.2.2.1)) (
  Option.bind (G (y18.2.2.2.2.1, y18.2.2.2.2.2.1, y18.2.2.1, y18.2.2.2.1, y18.2.2.2.2.2.2.1, y19)) fun y20 =>
  ac (decide (y18.2.2.2.2.2.2.1 < IntKind.wrap .i64 (y18.1 - y18.2.2.2.1))) (
  ac (decide (IntKind.wrap .i64 (y18.1 - y18.2.2.2.1) < y18.2.2.2.2.2.2.2.1)) (
  Option.bind (G (y18.2.2.2.2.1, y18.2.2.2.2.2.1, y18.2.2.2.2.2.2.1, IntKind.wrap .i64 (y18.1 - y18.2.2.2.1), y18.2.2.2.2.2.2.2.1, y20)) fun y21 =>
  some (y21)) (
  some (y20))) (
  some (y20))) (
  ac (decide (y18.2.2.2.2.2.2.1 < IntKind.wrap .i64 (y18.1 - y18.2.2.2.1))) (
  ac (decide (IntKind.wrap .i64 (y18.1 - y18.2.2.2.1) < y18.2.2.2.2.2.2.2.1)) (
  Option.bind (G (y18.2.2.2.2.1, y18.2.2.2.2.2.1, y18.2.2.2.2.2.2.1, IntKind.wrap .i64 (y18.1 - y18.2.2.2.1), y18.2.2.2.2.2.2.2.1, y19)) fun y22 =>
  some (y22)) (
  some (y19))) (
  some (y19)))) (
  ac (decide (y18.2.2.2.2.2.2.1 < IntKind.wrap .i64 (y18.1 - y18.2.2.2.1))) (
  ac (decide (IntKind.wrap .i64 (y18.1 - y18.2.2.2.1) < y18.2.2.2.2.2.2.2.1)) (
  Option.bind (G (y18.2.2.2.2.1, y18.2.2.2.2.2.1, y18.2.2.2.2.2.2.1, IntKind.wrap .i64 (y18.1 - y18.2.2.2.1), y18.2.2.2.2.2.2.2.1, y19)) fun y23 =>
  some (y23)) (
  some (y19))) (
  some (y19)))) (
  ac (decide (y18.2.2.1 < y18.2.2.2.1)) (
  ac (decide (y18.2.2.2.1 < y18.2.2.2.2.2.2.1)) (
  Option.bind (G (y18.2.2.2.2.1, y18.2.2.2.2.2.1, y18.2.2.1, y18.2.2.2.1, y18.2.2.2.2.2.2.1, y18.2.2.2.2.2.2.2.2)) fun y24 =>
  ac (decide (y18.2.2.2.2.2.2.1 < IntKind.wrap .i64 (y18.1 - y18.2.2.2.1))) (
  ac (decide (IntKind.wrap .i64 (y18.1 - y18.2.2.2.1) < y18.2.2.2.2.2.2.2.1)) (
  Option.bind (G (y18.2.2.2.2.1, y18.2.2.2.2.2.1, y18.2.2.2.2.2.2.1, IntKind.wrap .i64 (y18.1 - y18.2.2.2.1), y18.2.2.2.2.2.2.2.1, y24)) fun y25 =>
  some (y25)) (
  some (y24))) (
  some (y24))) (
  ac (decide (y18.2.2.2.2.2.2.1 < IntKind.wrap .i64 (y18.1 - y18.2.2.2.1))) (
  ac (decide (IntKind.wrap .i64 (y18.1 - y18.2.2.2.1) < y18.2.2.2.2.2.2.2.1)) (
  Option.bind (G (y18.2.2.2.2.1, y18.2.2.2.2.2.1, y18.2.2.2.2.2.2.1, IntKind.wrap .i64 (y18.1 - y18.2.2.2.1), y18.2.2.2.2.2.2.2.1, y18.2.2.2.2.2.2.2.2)) fun y26 =>
  some (y26)) (
  some y18.2.2.2.2.2.2.2.2)) (
  some y18.2.2.2.2.2.2.2.2))) (
  ac (decide (y18.2.2.2.2.2.2.1 < IntKind.wrap .i64 (y18.1 - y18.2.2.2.1))) (
  ac (decide (IntKind.wrap .i64 (y18.1 - y18.2.2.2.1) < y18.2.2.2.2.2.2.2.1)) (
  Option.bind (G (y18.2.2.2.2.1, y18.2.2.2.2.2.1, y18.2.2.2.2.2.2.1, IntKind.wrap .i64 (y18.1 - y18.2.2.2.1), y18.2.2.2.2.2.2.2.1, y18.2.2.2.2.2.2.2.2)) fun y27 =>
  some (y27)) (
  some y18.2.2.2.2.2.2.2.2)) (
  some y18.2.2.2.2.2.2.2.2)))) (
  ac (decide (y18.2.2.1 < y18.2.2.2.1)) (
  ac (decide (y18.2.2.2.1 < y18.2.2.2.2.2.2.1)) (
  Option.bind (G (y18.2.2.2.2.1, y18.2.2.2.2.2.1, y18.2.2.1, y18.2.2.2.1, y18.2.2.2.2.2.2.1, y18.2.2.2.2.2.2.2.2)) fun y28 =>
  ac (decide (y18.2.2.2.2.2.2.1 < IntKind.wrap .i64 (y18.1 - y18.2.2.2.1))) (
  ac (decide (IntKind.wrap .i64 (y18.1 - y18.2.2.2.1) < y18.2.2.2.2.2.2.2.1)) (
  Option.bind (G (y18.2.2.2.2.1, y18.2.2.2.2.2.1, y18.2.2.2.2.2.2.1, IntKind.wrap .i64 (y18.1 - y18.2.2.2.1), y18.2.2.2.2.2.2.2.1, y28)) fun y29 =>
  some (y29)) (
  some (y28))) (
  some (y28))) (
  ac (decide (y18.2.2.2.2.2.2.1 < IntKind.wrap .i64 (y18.1 - y18.2.2.2.1))) (
  ac (decide (IntKind.wrap .i64 (y18.1 - y18.2.2.2.1) < y18.2.2.2.2.2.2.2.1)) (
  Option.bind (G (y18.2.2.2.2.1, y18.2.2.2.2.2.1, y18.2.2.2.2.2.2.1, IntKind.wrap .i64 (y18.1 - y18.2.2.2.1), y18.2.2.2.2.2.2.2.1, y18.2.2.2.2.2.2.2.2)) fun y30 =>
  some (y30)) (
  some y18.2.2.2.2.2.2.2.2)) (
  some y18.2.2.2.2.2.2.2.2))) (
  ac (decide (y18.2.2.2.2.2.2.1 < IntKind.wrap .i64 (y18.1 - y18.2.2.2.1))) (
  ac (decide (IntKind.wrap .i64 (y18.1 - y18.2.2.2.1) < y18.2.2.2.2.2.2.2.1)) (
  Option.bind (G (y18.2.2.2.2.1, y18.2.2.2.2.2.1, y18.2.2.2.2.2.2.1, IntKind.wrap .i64 (y18.1 - y18.2.2.2.1), y18.2.2.2.2.2.2.2.1, y18.2.2.2.2.2.2.2.2)) fun y31 =>
  some (y31)) (
  some y18.2.2.2.2.2.2.2.2)) (
  some y18.2.2.2.2.2.2.2.2))))))
noncomputable def bA (N : Nat) : Nat → (Nat × Nat × Int × Int × Int × (List (Int × ((List Int) × Unit)))) → Option ((List (Int × ((List Int) × Unit))))
  | 0, _ => none
  | k + 1, x => Dw N (bA N k) x
noncomputable def Ga (N : Nat) : (Nat × Nat × Int × Int × Int × (List (Int × ((List Int) × Unit)))) → Option ((List (Int × ((List Int) × Unit)))) := bA N N
noncomputable def VU (N : Nat) : Pk → Tr Pk := ak s169a w169a (Ga N)
theorem ff (N : Nat) : ∀ k, aO Tryz.prog 169 (ak s169a w169a (bA N k))
  | 0 => KV fun _ => rfl
  | k + 1 => ah ai aA (eR N (bA N k) (ff N k)) Tryz.func169 s169a w169a [0] (cuts := [(172, gU N (bA N k) N), (698, j6 N (bA N k) N), (428, nQ N (bA N k) N), (1722, pg N (bA N k) N), (1020, yu N (bA N k) N)]) ⟨eP N (bA N k) (ff N k) N, gM N (bA N k) (ff N k) N, kY N (bA N k) (ff N k) N, oq N (bA N k) (ff N k) N, yY N (bA N k) (ff N k) N, trivial⟩ (fun _ => by kernel_rfl) (by kernel_rfl) (bA N (k + 1)) (fun x => by kernel_rfl)
theorem QQ (N : Nat) : aO Tryz.prog 169 (VU N) :=
  (ff N N)
noncomputable def ah4 (N : Nat) : Pk → Tr Pk := (VU N)
theorem Ue (N : Nat) : aO Tryz.prog 169 (ah4 N) := (QQ N)
@[reducible] def s154a : SP := ⟨[.slp 0 .h .h, .int .i64, .fn 126], [.row y3 137]⟩
noncomputable def Te (N : Nat) : av := [(168, ah5 N), (169, ah4 N), (126, HV N)]
theorem ki (N : Nat) : aj Tryz.prog (Te N) := ⟨Uf N, Ue N, nI N, trivial⟩
@[reducible] def mC : LD := ⟨28, [7, 8, 1, 0, 2, 6], [(.ret, []), (.exit 0, [7, 1, 0, 2, 6])], ⟨[.int .i64, .int .i64, .int .i64, .slp 0 .h .h, .fn 126, .int .i64], [.row y3 137]⟩, [(.exit 0, ⟨[.int .i64, .int .i64, .slp 0 .h .h, .fn 126, .int .i64], [.row y3 137]⟩)]⟩
abbrev xj : Type := Int × Int × Int × Nat × Nat × Int × (List (Int × ((List Int) × Unit)))
abbrev wG : Type := Int × Int × Nat × Nat × Int × (List (Int × ((List Int) × Unit)))
noncomputable def qI (N : Nat) (f : xj → Option wG) : xj → Option wG
  | (x0, x1, x2, x3, x4, x5, x6) =>
  ac (decide (x1 ≤ x2)) (
  Option.bind (As N (x3, x4, x0, x1, x6)) fun y0 =>
  Option.bind (f (x1, IntKind.wrap .i64 (x1 + x5), x2, x3, x4, x5, y0)) fun r => some r) (
  some ((x0, x2, x3, x4, x5, x6)))
noncomputable def dR (N : Nat) : Nat → xj → Option wG
  | 0, _ => none
  | k + 1, x => qI N (dR N k) x
theorem mY (N : Nat) (k : Nat) : ar Tryz.prog Tryz.f154 [0] 28 (mC.cut (dR N k)) :=
  mC.loopT ai aA (ki N) Tryz.f154 [0] (cuts := []) trivial (by decide +kernel) (by kernel_rfl) (qI N) (dR N) (fun _ => rfl) (fun _ _ => rfl) (fun f x => by kernel_rfl) k
@[reducible] def kP : LD := ⟨3988, [7, 8, 1, 0, 2, 6], [(.ret, []), (.exit 4, [7, 6, 1, 0, 2]), (.exit 3, [1, 0, 2, 6]), (.exit 2, [])], ⟨[.int .i64, .int .i64, .int .i64, .slp 0 .h .h, .fn 126, .int .i64], [.row y3 137]⟩, [(.exit 4, ⟨[.int .i64, .int .i64, .int .i64, .slp 0 .h .h, .fn 126], [.row y3 137]⟩)]⟩
abbrev o9 : Type := Int × Int × Int × Nat × Nat × Int × (List (Int × ((List Int) × Unit)))
abbrev oT : Type := Int × Int × Int × Nat × Nat × (List (Int × ((List Int) × Unit)))
noncomputable def li (N : Nat) (f : o9 → Option oT) : o9 → Option oT
  | (x0, x1, x2, x3, x4, x5, x6) =>
  ac (decide (x1 ≤ x2)) (
  Option.bind (Ga N (x3, x4, x0, IntKind.wrap .i64 (x0 + x5), x1, x6)) fun y0 =>
  Option.bind (f (x1, IntKind.wrap .i64 (x1 + IntKind.wrap .i64 ((2 : Int) * x5)), x2, x3, x4, x5, y0)) fun r => some r) (
  some ((x0, x5, x2, x3, x4, x6)))
noncomputable def cM (N : Nat) : Nat → o9 → Option oT
  | 0, _ => none
  | k + 1, x => li N (cM N k) x
theorem ou (N : Nat) (k : Nat) : ar Tryz.prog Tryz.f154 [0] 3988 (kP.cut (cM N k)) :=
  kP.loopT ai aA (ki N) Tryz.f154 [0] (cuts := [(28, mC.cut (dR N N))]) ⟨mY N N, trivial⟩ (by decide +kernel) (by kernel_rfl) (li N) (cM N) (fun _ => rfl) (fun _ _ => rfl) (fun f x => by kernel_rfl) k
@[reducible] def xH : LD := ⟨62, [1, 0, 2, 6], [(.ret, []), (.exit 2, [])], ⟨[.int .i64, .slp 0 .h .h, .fn 126, .int .i64], [.row y3 137]⟩, [(.exit 2, ⟨[], [.row y3 137]⟩)]⟩
abbrev xi : Type := Int × Nat × Nat × Int × (List (Int × ((List Int) × Unit)))
abbrev wF : Type := (List (Int × ((List Int) × Unit)))
noncomputable def qH (N : Nat) (f : xi → Option wF) : xi → Option wF
  | (x0, x1, x2, x3, x4) =>
  ac (decide (x3 < x0)) (
  Option.bind (cM N N ((0 : Int), IntKind.wrap .i64 ((2 : Int) * x3), x0, x1, x2, x3, x4)) fun y0 =>
  ac (decide (IntKind.wrap .i64 (y0.1 + y0.2.1) < y0.2.2.1)) (
  Option.bind (Ga N (y0.2.2.2.1, y0.2.2.2.2.1, y0.1, IntKind.wrap .i64 (y0.1 + y0.2.1), y0.2.2.1, y0.2.2.2.2.2)) fun y1 =>
  Option.bind (f (y0.2.2.1, y0.2.2.2.1, y0.2.2.2.2.1, IntKind.wrap .i64 (y0.2.1 * 2), y1)) fun r => some r) (
  Option.bind (f (y0.2.2.1, y0.2.2.2.1, y0.2.2.2.2.1, IntKind.wrap .i64 (y0.2.1 * 2), y0.2.2.2.2.2)) fun r => some r)) (
  some (x4))
noncomputable def fT (N : Nat) : Nat → xi → Option wF
  | 0, _ => none
  | k + 1, x => qH N (fT N k) x
theorem GA (N : Nat) (k : Nat) : ar Tryz.prog Tryz.f154 [0] 62 (xH.cut (fT N k)) :=
  xH.loopT ai aA (ki N) Tryz.f154 [0] (cuts := [(28, mC.cut (dR N N)), (3988, kP.cut (cM N N))]) ⟨mY N N, ou N N, trivial⟩ (by decide +kernel) (by kernel_rfl) (qH N) (fT N) (fun _ => rfl) (fun _ _ => rfl) (fun f x => by kernel_rfl) k
@[reducible] def w154a : List SP := [⟨[.tup []], [.row y3 137]⟩]
noncomputable def KC (N : Nat) : (Nat × Nat × Int × (List (Int × ((List Int) × Unit)))) → Option ((List (Int × ((List Int) × Unit))))
  | (x0, x1, x2, x3) =>
  Option.bind (dR N N ((0 : Int), (20 : Int), x2, x0, x1, (20 : Int), x3)) fun y0 =>
  Option.bind (As N (y0.2.2.1, y0.2.2.2.1, y0.1, y0.2.1, y0.2.2.2.2.2)) fun y1 =>
  Option.bind (fT N N (y0.2.1, y0.2.2.1, y0.2.2.2.1, y0.2.2.2.2.1, y1)) fun y2 =>
  some (y2)
noncomputable def VW (N : Nat) : Pk → Tr Pk := ak s154a w154a (KC N)
theorem QS (N : Nat) : aO Tryz.prog 154 (VW N) :=
  (ah ai aA (ki N) Tryz.func154 s154a w154a [0] (cuts := [(28, mC.cut (dR N N)), (3988, kP.cut (cM N N)), (62, xH.cut (fT N N))]) ⟨mY N N, ou N N, GA N N, trivial⟩ (fun _ => by kernel_rfl) (by kernel_rfl) (KC N) (fun x => by kernel_rfl))
noncomputable def ai4 (N : Nat) : Pk → Tr Pk := (VW N)
theorem Up (N : Nat) : aO Tryz.prog 154 (ai4 N) := (QS N)
@[reducible] def s125a : SP := ⟨[.slp 0 .h .h, .fn 126], [.row y3 137]⟩
noncomputable def Ti (N : Nat) : av := [(154, ai4 N), (126, HV N)]
theorem G1 (N : Nat) : aj Tryz.prog (Ti N) := ⟨Up N, nI N, trivial⟩
@[reducible] def w125a : List SP := [⟨[.tup []], [.row y3 137]⟩]
noncomputable def Gl (N : Nat) : (Nat × Nat × (List (Int × ((List Int) × Unit)))) → Option ((List (Int × ((List Int) × Unit))))
  | (x0, x1, x2) =>
  Option.bind (KC N (x0, x1, (↑x1 : Int), x2)) fun y0 =>
  some (y0)
noncomputable def VZ (N : Nat) : Pk → Tr Pk := ak s125a w125a (Gl N)
theorem QV (N : Nat) : aO Tryz.prog 125 (VZ N) :=
  (ah ai aA (G1 N) Tryz.func125 s125a w125a [0] (cuts := []) trivial (fun _ => by kernel_rfl) (by kernel_rfl) (Gl N) (fun x => by kernel_rfl))
noncomputable def ak5 (N : Nat) : Pk → Tr Pk := (VZ N)
theorem UL (N : Nat) : aO Tryz.prog 125 (ak5 N) := (QV N)
@[reducible] def s94 : SP := ⟨[.ro y3, .ro y3], []⟩
noncomputable def Zr (N : Nat) : av := [(124, ak6 N), (125, ak5 N)]
theorem On (N : Nat) : aj Tryz.prog (Zr N) := ⟨UM N, UL N, trivial⟩
@[reducible] def w94 : List SP := [⟨[.sl 0], [.row y3 137]⟩]
noncomputable def Y4 (N : Nat) : ((List (Int × ((List Int) × Unit))) × (List (Int × ((List Int) × Unit)))) → Option ((List (Int × ((List Int) × Unit))))
  | (x0, x1) =>
  Option.bind (SF N [x0, x1]) fun y0 =>
  Option.bind (Gl N ((0 : Nat), List.length y0, y0)) fun y1 =>
  some (y1)
noncomputable def T94 (N : Nat) : Pk → Tr Pk := u4 PT (ak s94 w94 (Y4 N))
theorem QZ (N : Nat) : aO Tryz.prog 94 (T94 N) :=
  lQ Bh (ah ai aA (On N) Tryz.func94 s94 w94 [] (cuts := []) trivial (fun _ => by kernel_rfl) (by kernel_rfl) (Y4 N) (fun x => by kernel_rfl))
@[reducible] def s93 : SP := ⟨[.ro (.int .i64)], []⟩
noncomputable def Zs (N : Nat) : av := [(94, T94 N)]
theorem Ei (N : Nat) : aj Tryz.prog (Zs N) := ⟨QZ N, trivial⟩
@[reducible] def IB : LD := ⟨58, [8, 7, 9, 4], [(.ret, [2, 3]), (.exit 0, [4])], ⟨[.int .i64, .ro (.int .i64), .int .i64, .sl 0], [.row y3 137]⟩, [(.ret, ⟨[.sl 0, .int .i64], [.row y3 137]⟩), (.exit 0, ⟨[.sl 0], [.row y3 137]⟩)]⟩
abbrev Ii : Type := Int × (List Int) × Int × (List (Int × ((List Int) × Unit)))
abbrev HY : Type := ((Int × (List (Int × ((List Int) × Unit)))) ⊕ ((List (Int × ((List Int) × Unit)))))
noncomputable def DN (N : Nat) (f : Ii → Option HY) : Ii → Option HY
  | (x0, x1, x2, x3) =>
  ac (decide (x2 < x0)) (
  ac (within x2 (List.length x1)) (
  Option.bind (x1[Int.toNat x2]?) fun y0 =>
  ac (decide (y0 < 0)) (
  some (.inl (((1 : Int), [])))) (
  ac (decide (y0 > 1073741824)) (
  some (.inl (((1 : Int), [])))) (
  ac (decide (y0 > 0)) (
  ac (decide ((List.length x3 + List.length [(y0, [x2], ())]) * 32 ≤ (140737488355328 : Nat) ∧ List.length x3 + List.length [(y0, [x2], ())] ≤ 140737488355328)) (
  Option.bind (f (x0, x1, IntKind.wrap .i64 (x2 + 1), x3 ++ [(y0, [x2], ())])) fun r => match r with | .inl y => some (.inl y) | .inr y => some (.inr y)) (
  none)) (
  Option.bind (f (x0, x1, IntKind.wrap .i64 (x2 + 1), x3)) fun r => match r with | .inl y => some (.inl y) | .inr y => some (.inr y))))) (
  none)) (
  some (.inr (x3)))
noncomputable def kR (N : Nat) : Nat → Ii → Option HY
  | 0, _ => none
  | k + 1, x => DN N (kR N k) x
theorem NF (N : Nat) (k : Nat) : ar Tryz.prog Tryz.f93 [] 58 (IB.cut (kR N k)) :=
  IB.loopT ai aA (Ei N) Tryz.f93 [] (cuts := []) trivial (by decide +kernel) (by kernel_rfl) (DN N) (kR N) (fun _ => rfl) (fun _ _ => rfl) (fun f x => by kernel_rfl) k
@[reducible] def w93 : List SP := [⟨[.tup [.sl 0, .int .i64]], [.row y3 137]⟩, ⟨[.tup [.ro y3, .int .i64]], []⟩]
noncomputable def F93 (N : Nat) : ((List Int)) → Option (((Int × (List (Int × ((List Int) × Unit)))) ⊕ ((List (Int × ((List Int) × Unit))) × Int)))
  | x0 =>
  Option.bind (kR N N ((↑(List.length x0) : Int), x0, (0 : Int), [])) fun y0 =>
  match y0 with
  | .inl y1 =>
  some (.inl ((y1.1, y1.2)))
  | .inr y1 =>
  Option.bind (Y4 N (y1, [])) fun y2 =>
  some (.inr ((y2, (0 : Int))))
noncomputable def T93 (N : Nat) : Pk → Tr Pk := u4 PT (ak s93 w93 (F93 N))
theorem XH (N : Nat) : aO Tryz.prog 93 (T93 N) :=
  lQ Bh (ah ai aA (Ei N) Tryz.func93 s93 w93 [] (cuts := [(58, IB.cut (kR N N))]) ⟨NF N N, trivial⟩ (fun _ => by kernel_rfl) (by kernel_rfl) (F93 N) (fun x => by kernel_rfl))
@[reducible] def s92 : SP := ⟨[.nilsl, .int .i64], []⟩
noncomputable def Zt (N : Nat) : av := []
theorem Oo (N : Nat) : aj Tryz.prog (Zt N) := trivial
@[reducible] def w92 : List SP := [⟨[.slp 0 (.c 0) (.c 0)], [.row (.int .i64) 3]⟩, ⟨[.sl 0], [.row (.int .i64) 3]⟩]
noncomputable def Y5 (N : Nat) : (Int) → Option ((((List Int)) ⊕ ((List Int))))
  | x0 =>
  ac (decide (x0 < 0)) (
  none) (
  ac (decide (IntKind.wrap .i64 (x0 - 0) > 0)) (
  ac (decide ((0 : Int) < IntKind.wrap .i64 (x0 - 0) ∧ IntKind.wrap .i64 (x0 - 0) * 8 ≤ (140737488355328 : Int) ∧ IntKind.wrap .i64 (x0 - 0) ≤ 140737488355328)) (
  ac (decide ((0 : Int) ≤ (0 : Int) ∧ (0 : Int) ≤ (↑(List.length (List.replicate (Int.toNat (IntKind.wrap .i64 (x0 - 0))) (0 : Int))) : Int))) (
  some (.inl (List.replicate (Int.toNat (IntKind.wrap .i64 (x0 - 0))) (0 : Int)))) (
  none)) (
  none)) (
  some (.inr ([]))))
noncomputable def T92 (N : Nat) : Pk → Tr Pk := u4 (JH (Ty.int IntKind.i64) 3) (ak s92 w92 (Y5 N))
theorem XI (N : Nat) : aO Tryz.prog 92 (T92 N) :=
  lQ (Eb _ _) (ah ai aA (Oo N) Tryz.func92 s92 w92 [] (cuts := []) trivial (fun _ => by kernel_rfl) (by kernel_rfl) (Y5 N) (fun x => by kernel_rfl))
@[reducible] def s55 : SP := ⟨[.ro (.sl (.int .i64))], []⟩
noncomputable def Z0 (N : Nat) : av := [(92, T92 N)]
theorem uy (N : Nat) : aj Tryz.prog (Z0 N) := ⟨XI N, trivial⟩
@[reducible] def C7 : LD := ⟨58, [3, 11, 10, 0, 9], [(.ret, [2]), (.exit 0, [3, 0])], ⟨[.int .i64, .int .i64, .int .i64, .ro (.sl (.int .i64)), .ro (.sl (.int .i64))], []⟩, [(.exit 0, ⟨[.int .i64, .ro (.sl (.int .i64))], []⟩)]⟩
abbrev Iq : Type := Int × Int × Int × (List (List Int)) × (List (List Int))
abbrev H5 : Type := Int × (List (List Int))
noncomputable def JF (N : Nat) (f : Iq → Option H5) : Iq → Option H5
  | (x0, x1, x2, x3, x4) =>
  ac (decide (x1 < x2)) (
  ac (within x1 (List.length x4)) (
  Option.bind (x4[Int.toNat x1]?) fun y0 =>
  ac (decide (IntKind.wrap .i64 (x0 + (↑(List.length y0) : Int)) < 0)) (
  none) (
  Option.bind (f (IntKind.wrap .i64 (x0 + (↑(List.length y0) : Int)), IntKind.wrap .i64 (x1 + 1), x2, x3, x4)) fun r => some r)) (
  none)) (
  some ((x0, x3)))
noncomputable def mK (N : Nat) : Nat → Iq → Option H5
  | 0, _ => none
  | k + 1, x => JF N (mK N k) x
theorem Az (N : Nat) (k : Nat) : ar Tryz.prog Tryz.f55 [] 58 (C7.cut (mK N k)) :=
  C7.loopT ai aA (uy N) Tryz.f55 [] (cuts := []) trivial (by decide +kernel) (by kernel_rfl) (JF N) (mK N) (fun _ => rfl) (fun _ _ => rfl) (fun f x => by kernel_rfl) k
@[reducible] def C8 : LD := ⟨250, [6, 27, 26, 25], [(.ret, [2]), (.exit 2, [6])], ⟨[.sl 0, .int .i64, .int .i64, .ro (.sl (.int .i64))], [.row (.int .i64) 3]⟩, [(.exit 2, ⟨[.sl 0], [.row (.int .i64) 3]⟩)]⟩
abbrev CC : Type := Int × Int × (List (List Int)) × (List Int)
abbrev BW : Type := (List Int)
noncomputable def DW (N : Nat) (f : CC → Option BW) : CC → Option BW
  | (x0, x1, x2, x3) =>
  ac (decide (x0 < x1)) (
  ac (within x0 (List.length x2)) (
  Option.bind (x2[Int.toNat x0]?) fun y0 =>
  ac (decide ((List.length x3 + List.length y0) * 8 ≤ (140737488355328 : Nat) ∧ List.length x3 + List.length y0 ≤ 140737488355328)) (
  Option.bind (f (IntKind.wrap .i64 (x0 + 1), x1, x2, x3 ++ y0)) fun r => some r) (
  none)) (
  none)) (
  some (x3))
noncomputable def iU (N : Nat) : Nat → CC → Option BW
  | 0, _ => none
  | k + 1, x => DW N (iU N k) x
theorem Jl (N : Nat) (k : Nat) : ar Tryz.prog Tryz.f55 [] 250 (C8.cut (iU N k)) :=
  C8.loopT ai aA (uy N) Tryz.f55 [] (cuts := [(58, C7.cut (mK N N))]) ⟨Az N N, trivial⟩ (by decide +kernel) (by kernel_rfl) (DW N) (iU N) (fun _ => rfl) (fun _ _ => rfl) (fun f x => by kernel_rfl) k
@[reducible] def w55 : List SP := [⟨[.sl 0], [.row (.int .i64) 3]⟩]
noncomputable def Za (N : Nat) : ((List (List Int))) → Option ((List Int))
  | x0 =>
  Option.bind (mK N N ((0 : Int), (0 : Int), (↑(List.length x0) : Int), x0, x0)) fun y0 =>
  Option.bind (Y5 N y0.1) fun y1 =>
  match y1 with
  | .inl y2 =>
  Option.bind (iU N N ((0 : Int), (↑(List.length y0.2) : Int), y0.2, [])) fun y3 =>
  some (y3)
  | .inr y2 =>
  Option.bind (iU N N ((0 : Int), (↑(List.length y0.2) : Int), y0.2, y2)) fun y4 =>
  some (y4)
noncomputable def T55 (N : Nat) : Pk → Tr Pk := ak s55 w55 (Za N)
theorem Rj (N : Nat) : aO Tryz.prog 55 (T55 N) :=
  (ah ai aA (uy N) Tryz.func55 s55 w55 [] (cuts := [(58, C7.cut (mK N N)), (250, C8.cut (iU N N))]) ⟨Az N N, Jl N N, trivial⟩ (fun _ => by kernel_rfl) (by kernel_rfl) (Za N) (fun x => by kernel_rfl))
@[reducible] def s95 : SP := ⟨[.ro y3], []⟩
noncomputable def Zq (N : Nat) : av := [(55, T55 N)]
theorem Eh (N : Nat) : aj Tryz.prog (Zq N) := ⟨Rj N, trivial⟩
@[reducible] def IA : LD := ⟨58, [3, 4, 0], [(.ret, [2]), (.exit 0, [3])], ⟨[.sl 0, .int .i64, .ro y3], [.row y3 137]⟩, [(.exit 0, ⟨[.sl 0], [.row y3 137]⟩)]⟩
abbrev Ih : Type := Int × (List (Int × ((List Int) × Unit))) × (List (Int × ((List Int) × Unit)))
abbrev HX : Type := (List (Int × ((List Int) × Unit)))
noncomputable def DL (N : Nat) (f : Ih → Option HX) : Ih → Option HX
  | (x0, x1, x2) =>
  ac (decide (IntKind.wrap .i64 (x0 + 1) < (↑(List.length x1) : Int))) (
  ac (within x0 (List.length x1)) (
  Option.bind (x1[Int.toNat x0]?) fun y0 =>
  ac (within (IntKind.wrap .i64 (x0 + 1)) (List.length x1)) (
  Option.bind (x1[Int.toNat (IntKind.wrap .i64 (x0 + 1))]?) fun y1 =>
  ac (within x0 (List.length x1)) (
  Option.bind (x1[Int.toNat x0]?) fun y2 =>
  ac (within (IntKind.wrap .i64 (x0 + 1)) (List.length x1)) (
  Option.bind (x1[Int.toNat (IntKind.wrap .i64 (x0 + 1))]?) fun y3 =>
  Option.bind (Za N [y2.2.1, y3.2.1]) fun y4 =>
  ac (decide ((List.length x2 + List.length [(IntKind.wrap .i64 (y0.1 + y1.1), y4, ())]) * 32 ≤ (140737488355328 : Nat) ∧ List.length x2 + List.length [(IntKind.wrap .i64 (y0.1 + y1.1), y4, ())] ≤ 140737488355328)) (
  Option.bind (f (IntKind.wrap .i64 (x0 + 2), x1, x2 ++ [(IntKind.wrap .i64 (y0.1 + y1.1), y4, ())])) fun r => some r) (
  none)) (
  none)) (
  none)) (
  none)) (
  none)) (
  some (x2))
noncomputable def mF (N : Nat) : Nat → Ih → Option HX
  | 0, _ => none
  | k + 1, x => DL N (mF N k) x
theorem NE (N : Nat) (k : Nat) : ar Tryz.prog Tryz.f95 [] 58 (IA.cut (mF N k)) :=
  IA.loopT ai aA (Eh N) Tryz.f95 [] (cuts := []) trivial (by decide +kernel) (by kernel_rfl) (DL N) (mF N) (fun _ => rfl) (fun _ _ => rfl) (fun f x => by kernel_rfl) k
@[reducible] def w95 : List SP := [⟨[.sl 0], [.row y3 137]⟩]
noncomputable def F95 (N : Nat) : ((List (Int × ((List Int) × Unit)))) → Option ((List (Int × ((List Int) × Unit))))
  | x0 =>
  Option.bind (mF N N ((0 : Int), x0, [])) fun y0 =>
  some (y0)
noncomputable def T95 (N : Nat) : Pk → Tr Pk := u4 PT (ak s95 w95 (F95 N))
theorem XG (N : Nat) : aO Tryz.prog 95 (T95 N) :=
  lQ Bh (ah ai aA (Eh N) Tryz.func95 s95 w95 [] (cuts := [(58, IA.cut (mF N N))]) ⟨NE N N, trivial⟩ (fun _ => by kernel_rfl) (by kernel_rfl) (F95 N) (fun x => by kernel_rfl))
@[reducible] def s56 : SP := ⟨[.ro (.int .i64), .int .i64], []⟩
noncomputable def ZZ (N : Nat) : av := [(93, T93 N), (95, T95 N), (94, T94 N)]
theorem pt (N : Nat) : aj Tryz.prog (ZZ N) := ⟨XH N, XG N, QZ N, trivial⟩
@[reducible] def mB : LD := ⟨4090, [9, 61, 60, 8, 6], [(.ret, [4, 5]), (.exit 1, [9, 6, 8])], ⟨[.ro y3, .int .i64, .int .i64, .sl 0, .ro y3], [.row (.int .i64) 3]⟩, [(.exit 1, ⟨[.ro y3, .ro y3, .sl 0], [.row (.int .i64) 3]⟩)]⟩
abbrev xd : Type := (List (Int × ((List Int) × Unit))) × Int × Int × (List (Int × ((List Int) × Unit))) × (List Int)
abbrev wz : Type := (List (Int × ((List Int) × Unit))) × (List (Int × ((List Int) × Unit))) × (List Int)
noncomputable def qD (N : Nat) (f : xd → Option wz) : xd → Option wz
  | (x0, x1, x2, x3, x4) =>
  ac (decide (x1 < x2)) (
  Option.bind (F95 N x0) fun y0 =>
  Option.bind (Y4 N (x3, y0)) fun y1 =>
  Option.bind (f (y1, IntKind.wrap .i64 (x1 + 1), x2, x3, x4)) fun r => some r) (
  some ((x0, x3, x4)))
noncomputable def cb (N : Nat) : Nat → xd → Option wz
  | 0, _ => none
  | k + 1, x => qD N (cb N k) x
theorem mW (N : Nat) (k : Nat) : ar Tryz.prog Tryz.f56 [] 4090 (mB.cut (cb N k)) :=
  mB.loopT ai aA (pt N) Tryz.f56 [] (cuts := []) trivial (by decide +kernel) (by kernel_rfl) (qD N) (cb N) (fun _ => rfl) (fun _ _ => rfl) (fun f x => by kernel_rfl) k
@[reducible] def iQ : LD := ⟨2095718, [82, 81, 73, 74, 75, 80, 8], [(.ret, [4, 5]), (.exit 5, [75, 74, 73, 8]), (.exit 4, [75, 74, 73, 8]), (.exit 3, [8])], ⟨[.int .i64, .int .i64, .ro y3, .int .i64, .int .i64, .ro (.int .i64), .sl 0], [.row (.int .i64) 3]⟩, [(.exit 5, ⟨[.int .i64, .int .i64, .ro y3, .sl 0], [.row (.int .i64) 3]⟩)]⟩
abbrev mr : Type := Int × Int × (List (Int × ((List Int) × Unit))) × Int × Int × (List Int) × (List Int)
abbrev ml : Type := Int × Int × (List (Int × ((List Int) × Unit))) × (List Int)
noncomputable def je (N : Nat) (f : mr → Option ml) : mr → Option ml
  | (x0, x1, x2, x3, x4, x5, x6) =>
  ac (decide (x0 < x1)) (
  ac (within x0 (List.length x5)) (
  Option.bind (x5[Int.toNat x0]?) fun y0 =>
  ac (within y0 (List.length x6)) (
  Option.bind (x6[Int.toNat y0]?) fun y1 =>
  ac (within y0 (List.length x6)) (
  Option.bind (x6[Int.toNat y0]?) fun y2 =>
  Option.bind (f (IntKind.wrap .i64 (x0 + 1), x1, x2, x3, x4, x5, List.set x6 (Int.toNat y0) (IntKind.wrap .i64 (y1 + 1)))) fun r => some r) (
  none)) (
  none)) (
  none)) (
  some ((x4, x3, x2, x6)))
noncomputable def cd (N : Nat) : Nat → mr → Option ml
  | 0, _ => none
  | k + 1, x => je N (cd N k) x
theorem mX (N : Nat) (k : Nat) : ar Tryz.prog Tryz.f56 [] 2095718 (iQ.cut (cd N k)) :=
  iQ.loopT ai aA (pt N) Tryz.f56 [] (cuts := [(4090, mB.cut (cb N N))]) ⟨mW N N, trivial⟩ (by decide +kernel) (by kernel_rfl) (je N) (cd N) (fun _ => rfl) (fun _ _ => rfl) (fun f x => by kernel_rfl) k
@[reducible] def xA : LD := ⟨8186, [74, 73, 75, 8], [(.ret, [4, 5]), (.exit 3, [8])], ⟨[.int .i64, .ro y3, .int .i64, .sl 0], [.row (.int .i64) 3]⟩, [(.exit 3, ⟨[.sl 0], [.row (.int .i64) 3]⟩)]⟩
abbrev xc : Type := Int × (List (Int × ((List Int) × Unit))) × Int × (List Int)
abbrev ww : Type := (List Int)
noncomputable def qC (N : Nat) (f : xc → Option ww) : xc → Option ww
  | (x0, x1, x2, x3) =>
  ac (decide (x2 < x0)) (
  ac (within x2 (List.length x1)) (
  Option.bind (x1[Int.toNat x2]?) fun y0 =>
  Option.bind (cd N N ((0 : Int), (↑(List.length y0.2.1) : Int), x1, x0, x2, y0.2.1, x3)) fun y1 =>
  Option.bind (f (y1.2.1, y1.2.2.1, IntKind.wrap .i64 (y1.1 + 1), y1.2.2.2)) fun r => some r) (
  none)) (
  some (x3))
noncomputable def du (N : Nat) : Nat → xc → Option ww
  | 0, _ => none
  | k + 1, x => qC N (du N k) x
theorem Gw (N : Nat) (k : Nat) : ar Tryz.prog Tryz.f56 [] 8186 (xA.cut (du N k)) :=
  xA.loopT ai aA (pt N) Tryz.f56 [] (cuts := [(4090, mB.cut (cb N N)), (2095718, iQ.cut (cd N N))]) ⟨mW N N, mX N N, trivial⟩ (by decide +kernel) (by kernel_rfl) (qC N) (du N) (fun _ => rfl) (fun _ _ => rfl) (fun f x => by kernel_rfl) k
@[reducible] def w56 : List SP := [⟨[.tup [.sl 0, .int .i64]], [.row (.int .i64) 3]⟩]
noncomputable def Y9 (N : Nat) : ((List Int) × Int) → Option (Int × (List Int))
  | (x0, x1) =>
  ac (decide ((↑(List.length x0) : Int) > (320 : Int))) (
  some (((1 : Int), []))) (
  ac (decide (x1 < 1)) (
  some (((1 : Int), []))) (
  ac (decide (x1 > 15)) (
  some (((1 : Int), []))) (
  Option.bind (F93 N x0) fun y0 =>
  match y0 with
  | .inl y1 =>
  ac (y1.1 != 0) (
  some ((y1.1, []))) (
  ac (decide (x1 < 0)) (
  none) (
  ac (decide ((↑(List.length y1.2) : Int) > IntKind.wrap .i64 ((1 : Int) * (2 : Int) ^ min (Int.toNat x1) (64 : Nat)))) (
  some (((50 : Int), []))) (
  ac (decide ((0 : Int) ≤ (↑(List.length x0) : Int) ∧ (↑(List.length x0) : Int) ≤ (↑(List.length x0) : Int) ∧ (↑(List.length x0) : Int) * (8 : Int) ≤ (140737488355328 : Int) ∧ (↑(List.length x0) : Int) ≤ (140737488355328 : Int))) (
  ac ((↑(List.length y1.2) : Int) == (1 : Int)) (
  ac (within (0 : Int) (List.length y1.2)) (
  Option.bind (y1.2[(0 : Nat)]?) fun y2 =>
  ac (within (0 : Int) (List.length y2.2.1)) (
  Option.bind (y2.2.1[(0 : Nat)]?) fun y3 =>
  ac (within y3 (List.length (List.replicate (Int.toNat (↑(List.length x0) : Int)) (0 : Int)))) (
  Option.bind ((List.replicate (Int.toNat (↑(List.length x0) : Int)) (0 : Int))[Int.toNat y3]?) fun y4 =>
  ac (decide ((↑(List.length y1.2) : Int) < (2 : Int))) (
  some (((0 : Int), List.set (List.replicate (Int.toNat (↑(List.length x0) : Int)) (0 : Int)) (Int.toNat y3) (1 : Int)))) (
  Option.bind (cb N N (y1.2, (0 : Int), IntKind.wrap .i64 (x1 - 1), y1.2, List.set (List.replicate (Int.toNat (↑(List.length x0) : Int)) (0 : Int)) (Int.toNat y3) (1 : Int))) fun y5 =>
  ac (decide ((0 : Int) ≤ IntKind.wrap .i64 (IntKind.wrap .i64 ((2 : Int) * (↑(List.length y5.2.1) : Int)) - 2) ∧ IntKind.wrap .i64 (IntKind.wrap .i64 ((2 : Int) * (↑(List.length y5.2.1) : Int)) - 2) ≤ (↑(List.length y5.1) : Int))) (
  Option.bind (du N N ((↑(List.length (List.take (Int.toNat (IntKind.wrap .i64 (IntKind.wrap .i64 ((2 : Int) * (↑(List.length y5.2.1) : Int)) - 2)) - 0) (List.drop (0 : Nat) y5.1))) : Int), List.take (Int.toNat (IntKind.wrap .i64 (IntKind.wrap .i64 ((2 : Int) * (↑(List.length y5.2.1) : Int)) - 2)) - 0) (List.drop (0 : Nat) y5.1), (0 : Int), y5.2.2)) fun y6 =>
  some (((0 : Int), y6))) (
  none))) (
  none)) (
  none)) (
  none)) (
  ac (decide ((↑(List.length y1.2) : Int) < (2 : Int))) (
  some (((0 : Int), List.replicate (Int.toNat (↑(List.length x0) : Int)) (0 : Int)))) (
  Option.bind (cb N N (y1.2, (0 : Int), IntKind.wrap .i64 (x1 - 1), y1.2, List.replicate (Int.toNat (↑(List.length x0) : Int)) (0 : Int))) fun y7 =>
  ac (decide ((0 : Int) ≤ IntKind.wrap .i64 (IntKind.wrap .i64 ((2 : Int) * (↑(List.length y7.2.1) : Int)) - 2) ∧ IntKind.wrap .i64 (IntKind.wrap .i64 ((2 : Int) * (↑(List.length y7.2.1) : Int)) - 2) ≤ (↑(List.length y7.1) : Int))) (
  Option.bind (du N N ((↑(List.length (List.take (Int.toNat (IntKind.wrap .i64 (IntKind.wrap .i64 ((2 : Int) * (↑(List.length y7.2.1) : Int)) - 2)) - 0) (List.drop (0 : Nat) y7.1))) : Int), List.take (Int.toNat (IntKind.wrap .i64 (IntKind.wrap .i64 ((2 : Int) * (↑(List.length y7.2.1) : Int)) - 2)) - 0) (List.drop (0 : Nat) y7.1), (0 : Int), y7.2.2)) fun y8 =>
  some (((0 : Int), y8))) (
  none)))) (
  none))))
  | .inr y1 =>
  ac (y1.2 != 0) (
  some ((y1.2, []))) (
  ac (decide (x1 < 0)) (
  none) (
  ac (decide ((↑(List.length y1.1) : Int) > IntKind.wrap .i64 ((1 : Int) * (2 : Int) ^ min (Int.toNat x1) (64 : Nat)))) (
  some (((50 : Int), []))) (
  ac (decide ((0 : Int) ≤ (↑(List.length x0) : Int) ∧ (↑(List.length x0) : Int) ≤ (↑(List.length x0) : Int) ∧ (↑(List.length x0) : Int) * (8 : Int) ≤ (140737488355328 : Int) ∧ (↑(List.length x0) : Int) ≤ (140737488355328 : Int))) (
  ac ((↑(List.length y1.1) : Int) == (1 : Int)) (
  ac (within (0 : Int) (List.length y1.1)) (
  Option.bind (y1.1[(0 : Nat)]?) fun y9 =>
  ac (within (0 : Int) (List.length y9.2.1)) (
  Option.bind (y9.2.1[(0 : Nat)]?) fun y10 =>
  ac (within y10 (List.length (List.replicate (Int.toNat (↑(List.length x0) : Int)) (0 : Int)))) (
  Option.bind ((List.replicate (Int.toNat (↑(List.length x0) : Int)) (0 : Int))[Int.toNat y10]?) fun y11 =>
  ac (decide ((↑(List.length y1.1) : Int) < (2 : Int))) (
  some (((0 : Int), List.set (List.replicate (Int.toNat (↑(List.length x0) : Int)) (0 : Int)) (Int.toNat y10) (1 : Int)))) (
  Option.bind (cb N N (y1.1, (0 : Int), IntKind.wrap .i64 (x1 - 1), y1.1, List.set (List.replicate (Int.toNat (↑(List.length x0) : Int)) (0 : Int)) (Int.toNat y10) (1 : Int))) fun y12 =>
  ac (decide ((0 : Int) ≤ IntKind.wrap .i64 (IntKind.wrap .i64 ((2 : Int) * (↑(List.length y12.2.1) : Int)) - 2) ∧ IntKind.wrap .i64 (IntKind.wrap .i64 ((2 : Int) * (↑(List.length y12.2.1) : Int)) - 2) ≤ (↑(List.length y12.1) : Int))) (
  Option.bind (du N N ((↑(List.length (List.take (Int.toNat (IntKind.wrap .i64 (IntKind.wrap .i64 ((2 : Int) * (↑(List.length y12.2.1) : Int)) - 2)) - 0) (List.drop (0 : Nat) y12.1))) : Int), List.take (Int.toNat (IntKind.wrap .i64 (IntKind.wrap .i64 ((2 : Int) * (↑(List.length y12.2.1) : Int)) - 2)) - 0) (List.drop (0 : Nat) y12.1), (0 : Int), y12.2.2)) fun y13 =>
  some (((0 : Int), y13))) (
  none))) (
  none)) (
  none)) (
  none)) (
  ac (decide ((↑(List.length y1.1) : Int) < (2 : Int))) (
  some (((0 : Int), List.replicate (Int.toNat (↑(List.length x0) : Int)) (0 : Int)))) (
  Option.bind (cb N N (y1.1, (0 : Int), IntKind.wrap .i64 (x1 - 1), y1.1, List.replicate (Int.toNat (↑(List.length x0) : Int)) (0 : Int))) fun y14 =>
  ac (decide ((0 : Int) ≤ IntKind.wrap .i64 (IntKind.wrap .i64 ((2 : Int) * (↑(List.length y14.2.1) : Int)) - 2) ∧ IntKind.wrap .i64 (IntKind.wrap .i64 ((2 : Int) * (↑(List.length y14.2.1) : Int)) - 2) ≤ (↑(List.length y14.1) : Int))) (
  Option.bind (du N N ((↑(List.length (List.take (Int.toNat (IntKind.wrap .i64 (IntKind.wrap .i64 ((2 : Int) * (↑(List.length y14.2.1) : Int)) - 2)) - 0) (List.drop (0 : Nat) y14.1))) : Int), List.take (Int.toNat (IntKind.wrap .i64 (IntKind.wrap .i64 ((2 : Int) * (↑(List.length y14.2.1) : Int)) - 2)) - 0) (List.drop (0 : Nat) y14.1), (0 : Int), y14.2.2)) fun y15 =>
  some (((0 : Int), y15))) (
  none)))) (
  none)))))))
noncomputable def T56 (N : Nat) : Pk → Tr Pk := ak s56 w56 (Y9 N)
theorem Ri (N : Nat) : aO Tryz.prog 56 (T56 N) :=
  (ah ai aA (pt N) Tryz.func56 s56 w56 [] (cuts := [(4090, mB.cut (cb N N)), (2095718, iQ.cut (cd N N)), (8186, xA.cut (du N N))]) ⟨mW N N, mX N N, Gw N N, trivial⟩ (fun _ => by kernel_rfl) (by kernel_rfl) (Y9 N) (fun x => by kernel_rfl))
@[reducible] def s68 : SP := ⟨[.ro (.int .i64)], []⟩
noncomputable def ZN (N : Nat) : av := [(56, T56 N)]
theorem OI (N : Nat) : aj Tryz.prog (ZN N) := ⟨Ri N, trivial⟩
@[reducible] def w68 : List SP := [⟨[.sl 0], [.row (.int .i64) 3]⟩]
noncomputable def V1 (N : Nat) : ((List Int)) → Option ((List Int))
  | x0 =>
  Option.bind (Y9 N (x0, (15 : Int))) fun y0 =>
  some y0.2
noncomputable def T68 (N : Nat) : Pk → Tr Pk := ak s68 w68 (V1 N)
theorem XV (N : Nat) : aO Tryz.prog 68 (T68 N) :=
  (ah ai aA (OI N) Tryz.func68 s68 w68 [] (cuts := []) trivial (fun _ => by kernel_rfl) (by kernel_rfl) (V1 N) (fun x => by kernel_rfl))
@[reducible] def s67 : SP := ⟨[.ro (.int .i64), .int .i64], []⟩
noncomputable def ZO (N : Nat) : av := []
theorem Em (N : Nat) : aj Tryz.prog (ZO N) := trivial
@[reducible] def IF : LD := ⟨28, [5, 1, 0], [(.ret, [4]), (.exit 0, [0, 5])], ⟨[.int .i64, .int .i64, .ro (.int .i64)], []⟩, [(.exit 0, ⟨[.ro (.int .i64), .int .i64], []⟩)]⟩
abbrev Il : Type := Int × Int × (List Int)
abbrev H1 : Type := (List Int) × Int
noncomputable def DT (N : Nat) (f : Il → Option H1) : Il → Option H1
  | (x0, x1, x2) =>
  ac (decide (x0 > x1)) (
  ac (within (IntKind.wrap .i64 (x0 - 1)) (List.length x2)) (
  Option.bind (x2[Int.toNat (IntKind.wrap .i64 (x0 - 1))]?) fun y0 =>
  ac (y0 == 0) (
  Option.bind (f (IntKind.wrap .i64 (x0 - 1), x1, x2)) fun r => some r) (
  some ((x2, x0)))) (
  none)) (
  some ((x2, x0)))
noncomputable def mH (N : Nat) : Nat → Il → Option H1
  | 0, _ => none
  | k + 1, x => DT N (mH N k) x
theorem NK (N : Nat) (k : Nat) : ar Tryz.prog Tryz.f67 [] 28 (IF.cut (mH N k)) :=
  IF.loopT ai aA (Em N) Tryz.f67 [] (cuts := []) trivial (by decide +kernel) (by kernel_rfl) (DT N) (mH N) (fun _ => rfl) (fun _ _ => rfl) (fun f x => by kernel_rfl) k
@[reducible] def w67 : List SP := [⟨[.ro (.int .i64)], []⟩]
noncomputable def V2 (N : Nat) : ((List Int) × Int) → Option ((List Int))
  | (x0, x1) =>
  Option.bind (mH N N ((↑(List.length x0) : Int), x1, x0)) fun y0 =>
  ac (decide ((0 : Int) ≤ y0.2 ∧ y0.2 ≤ (↑(List.length y0.1) : Int))) (
  some (List.take (Int.toNat y0.2 - 0) (List.drop (0 : Nat) y0.1))) (
  none)
noncomputable def T67 (N : Nat) : Pk → Tr Pk := ak s67 w67 (V2 N)
theorem XW (N : Nat) : aO Tryz.prog 67 (T67 N) :=
  (ah ai aA (Em N) Tryz.func67 s67 w67 [] (cuts := [(28, IF.cut (mH N N))]) ⟨NK N N, trivial⟩ (fun _ => by kernel_rfl) (by kernel_rfl) (V2 N) (fun x => by kernel_rfl))
@[reducible] def s52 : SP := ⟨[.int .i64], []⟩
noncomputable def Z4 (N : Nat) : av := []
theorem OM (N : Nat) : aj Tryz.prog (Z4 N) := trivial
@[reducible] def w52 : List SP := [⟨[.bool], []⟩]
noncomputable def F52 (N : Nat) : (Int) → Option (Bool)
  | x0 =>
  ac (decide (x0 < 0)) (
  some (true)) (
  some (decide (x0 > 15)))
noncomputable def T52 (N : Nat) : Pk → Tr Pk := ak s52 w52 (F52 N)
theorem Rk (N : Nat) : aO Tryz.prog 52 (T52 N) :=
  (ah ai aA (OM N) Tryz.func52 s52 w52 [] (cuts := []) trivial (fun _ => by kernel_rfl) (by kernel_rfl) (F52 N) (fun x => by kernel_rfl))
@[reducible] def s90a : SP := ⟨[.ro (.int .i64), .fn 52], []⟩
noncomputable def Wb (N : Nat) : av := [(52, T52 N)]
theorem zj (N : Nat) : aj Tryz.prog (Wb N) := ⟨Rk N, trivial⟩
@[reducible] def C1 : LD := ⟨26, [7, 1, 0, 8], [(.ret, [4]), (.exit 0, [])], ⟨[.int .i64, .fn 52, .ro (.int .i64), .int .i64], []⟩, [(.ret, ⟨[.int .i64], []⟩), (.exit 0, ⟨[], []⟩)]⟩
abbrev Cs : Type := Int × (List Int) × Int
abbrev BN : Type := ((Int) ⊕ (Unit))
noncomputable def tX (N : Nat) (f : Cs → Option BN) : Cs → Option BN
  | (x0, x1, x2) =>
  ac (decide (x2 < x0)) (
  ac (within x2 (List.length x1)) (
  Option.bind (x1[Int.toNat x2]?) fun y0 =>
  Option.bind (F52 N y0) fun y1 =>
  ac (y1) (
  some (.inl (x2))) (
  Option.bind (f (x0, x1, IntKind.wrap .i64 (x2 + 1))) fun r => match r with | .inl y => some (.inl y) | .inr y => some (.inr y))) (
  none)) (
  some (.inr (())))
noncomputable def gz (N : Nat) : Nat → Cs → Option BN
  | 0, _ => none
  | k + 1, x => tX N (gz N k) x
theorem Jg (N : Nat) (k : Nat) : ar Tryz.prog Tryz.f90 [] 26 (C1.cut (gz N k)) :=
  C1.loopT ai aA (zj N) Tryz.f90 [] (cuts := []) trivial (by decide +kernel) (by kernel_rfl) (tX N) (gz N) (fun _ => rfl) (fun _ _ => rfl) (fun f x => by kernel_rfl) k
@[reducible] def w90a : List SP := [⟨[.int .i64], []⟩]
noncomputable def U6 (N : Nat) : ((List Int)) → Option (Int)
  | x0 =>
  Option.bind (gz N N ((↑(List.length x0) : Int), x0, (0 : Int))) fun y0 =>
  match y0 with
  | .inl y1 =>
  some (y1)
  | .inr y1 =>
  some ((-1 : Int))
noncomputable def ag5 (N : Nat) : Pk → Tr Pk := ak s90a w90a (U6 N)
theorem TX (N : Nat) : aO Tryz.prog 90 (ag5 N) :=
  (ah ai aA (zj N) Tryz.func90 s90a w90a [] (cuts := [(26, C1.cut (gz N N))]) ⟨Jg N N, trivial⟩ (fun _ => by kernel_rfl) (by kernel_rfl) (U6 N) (fun x => by kernel_rfl))
noncomputable def T90 (N : Nat) : Pk → Tr Pk := (ag5 N)
theorem XK (N : Nat) : aO Tryz.prog 90 (T90 N) := (TX N)
@[reducible] def s53a : SP := ⟨[.ro (.int .i64), .fn 52], []⟩
noncomputable def Wc (N : Nat) : av := [(90, T90 N), (52, T52 N)]
theorem KX (N : Nat) : aj Tryz.prog (Wc N) := ⟨XK N, Rk N, trivial⟩
@[reducible] def w53a : List SP := [⟨[.bool], []⟩]
noncomputable def MP (N : Nat) : ((List Int)) → Option (Bool)
  | x0 =>
  Option.bind (U6 N x0) fun y0 =>
  some (decide (y0 ≥ 0))
noncomputable def ag6 (N : Nat) : Pk → Tr Pk := ak s53a w53a (MP N)
theorem TY (N : Nat) : aO Tryz.prog 53 (ag6 N) :=
  (ah ai aA (KX N) Tryz.func53 s53a w53a [] (cuts := []) trivial (fun _ => by kernel_rfl) (by kernel_rfl) (MP N) (fun x => by kernel_rfl))
noncomputable def T53 (N : Nat) : Pk → Tr Pk := (ag6 N)
theorem X3 (N : Nat) : aO Tryz.prog 53 (T53 N) := (TY N)
@[reducible] def s91 : SP := ⟨[.ro (.int .i64), .int .i64, .int .i64], []⟩
noncomputable def Zu (N : Nat) : av := []
theorem Ej (N : Nat) : aj Tryz.prog (Zu N) := trivial
@[reducible] def IC : LD := ⟨28, [7, 2, 0, 1], [(.ret, [6]), (.exit 0, [7])], ⟨[.int .i64, .int .i64, .ro (.int .i64), .int .i64], []⟩, [(.exit 0, ⟨[.int .i64], []⟩)]⟩
abbrev Ij : Type := Int × Int × (List Int) × Int
abbrev HZ : Type := Int
noncomputable def JE (N : Nat) (f : Ij → Option HZ) : Ij → Option HZ
  | (x0, x1, x2, x3) =>
  ac (decide (x0 < x1)) (
  ac (decide (IntKind.wrap .i64 (x3 + x0) < (↑(List.length x2) : Int))) (
  ac (within (IntKind.wrap .i64 (x3 + x0)) (List.length x2)) (
  Option.bind (x2[Int.toNat (IntKind.wrap .i64 (x3 + x0))]?) fun y0 =>
  ac (within x3 (List.length x2)) (
  Option.bind (x2[Int.toNat x3]?) fun y1 =>
  ac (y0 == y1) (
  Option.bind (f (IntKind.wrap .i64 (x0 + 1), x1, x2, x3)) fun r => some r) (
  some (x0))) (
  none)) (
  none)) (
  some (x0))) (
  some (x0))
noncomputable def pb (N : Nat) : Nat → Ij → Option HZ
  | 0, _ => none
  | k + 1, x => JE N (pb N k) x
theorem NG (N : Nat) (k : Nat) : ar Tryz.prog Tryz.f91 [] 28 (IC.cut (pb N k)) :=
  IC.loopT ai aA (Ej N) Tryz.f91 [] (cuts := []) trivial (by decide +kernel) (by kernel_rfl) (JE N) (pb N) (fun _ => rfl) (fun _ _ => rfl) (fun f x => by kernel_rfl) k
@[reducible] def w91 : List SP := [⟨[.int .i64], []⟩]
noncomputable def F91 (N : Nat) : ((List Int) × Int × Int) → Option (Int)
  | (x0, x1, x2) =>
  Option.bind (pb N N ((1 : Int), x2, x0, x1)) fun y0 =>
  some (y0)
noncomputable def T91 (N : Nat) : Pk → Tr Pk := ak s91 w91 (F91 N)
theorem XJ (N : Nat) : aO Tryz.prog 91 (T91 N) :=
  (ah ai aA (Ej N) Tryz.func91 s91 w91 [] (cuts := [(28, IC.cut (pb N N))]) ⟨NG N N, trivial⟩ (fun _ => by kernel_rfl) (by kernel_rfl) (F91 N) (fun x => by kernel_rfl))
@[reducible] def s54 : SP := ⟨[.ro (.int .i64)], []⟩
noncomputable def Z3 (N : Nat) : av := [(91, T91 N)]
theorem pu (N : Nat) : aj Tryz.prog (Z3 N) := ⟨XJ N, trivial⟩
@[reducible] def jX : LD := ⟨29863, [37, 3, 4, 5, 0], [(.ret, [2]), (.exit 2, [4, 5, 3, 0]), (.exit 1, [3, 4, 0]), (.exit 0, [3]), (.normal, [4, 5, 3, 0])], ⟨[.bool, .sl 0, .int .i64, .int .i64, .ro (.int .i64)], [.row y0 96]⟩, [(.normal, ⟨[.int .i64, .int .i64, .sl 0, .ro (.int .i64)], [.row y0 96]⟩)]⟩
noncomputable def dD (N : Nat) : (Bool × Int × Int × (List Int) × (List (Int × (Int × (Int × Unit))))) → Option (Int × Int × (List Int) × (List (Int × (Int × (Int × Unit)))))
  | (x0, x1, x2, x3, x4) =>
  ac (x0) (
  ac (decide ((List.length x4 + List.length [((17 : Int), (3 : Int), IntKind.wrap .i64 (x2 - 3), ())]) * 24 ≤ (140737488355328 : Nat) ∧ List.length x4 + List.length [((17 : Int), (3 : Int), IntKind.wrap .i64 (x2 - 3), ())] ≤ 140737488355328)) (
  some ((x1, x2, x3, x4 ++ [((17 : Int), (3 : Int), IntKind.wrap .i64 (x2 - 3), ())]))) (
  none)) (
  ac (decide (x1 > 0)) (
  ac (within x1 (List.length x3)) (
  Option.bind (x3[Int.toNat x1]?) fun y0 =>
  ac (within (IntKind.wrap .i64 (x1 - 1)) (List.length x3)) (
  Option.bind (x3[Int.toNat (IntKind.wrap .i64 (x1 - 1))]?) fun y1 =>
  ac (y0 == y1) (
  ac (decide (x2 > 2)) (
  ac (decide ((List.length x4 + List.length [((16 : Int), (2 : Int), IntKind.wrap .i64 ((if (6 : Int) < x2 then (6 : Int) else x2) - 3), ())]) * 24 ≤ (140737488355328 : Nat) ∧ List.length x4 + List.length [((16 : Int), (2 : Int), IntKind.wrap .i64 ((if (6 : Int) < x2 then (6 : Int) else x2) - 3), ())] ≤ 140737488355328)) (
  some ((x1, if (6 : Int) < x2 then (6 : Int) else x2, x3, x4 ++ [((16 : Int), (2 : Int), IntKind.wrap .i64 ((if (6 : Int) < x2 then (6 : Int) else x2) - 3), ())]))) (
  none)) (
  ac (within x1 (List.length x3)) (
  Option.bind (x3[Int.toNat x1]?) fun y2 =>
  ac (decide ((List.length x4 + List.length [(y2, (0 : Int), (0 : Int), ())]) * 24 ≤ (140737488355328 : Nat) ∧ List.length x4 + List.length [(y2, (0 : Int), (0 : Int), ())] ≤ 140737488355328)) (
  some ((x1, (1 : Int), x3, x4 ++ [(y2, (0 : Int), (0 : Int), ())]))) (
  none)) (
  none))) (
  ac (within x1 (List.length x3)) (
  Option.bind (x3[Int.toNat x1]?) fun y3 =>
  ac (decide ((List.length x4 + List.length [(y3, (0 : Int), (0 : Int), ())]) * 24 ≤ (140737488355328 : Nat) ∧ List.length x4 + List.length [(y3, (0 : Int), (0 : Int), ())] ≤ 140737488355328)) (
  some ((x1, (1 : Int), x3, x4 ++ [(y3, (0 : Int), (0 : Int), ())]))) (
  none)) (
  none))) (
  none)) (
  none)) (
  ac (within x1 (List.length x3)) (
  Option.bind (x3[Int.toNat x1]?) fun y4 =>
  ac (decide ((List.length x4 + List.length [(y4, (0 : Int), (0 : Int), ())]) * 24 ≤ (140737488355328 : Nat) ∧ List.length x4 + List.length [(y4, (0 : Int), (0 : Int), ())] ≤ 140737488355328)) (
  some ((x1, (1 : Int), x3, x4 ++ [(y4, (0 : Int), (0 : Int), ())]))) (
  none)) (
  none)))
theorem kX (N : Nat) (k : Nat) : ar Tryz.prog Tryz.f54 [] 29863 (jX.cut (dD N)) :=
  jX.pieceT ai aA (pu N) Tryz.f54 [] (cuts := []) trivial (by decide +kernel) (by kernel_rfl) (dD N) (fun x => by kernel_rfl)
@[reducible] def qi : LD := ⟨7465, [21, 3, 4, 5, 0], [(.ret, [2]), (.exit 2, [4, 5, 3, 0]), (.exit 1, [3, 4, 0]), (.exit 0, [3]), (.normal, [4, 5, 3, 0])], ⟨[.bool, .sl 0, .int .i64, .int .i64, .ro (.int .i64)], [.row y0 96]⟩, [(.normal, ⟨[.int .i64, .int .i64, .sl 0, .ro (.int .i64)], [.row y0 96]⟩)]⟩
noncomputable def eN (N : Nat) : (Bool × Int × Int × (List Int) × (List (Int × (Int × (Int × Unit))))) → Option (Int × Int × (List Int) × (List (Int × (Int × (Int × Unit)))))
  | (x0, x1, x2, x3, x4) =>
  ac (x0) (
  ac (decide ((List.length x4 + List.length [((18 : Int), (7 : Int), IntKind.wrap .i64 (x2 - 11), ())]) * 24 ≤ (140737488355328 : Nat) ∧ List.length x4 + List.length [((18 : Int), (7 : Int), IntKind.wrap .i64 (x2 - 11), ())] ≤ 140737488355328)) (
  some ((x1, x2, x3, x4 ++ [((18 : Int), (7 : Int), IntKind.wrap .i64 (x2 - 11), ())]))) (
  none)) (
  ac (within x1 (List.length x3)) (
  Option.bind (x3[Int.toNat x1]?) fun y0 =>
  ac (y0 == 0) (
  Option.bind (dD N (decide (x2 > 2), x1, x2, x3, x4)) fun y1 =>
  some ((y1.1, y1.2.1, y1.2.2.1, y1.2.2.2))) (
  Option.bind (dD N (false, x1, x2, x3, x4)) fun y2 =>
  some ((y2.1, y2.2.1, y2.2.2.1, y2.2.2.2)))) (
  none))
theorem tk (N : Nat) (k : Nat) : ar Tryz.prog Tryz.f54 [] 7465 (qi.cut (eN N)) :=
  qi.pieceT ai aA (pu N) Tryz.f54 [] (cuts := [(29863, jX.cut (dD N))]) ⟨kX N N, trivial⟩ (by decide +kernel) (by kernel_rfl) (eN N) (fun x => by kernel_rfl)
@[reducible] def II : LD := ⟨58, [3, 4, 0], [(.ret, [2]), (.exit 0, [3])], ⟨[.sl 0, .int .i64, .ro (.int .i64)], [.row y0 96]⟩, [(.exit 0, ⟨[.sl 0], [.row y0 96]⟩)]⟩
abbrev Ir : Type := Int × (List Int) × (List (Int × (Int × (Int × Unit))))
abbrev H6 : Type := (List (Int × (Int × (Int × Unit))))
noncomputable def DX (N : Nat) (f : Ir → Option H6) : Ir → Option H6
  | (x0, x1, x2) =>
  ac (decide (x0 < (↑(List.length x1) : Int))) (
  Option.bind (F91 N (x1, x0, (138 : Int))) fun y0 =>
  ac (within x0 (List.length x1)) (
  Option.bind (x1[Int.toNat x0]?) fun y1 =>
  ac (y1 == 0) (
  Option.bind (eN N (decide (y0 > 10), x0, y0, x1, x2)) fun y2 =>
  Option.bind (f (IntKind.wrap .i64 (y2.1 + y2.2.1), y2.2.2.1, y2.2.2.2)) fun r => some r) (
  Option.bind (eN N (false, x0, y0, x1, x2)) fun y3 =>
  Option.bind (f (IntKind.wrap .i64 (y3.1 + y3.2.1), y3.2.2.1, y3.2.2.2)) fun r => some r)) (
  none)) (
  some (x2))
noncomputable def jq (N : Nat) : Nat → Ir → Option H6
  | 0, _ => none
  | k + 1, x => DX N (jq N k) x
theorem NN (N : Nat) (k : Nat) : ar Tryz.prog Tryz.f54 [] 58 (II.cut (jq N k)) :=
  II.loopT ai aA (pu N) Tryz.f54 [] (cuts := [(29863, jX.cut (dD N)), (7465, qi.cut (eN N))]) ⟨kX N N, tk N N, trivial⟩ (by decide +kernel) (by kernel_rfl) (DX N) (jq N) (fun _ => rfl) (fun _ _ => rfl) (fun f x => by kernel_rfl) k
@[reducible] def w54 : List SP := [⟨[.sl 0], [.row y0 96]⟩]
noncomputable def F54 (N : Nat) : ((List Int)) → Option ((List (Int × (Int × (Int × Unit)))))
  | x0 =>
  Option.bind (jq N N ((0 : Int), x0, [])) fun y0 =>
  some (y0)
noncomputable def T54 (N : Nat) : Pk → Tr Pk := ak s54 w54 (F54 N)
theorem X0 (N : Nat) : aO Tryz.prog 54 (T54 N) :=
  (ah ai aA (pu N) Tryz.func54 s54 w54 [] (cuts := [(29863, jX.cut (dD N)), (7465, qi.cut (eN N)), (58, II.cut (jq N N))]) ⟨kX N N, tk N N, NN N N, trivial⟩ (fun _ => by kernel_rfl) (by kernel_rfl) (F54 N) (fun x => by kernel_rfl))
@[reducible] def s58 : SP := ⟨[], []⟩
noncomputable def ZX (N : Nat) : av := []
theorem Er (N : Nat) : aj Tryz.prog (ZX N) := trivial
@[reducible] def IH : LD := ⟨58, [1, 2], [(.ret, [0]), (.exit 0, [1])], ⟨[.sl 0, .int .i64], [.row (.int .i64) 3]⟩, [(.exit 0, ⟨[.sl 0], [.row (.int .i64) 3]⟩)]⟩
abbrev Ip : Type := Int × (List Int)
abbrev H4 : Type := (List Int)
noncomputable def SU (N : Nat) (f : Ip → Option H4) : Ip → Option H4
  | (x0, x1) =>
  ac (decide (x0 < 8)) (
  ac (decide ((List.length x1 + List.length [IntKind.wrap .i64 ((7 : Int) + x0), IntKind.wrap .i64 ((8 : Int) - x0)]) * 8 ≤ (140737488355328 : Nat) ∧ List.length x1 + List.length [IntKind.wrap .i64 ((7 : Int) + x0), IntKind.wrap .i64 ((8 : Int) - x0)] ≤ 140737488355328)) (
  Option.bind (f (IntKind.wrap .i64 (x0 + 1), x1 ++ [IntKind.wrap .i64 ((7 : Int) + x0), IntKind.wrap .i64 ((8 : Int) - x0)])) fun r => some r) (
  none)) (
  some (x1))
noncomputable def xZ (N : Nat) : Nat → Ip → Option H4
  | 0, _ => none
  | k + 1, x => SU N (xZ N k) x
theorem NM (N : Nat) (k : Nat) : ar Tryz.prog Tryz.f58 [] 58 (IH.cut (xZ N k)) :=
  IH.loopT ai aA (Er N) Tryz.f58 [] (cuts := []) trivial (by decide +kernel) (by kernel_rfl) (SU N) (xZ N) (fun _ => rfl) (fun _ _ => rfl) (fun f x => by kernel_rfl) k
@[reducible] def w58 : List SP := [⟨[.sl 0], [.row (.int .i64) 3]⟩]
noncomputable def F58 (N : Nat) : (Unit) → Option ((List Int))
  | () =>
  Option.bind (xZ N N ((1 : Int), [(16 : Int), (17 : Int), (18 : Int), (0 : Int)])) fun y0 =>
  ac (decide ((List.length y0 + 1) * 8 ≤ (140737488355328 : Nat) ∧ List.length y0 + 1 ≤ (140737488355328 : Nat))) (
  some (y0 ++ [(15 : Int)])) (
  none)
noncomputable def T58 (N : Nat) : Pk → Tr Pk := ak s58 w58 (F58 N)
theorem Re (N : Nat) : aO Tryz.prog 58 (T58 N) :=
  (ah ai aA (Er N) Tryz.func58 s58 w58 [] (cuts := [(58, IH.cut (xZ N N))]) ⟨NM N N, trivial⟩ (fun _ => by kernel_rfl) (by kernel_rfl) (F58 N) (fun x => by kernel_rfl))
@[reducible] def s21 : SP := ⟨[.adr 0 [], .ro (.int .i64), .ro (.int .i64)], [.var (.agg [.sl 1, .int .i64, .int .i64]), .row (.int .u8) 5]⟩
noncomputable def ac0 (N : Nat) : av := [(53, T53 N), (55, T55 N), (54, T54 N), (56, T56 N), (57, T57 N), (58, T58 N), (14, Yt N), (59, T59 N)]
theorem jw (N : Nat) : aj Tryz.prog (ac0 N) := ⟨X3 N, Rj N, X0 N, Ri N, Rh N, Re N, rD N, Rc N, trivial⟩
@[reducible] def kN : LD := ⟨506, [58, 57, 1, 2, 8, 0, 56, 9], [(.ret, [6]), (.exit 0, [9, 0, 8, 2, 1])], ⟨[.int .i64, .int .i64, .ro (.int .i64), .ro (.int .i64), .sl 1, .adr 0 [], .sl 1, .sl 2], [.var (.agg [.sl 3, .int .i64, .int .i64]), .row y0 96, .row (.int .i64) 3, .row (.int .u8) 5]⟩, [(.exit 0, ⟨[.sl 1, .adr 0 [], .sl 2, .ro (.int .i64), .ro (.int .i64)], [.var (.agg [.sl 3, .int .i64, .int .i64]), .row (.int .i64) 3, .row y0 96, .row (.int .u8) 5]⟩)]⟩
abbrev CH : Type := Int × Int × (List Int) × (List Int) × Int × Int × (List (Int × (Int × (Int × Unit)))) × (List Int) × (List Int)
abbrev Ca : Type := (List Int) × (List Int) × Int × Int × (List Int) × (List (Int × (Int × (Int × Unit)))) × (List Int)
noncomputable def uc (N : Nat) (f : CH → Option Ca) : CH → Option Ca
  | (x0, x1, x2, x3, x4, x5, x6, x7, x8) =>
  ac (decide (x0 < x1)) (
  ac (within x0 (List.length x6)) (
  Option.bind (x6[Int.toNat x0]?) fun y0 =>
  ac (within y0.1 (List.length x7)) (
  Option.bind (x7[Int.toNat y0.1]?) fun y1 =>
  ac (within y0.1 (List.length x7)) (
  Option.bind (x7[Int.toNat y0.1]?) fun y2 =>
  Option.bind (f (IntKind.wrap .i64 (x0 + 1), x1, x2, x3, x4, x5, x6, List.set x7 (Int.toNat y0.1) (IntKind.wrap .i64 (y1 + 1)), x8)) fun r => some r) (
  none)) (
  none)) (
  none)) (
  some ((x3, x2, x4, x5, x7, x6, x8)))
noncomputable def dE (N : Nat) : Nat → CH → Option Ca
  | 0, _ => none
  | k + 1, x => uc N (dE N k) x
theorem iC (N : Nat) (k : Nat) : ar Tryz.prog Tryz.f21 [0] 506 (kN.cut (dE N k)) :=
  kN.loopT ai aA (jw N) Tryz.f21 [0] (cuts := []) trivial (by decide +kernel) (by kernel_rfl) (uc N) (dE N) (fun _ => rfl) (fun _ _ => rfl) (fun f x => by kernel_rfl) k
@[reducible] def jY : LD := ⟨8188, [17, 12, 0, 8, 14, 16, 2, 1], [(.ret, [6]), (.exit 2, [1, 2, 16, 17, 14, 8, 0, 12])], ⟨[.int .i64, .sl 1, .adr 0 [], .sl 2, .sl 3, .sl 4, .ro (.int .i64), .ro (.int .i64)], [.var (.agg [.sl 5, .int .i64, .int .i64]), .row (.int .i64) 3, .row y0 96, .row y2 105, .row (.int .i64) 3, .row (.int .u8) 5]⟩, [(.exit 2, ⟨[.ro (.int .i64), .ro (.int .i64), .sl 1, .int .i64, .sl 2, .sl 3, .adr 0 [], .sl 4], [.var (.agg [.sl 5, .int .i64, .int .i64]), .row (.int .i64) 3, .row y2 105, .row y0 96, .row (.int .i64) 3, .row (.int .u8) 5]⟩)]⟩
abbrev xf : Type := Int × (List Int) × (List Int) × Int × Int × (List Int) × (List (Int × (Int × (Int × Unit)))) × (List (Int × (Int × Unit))) × (List Int) × (List Int)
abbrev wC : Type := (List Int) × (List Int) × Int × Int × Int × (List Int) × (List (Int × (Int × Unit))) × (List (Int × (Int × (Int × Unit)))) × (List Int) × (List Int)
noncomputable def yw (N : Nat) (f : xf → Option wC) : xf → Option wC
  | (x0, x1, x2, x3, x4, x5, x6, x7, x8, x9) =>
  ac (decide (x0 > 4)) (
  ac (within (IntKind.wrap .i64 (x0 - 1)) (List.length x8)) (
  Option.bind (x8[Int.toNat (IntKind.wrap .i64 (x0 - 1))]?) fun y0 =>
  ac (within y0 (List.length x5)) (
  Option.bind (x5[Int.toNat y0]?) fun y1 =>
  ac (y1 == 0) (
  Option.bind (f (IntKind.wrap .i64 (x0 - 1), x1, x2, x3, x4, x5, x6, x7, x8, x9)) fun r => some r) (
  some ((x2, x1, x0, x3, x4, x8, x7, x6, x5, x9)))) (
  none)) (
  none)) (
  some ((x2, x1, x0, x3, x4, x8, x7, x6, x5, x9)))
noncomputable def dQ (N : Nat) : Nat → xf → Option wC
  | 0, _ => none
  | k + 1, x => yw N (dQ N k) x
theorem jc (N : Nat) (k : Nat) : ar Tryz.prog Tryz.f21 [0] 8188 (jY.cut (dQ N k)) :=
  jY.loopT ai aA (jw N) Tryz.f21 [0] (cuts := [(506, kN.cut (dE N N))]) ⟨iC N N, trivial⟩ (by decide +kernel) (by kernel_rfl) (yw N) (dQ N) (fun _ => rfl) (fun _ _ => rfl) (fun f x => by kernel_rfl) k
@[reducible] def iv : LD := ⟨262138, [116, 115, 14, 8, 114, 0, 12], [(.ret, [6]), (.exit 4, [8, 14, 0])], ⟨[.int .i64, .int .i64, .sl 1, .sl 2, .slp 3 (.c 0) .h, .adr 0 [], .sl 4], [.var (.agg [.sl 5, .int .i64, .int .i64]), .row y2 105, .row y0 96, .row (.int .i64) 3, .row (.int .i64) 3, .row (.int .u8) 5]⟩, [(.exit 4, ⟨[.sl 1, .sl 2, .adr 0 []], [.var (.agg [.sl 3, .int .i64, .int .i64]), .row y0 96, .row y2 105, .row (.int .u8) 5]⟩)]⟩
abbrev oY : Type := Int × Int × Nat × Int × Int × (List (Int × (Int × Unit))) × (List (Int × (Int × (Int × Unit)))) × (List Int) × (List Int) × (List Int)
abbrev oP : Type := Int × Int × (List (Int × (Int × (Int × Unit)))) × (List (Int × (Int × Unit))) × (List Int)
noncomputable def k8 (N : Nat) (f : oY → Option oP) : oY → Option oP
  | (x0, x1, x2, x3, x4, x5, x6, x7, x8, x9) =>
  ac (decide (x0 < x1)) (
  ac (within x0 x2) (
  Option.bind (x7[(0 : Nat) + Int.toNat x0]?) fun y0 =>
  ac (within y0 (List.length x8)) (
  Option.bind (x8[Int.toNat y0]?) fun y1 =>
  Option.bind (yk N ((3 : Int), y1, x3, x4, x9)) fun y2 =>
  Option.bind (f (IntKind.wrap .i64 (x0 + 1), x1, x2, y2.1, y2.2.1, x5, x6, x7, x8, y2.2.2)) fun r => some r) (
  none)) (
  none)) (
  some ((x3, x4, x6, x5, x9)))
noncomputable def bS (N : Nat) : Nat → oY → Option oP
  | 0, _ => none
  | k + 1, x => k8 N (bS N k) x
theorem jr (N : Nat) (k : Nat) : ar Tryz.prog Tryz.f21 [0] 262138 (iv.cut (bS N k)) :=
  iv.loopT ai aA (jw N) Tryz.f21 [0] (cuts := [(506, kN.cut (dE N N)), (8188, jY.cut (dQ N N))]) ⟨iC N N, jc N N, trivial⟩ (by decide +kernel) (by kernel_rfl) (k8 N) (bS N) (fun _ => rfl) (fun _ _ => rfl) (fun f x => by kernel_rfl) k
@[reducible] def kM : LD := ⟨524282, [129, 128, 127, 14, 0], [(.ret, [6]), (.exit 6, [])], ⟨[.int .i64, .int .i64, .sl 1, .sl 2, .adr 0 []], [.var (.agg [.sl 3, .int .i64, .int .i64]), .row y0 96, .row y2 105, .row (.int .u8) 5]⟩, [(.exit 6, ⟨[], [.var (.agg [.sl 1, .int .i64, .int .i64]), .row (.int .u8) 5]⟩)]⟩
abbrev oX : Type := Int × Int × Int × Int × (List (Int × (Int × (Int × Unit)))) × (List (Int × (Int × Unit))) × (List Int)
abbrev oO : Type := Int × Int × (List Int)
noncomputable def k7 (N : Nat) (f : oX → Option oO) : oX → Option oO
  | (x0, x1, x2, x3, x4, x5, x6) =>
  ac (decide (x0 < x1)) (
  ac (within x0 (List.length x4)) (
  Option.bind (x4[Int.toNat x0]?) fun y0 =>
  ac (within y0.1 (List.length x5)) (
  Option.bind (x5[Int.toNat y0.1]?) fun y1 =>
  Option.bind (Vf N (y1.1, y1.2.1, x2, x3, x6)) fun y2 =>
  Option.bind (yk N (y0.2.1, y0.2.2.1, y2.1, y2.2.1, y2.2.2)) fun y3 =>
  Option.bind (f (IntKind.wrap .i64 (x0 + 1), x1, y3.1, y3.2.1, x4, x5, y3.2.2)) fun r => some r) (
  none)) (
  none)) (
  some ((x2, x3, x6)))
noncomputable def cJ (N : Nat) : Nat → oX → Option oO
  | 0, _ => none
  | k + 1, x => k7 N (cJ N k) x
theorem oo (N : Nat) (k : Nat) : ar Tryz.prog Tryz.f21 [0] 524282 (kM.cut (cJ N k)) :=
  kM.loopT ai aA (jw N) Tryz.f21 [0] (cuts := [(506, kN.cut (dE N N)), (8188, jY.cut (dQ N N)), (262138, iv.cut (bS N N))]) ⟨iC N N, jc N N, jr N N, trivial⟩ (by decide +kernel) (by kernel_rfl) (k7 N) (cJ N) (fun _ => rfl) (fun _ _ => rfl) (fun f x => by kernel_rfl) k
@[reducible] def IN : LD := ⟨15, [1, 2, 0], [(.ret, [6]), (.normal, [6])], ⟨[.ro (.int .i64), .ro (.int .i64), .adr 0 []], [.var (.agg [.sl 1, .int .i64, .int .i64]), .row (.int .u8) 5]⟩, [(.ret, ⟨[.int .i64], [.var (.agg [.sl 1, .int .i64, .int .i64]), .row (.int .u8) 5]⟩)]⟩
noncomputable def sn (N : Nat) : ((List Int) × (List Int) × Int × Int × (List Int)) → Option (Int × Int × Int × (List Int))
  | (x0, x1, x2, x3, x4) =>
  Option.bind (Za N [x0, x1]) fun y0 =>
  Option.bind (F54 N y0) fun y1 =>
  Option.bind (dE N N ((0 : Int), (↑(List.length y1) : Int), x0, x1, x2, x3, y1, List.replicate (19 : Nat) (0 : Int), x4)) fun y2 =>
  Option.bind (Y9 N (y2.2.2.2.2.1, (7 : Int))) fun y3 =>
  Option.bind (V5 N y3.2) fun y4 =>
  Option.bind (F58 N ()) fun y5 =>
  Option.bind (dQ N N ((↑(List.length y5) : Int), y2.1, y2.2.1, y2.2.2.1, y2.2.2.2.1, y3.2, y2.2.2.2.2.2.1, y4.2, y5, y2.2.2.2.2.2.2)) fun y6 =>
  Option.bind (yk N ((5 : Int), IntKind.wrap .i64 ((↑(List.length y6.1) : Int) - (257 : Int)), y6.2.2.2.1, y6.2.2.2.2.1, y6.2.2.2.2.2.2.2.2.2)) fun y7 =>
  Option.bind (yk N ((5 : Int), IntKind.wrap .i64 ((↑(List.length y6.2.1) : Int) - (1 : Int)), y7.1, y7.2.1, y7.2.2)) fun y8 =>
  Option.bind (yk N ((4 : Int), IntKind.wrap .i64 (y6.2.2.1 - 4), y8.1, y8.2.1, y8.2.2)) fun y9 =>
  ac (decide ((0 : Int) ≤ y6.2.2.1 ∧ y6.2.2.1 ≤ (↑(List.length y6.2.2.2.2.2.1) : Int))) (
  Option.bind (bS N N ((0 : Int), (↑(Int.toNat y6.2.2.1 - 0) : Int), Int.toNat y6.2.2.1 - 0, y9.1, y9.2.1, y6.2.2.2.2.2.2.1, y6.2.2.2.2.2.2.2.1, y6.2.2.2.2.2.1, y6.2.2.2.2.2.2.2.2.1, y9.2.2)) fun y10 =>
  Option.bind (cJ N N ((0 : Int), (↑(List.length y10.2.2.1) : Int), y10.1, y10.2.1, y10.2.2.1, y10.2.2.2.1, y10.2.2.2.2)) fun y11 =>
  some (((0 : Int), y11.1, y11.2.1, y11.2.2))) (
  none)
theorem NS (N : Nat) (k : Nat) : ar Tryz.prog Tryz.f21 [0] 15 (IN.cut (sn N)) :=
  IN.pieceT ai aA (jw N) Tryz.f21 [0] (cuts := [(506, kN.cut (dE N N)), (8188, jY.cut (dQ N N)), (262138, iv.cut (bS N N)), (524282, kM.cut (cJ N N))]) ⟨iC N N, jc N N, jr N N, oo N N, trivial⟩ (by decide +kernel) (by kernel_rfl) (sn N) (fun x => by kernel_rfl)
@[reducible] def w21 : List SP := [⟨[.int .i64], [.var (.agg [.sl 1, .int .i64, .int .i64]), .row (.int .u8) 5]⟩]
noncomputable def F21 (N : Nat) : ((List Int) × (List Int) × Int × Int × (List Int)) → Option (Int × Int × Int × (List Int))
  | (x0, x1, x2, x3, x4) =>
  ac (decide ((↑(List.length x0) : Int) < (257 : Int))) (
  some (((1 : Int), x2, x3, x4))) (
  ac (decide ((↑(List.length x0) : Int) > (286 : Int))) (
  some (((1 : Int), x2, x3, x4))) (
  ac (decide ((↑(List.length x1) : Int) < (1 : Int))) (
  some (((1 : Int), x2, x3, x4))) (
  ac (decide ((↑(List.length x1) : Int) > (30 : Int))) (
  some (((1 : Int), x2, x3, x4))) (
  Option.bind (MP N x0) fun y0 =>
  ac (y0) (
  some (((1 : Int), x2, x3, x4))) (
  Option.bind (MP N x1) fun y1 =>
  ac (y1) (
  some (((1 : Int), x2, x3, x4))) (
  Option.bind (sn N (x0, x1, x2, x3, x4)) fun y2 =>
  some ((y2.1, y2.2.1, y2.2.2.1, y2.2.2.2))))))))
noncomputable def T21 (N : Nat) : Pk → Tr Pk := ak s21 w21 (F21 N)
theorem Yi (N : Nat) : aO Tryz.prog 21 (T21 N) :=
  (ah ai aA (jw N) Tryz.func21 s21 w21 [0] (cuts := [(506, kN.cut (dE N N)), (8188, jY.cut (dQ N N)), (262138, iv.cut (bS N N)), (524282, kM.cut (cJ N N)), (15, IN.cut (sn N))]) ⟨iC N N, jc N N, jr N N, oo N N, NS N N, trivial⟩ (fun _ => by kernel_rfl) (by kernel_rfl) (F21 N) (fun x => by kernel_rfl))
@[reducible] def s26 : SP := ⟨[.adr 0 [], .ro y0, .bool, .bool], [.var (.agg [.sl 1, .int .i64, .int .i64]), .row (.int .u8) 5]⟩
noncomputable def ab6 (N : Nat) : av := [(27, T27 N), (46, T46 N), (64, T64 N), (65, T65 N), (66, T66 N), (68, T68 N), (67, T67 N), (21, T21 N)]
theorem Ew (N : Nat) : aj Tryz.prog (ab6 N) := ⟨BH N, Ro N, Q9 N, XX N, Q8 N, XV N, XW N, Yi N, trivial⟩
@[reducible] def IL : LD := ⟨26, [19, 1, 0, 3, 2, 18, 20], [(.ret, [8]), (.exit 0, [2, 3, 0, 1])], ⟨[.int .i64, .ro y0, .adr 0 [], .bool, .bool, .ro y0, .int .i64], [.var (.agg [.sl 1, .int .i64, .int .i64]), .row (.int .u8) 5]⟩, [(.ret, ⟨[.int .i64], [.var (.agg [.sl 1, .int .i64, .int .i64]), .row (.int .u8) 5]⟩), (.exit 0, ⟨[.bool, .bool, .adr 0 [], .ro y0], [.var (.agg [.sl 1, .int .i64, .int .i64]), .row (.int .u8) 5]⟩)]⟩
abbrev Iu : Type := Int × (List (Int × (Int × (Int × Unit)))) × Bool × Bool × (List (Int × (Int × (Int × Unit)))) × Int × Int × Int × (List Int)
abbrev H9 : Type := ((Int × Int × Int × (List Int)) ⊕ (Bool × Bool × (List (Int × (Int × (Int × Unit)))) × Int × Int × (List Int)))
noncomputable def D1 (N : Nat) (f : Iu → Option H9) : Iu → Option H9
  | (x0, x1, x2, x3, x4, x5, x6, x7, x8) =>
  ac (decide (x5 < x0)) (
  ac (within x5 (List.length x4)) (
  Option.bind (x4[Int.toNat x5]?) fun y0 =>
  Option.bind (V8 N (y0.1, y0.2.1, y0.2.2.1)) fun y1 =>
  ac (!y1) (
  some (.inl (((1 : Int), x6, x7, x8)))) (
  Option.bind (f (x0, x1, x2, x3, x4, IntKind.wrap .i64 (x5 + 1), x6, x7, x8)) fun r => match r with | .inl y => some (.inl y) | .inr y => some (.inr y))) (
  none)) (
  some (.inr ((x3, x2, x1, x6, x7, x8))))
noncomputable def kT (N : Nat) : Nat → Iu → Option H9
  | 0, _ => none
  | k + 1, x => D1 N (kT N k) x
theorem NQ (N : Nat) (k : Nat) : ar Tryz.prog Tryz.f26 [0] 26 (IL.cut (kT N k)) :=
  IL.loopT ai aA (Ew N) Tryz.f26 [0] (cuts := []) trivial (by decide +kernel) (by kernel_rfl) (D1 N) (kT N) (fun _ => rfl) (fun _ _ => rfl) (fun f x => by kernel_rfl) k
@[reducible] def w26 : List SP := [⟨[.int .i64], [.var (.agg [.sl 1, .int .i64, .int .i64]), .row (.int .u8) 5]⟩]
noncomputable def V9 (N : Nat) : ((List (Int × (Int × (Int × Unit)))) × Bool × Bool × Int × Int × (List Int)) → Option (Int × Int × Int × (List Int))
  | (x0, x1, x2, x3, x4, x5) =>
  Option.bind (kT N N ((↑(List.length x0) : Int), x0, x2, x1, x0, (0 : Int), x3, x4, x5)) fun y0 =>
  match y0 with
  | .inl y1 =>
  some ((y1.1, y1.2.1, y1.2.2.1, y1.2.2.2))
  | .inr y1 =>
  ac (!y1.1) (
  Option.bind (RX N (y1.2.1, (1 : Int), y1.2.2.2.1, y1.2.2.2.2.1, y1.2.2.2.2.2)) fun y2 =>
  Option.bind (F64 N ()) fun y3 =>
  Option.bind (Y8 N (y3.1, y3.2, y1.2.2.1, y2.1, y2.2.1, y2.2.2)) fun y4 =>
  some ((y4.1, y4.2.1, y4.2.2.1, y4.2.2.2))) (
  Option.bind (Ve N y1.2.2.1) fun y5 =>
  Option.bind (V1 N y5.1) fun y6 =>
  Option.bind (V2 N (y6, (257 : Int))) fun y7 =>
  Option.bind (V1 N y5.2) fun y8 =>
  Option.bind (V2 N (y8, (1 : Int))) fun y9 =>
  Option.bind (RX N (y1.2.1, (2 : Int), y1.2.2.2.1, y1.2.2.2.2.1, y1.2.2.2.2.2)) fun y10 =>
  Option.bind (F21 N (y7, y9, y10.1, y10.2.1, y10.2.2)) fun y11 =>
  ac (y11.1 != 0) (
  some ((y11.1, y11.2.1, y11.2.2.1, y11.2.2.2))) (
  Option.bind (Y8 N (y7, y9, y1.2.2.1, y11.2.1, y11.2.2.1, y11.2.2.2)) fun y12 =>
  some ((y12.1, y12.2.1, y12.2.2.1, y12.2.2.2))))
noncomputable def T26 (N : Nat) : Pk → Tr Pk := ak s26 w26 (V9 N)
theorem Yf (N : Nat) : aO Tryz.prog 26 (T26 N) :=
  (ah ai aA (Ew N) Tryz.func26 s26 w26 [0] (cuts := [(26, IL.cut (kT N N))]) ⟨NQ N N, trivial⟩ (fun _ => by kernel_rfl) (by kernel_rfl) (V9 N) (fun x => by kernel_rfl))
noncomputable def GX (N : Nat) : av := [(26, T26 N)]
theorem K3 (N : Nat) : aj Tryz.prog (GX N) := ⟨Yf N, trivial⟩
noncomputable def Yo (N : Nat) : Pk → Tr Pk := Hq (yB Tryz.prog ai (GX N) []) Tryz.f160
theorem Kh (N : Nat) : aO Tryz.prog 160 (Yo N) :=
  vC (E := yB Tryz.prog ai (GX N) []) (kA aA (K3 N)) Tryz.func160 (show Tryz.f160.body = some (ta Tryz.f160) by kernel_rfl) (by decide +kernel) (fun _ => dA trivial)
noncomputable def GY (N : Nat) : av := [(18, T18 N), (160, Yo N)]
theorem Lk (N : Nat) : aj Tryz.prog (GY N) := ⟨Yk N, Kh N, trivial⟩
noncomputable def aj6 (N : Nat) : Pk → Tr Pk := Hq (yB Tryz.prog ai (GY N) []) Tryz.f138
theorem UC (N : Nat) : aO Tryz.prog 138 (aj6 N) :=
  vC (E := yB Tryz.prog ai (GY N) []) (kA aA (Lk N)) Tryz.func138 (show Tryz.f138.body = some (ta Tryz.f138) by kernel_rfl) (by decide +kernel) (fun _ => dA trivial)
noncomputable def GZ (N : Nat) : av := []
theorem Ll (N : Nat) : aj Tryz.prog (GZ N) := trivial
noncomputable def aj7 (N : Nat) : Pk → Tr Pk := Hq (yB Tryz.prog ai (GZ N) []) Tryz.f137
theorem UD (N : Nat) : aO Tryz.prog 137 (aj7 N) :=
  vC (E := yB Tryz.prog ai (GZ N) []) (kA aA (Ll N)) Tryz.func137 (show Tryz.f137.body = some (ta Tryz.f137) by kernel_rfl) (by decide +kernel) (fun _ => dA trivial)
noncomputable def G0 (N : Nat) : av := [(15, T15 N)]
theorem Lm (N : Nat) : aj Tryz.prog (G0 N) := ⟨Rt N, trivial⟩
noncomputable def aj8 (N : Nat) : Pk → Tr Pk := Hq (yB Tryz.prog ai (G0 N) []) Tryz.f136
theorem UE (N : Nat) : aO Tryz.prog 136 (aj8 N) :=
  vC (E := yB Tryz.prog ai (G0 N) []) (kA aA (Lm N)) Tryz.func136 (show Tryz.f136.body = some (ta Tryz.f136) by kernel_rfl) (by decide +kernel) (fun _ => dA trivial)
@[reducible] def s111 : SP := ⟨[.adr 0 [], .ro y0, .str, .bool], [.var (.agg [.sl 1, .int .i64, .int .i64]), .row (.int .u8) 5]⟩
noncomputable def W2 (N : Nat) : av := [(138, aj6 N), (137, aj7 N), (136, aj8 N), (160, Yo N)]
theorem LA (N : Nat) : aj Tryz.prog (W2 N) := ⟨UC N, UD N, UE N, Kh N, trivial⟩
@[reducible] def w111 : List SP := [⟨[.tup []], [.var (.agg [.sl 1, .int .i64, .int .i64]), .row (.int .u8) 5]⟩]
noncomputable def tw (N : Nat) : ((List (Int × (Int × (Int × Unit)))) × ByteArray × Bool × Int × Int × (List Int)) → Option (Int × Int × (List Int))
  | (x0, x1, x2, x3, x4, x5) =>
  Option.bind (V9 N (x0, false, x2, (0 : Int), (0 : Int), [])) fun y0 =>
  Option.bind (Zh N (y0.2.2.2, y0.2.1, y0.2.2.1, ())) fun y1 =>
  Option.bind (V9 N (x0, true, x2, (0 : Int), (0 : Int), [])) fun y2 =>
  Option.bind (Zh N (y2.2.2.2, y2.2.1, y2.2.2.1, ())) fun y3 =>
  ac (decide (y3 < y1)) (
  ac (decide (y3 < IntKind.wrap .i64 (IntKind.wrap .i64 ((8 : Int) * (↑(ByteArray.size x1) : Int)) + IntKind.wrap .i64 ((40 : Int) * IntKind.wrap .i64 ((1 : Int) + IntKind.wrap .i64 (Int.tdiv (↑(ByteArray.size x1) : Int) (65535 : Int))))))) (
  Option.bind (V9 N (x0, true, x2, x3, x4, x5)) fun y4 =>
  some ((y4.2.1, y4.2.2.1, y4.2.2.2))) (
  Option.bind (Wa N (x1, x2, x3, x4, x5)) fun y5 =>
  some ((y5.1, y5.2.1, y5.2.2)))) (
  ac (decide (y1 < IntKind.wrap .i64 (IntKind.wrap .i64 ((8 : Int) * (↑(ByteArray.size x1) : Int)) + IntKind.wrap .i64 ((40 : Int) * IntKind.wrap .i64 ((1 : Int) + IntKind.wrap .i64 (Int.tdiv (↑(ByteArray.size x1) : Int) (65535 : Int))))))) (
  Option.bind (V9 N (x0, false, x2, x3, x4, x5)) fun y6 =>
  some ((y6.2.1, y6.2.2.1, y6.2.2.2))) (
  Option.bind (Wa N (x1, x2, x3, x4, x5)) fun y7 =>
  some ((y7.1, y7.2.1, y7.2.2))))
noncomputable def al4 (N : Nat) : Pk → Tr Pk := ak s111 w111 (tw N)
theorem UU (N : Nat) : aO Tryz.prog 111 (al4 N) :=
  (ah ai aA (LA N) Tryz.func111 s111 w111 [0] (cuts := []) trivial (fun _ => by kernel_rfl) (by kernel_rfl) (tw N) (fun x => by kernel_rfl))
end Go.Proofs.YteddgkplkjldcaaGreat.Am
