/- The seat's Go functions come to the Lean functions written here, wherever these give an answer (part A). -/
import Derived.Test.YteddgkplkjldcaaGreatAmC
import Derived.KernelRfl
import Derived.Test.YteddgkplkjldcaaGreatProg
set_option linter.unusedSimpArgs false
set_option linter.unusedVariables false
set_option maxRecDepth 100000
namespace Go.Proofs.YteddgkplkjldcaaGreat.Am
open Go.Am
theorem aB : Tryz.prog.follows .mixedOrders = true := by kernel_rfl
def ah : FuncId → List Nat := V2 [(16, [1, 0, 0]), (18, [2]), (19, [2]), (43, [2]), (49, [1]), (79, [2]), (86, [2]), (89, [2, 0, 0]), (92, [3, 0]), (101, [1, 0, 0]), (113, [2]), (121, [2]), (124, [1]), (125, [4, 0]), (133, [2]), (136, [0, 5, 5]), (137, [1, 1]), (140, [2]), (144, [4]), (153, [3, 0]), (154, [4, 0, 0]), (160, [0, 5, 5, 5]), (161, [2]), (162, [2]), (168, [4, 0, 0, 0]), (169, [4, 0, 0, 0, 0]), (173, [4, 0, 0, 0, 0]), (174, [4, 0, 0, 0, 0])]
@[reducible] def s44 : SP := ⟨[.int .i64], []⟩
noncomputable def VC (N : Nat) : au := []
theorem Lc (N : Nat) : ai Tryz.prog (VC N) := trivial
@[reducible] def w44 : List SP := [⟨[.int .i64], []⟩]
noncomputable def UT (N : Nat) : (Int) → Option (Int)
  | x0 =>
  some (if (32 : Int) < if (0 : Int) > x0 then (0 : Int) else x0 then (32 : Int) else if (0 : Int) > x0 then (0 : Int) else x0)
noncomputable def XG (N : Nat) : Pk → Tr Pk := aj s44 w44 (UT N)
theorem E4 (N : Nat) : aO Tryz.prog 44 (XG N) :=
  (ag ah aB (Lc N) Tryz.func44 s44 w44 [] (cuts := []) trivial (fun _ => by kernel_rfl) (by kernel_rfl) (UT N) (fun x => by kernel_rfl))
@[reducible] def s45 : SP := ⟨[.int .i64, .int .i64], []⟩
noncomputable def VB (N : Nat) : au := []
theorem Lb (N : Nat) : ai Tryz.prog (VB N) := trivial
@[reducible] def w45 : List SP := [⟨[.int .i64], []⟩]
noncomputable def Xv (N : Nat) : (Int × Int) → Option (Int)
  | (x0, x1) =>
  ac (decide (x0 < 0)) (
  none) (
  some (IntKind.wrap .i64 (↑(BitVec.toNat (BitVec.ofInt (64 : Nat) x1 &&& BitVec.ofInt (64 : Nat) (IntKind.wrap .i64 (IntKind.wrap .i64 ((1 : Int) * (2 : Int) ^ min (Int.toNat x0) (64 : Nat)) - 1)))) : Int)))
noncomputable def Yl (N : Nat) : Pk → Tr Pk := aj s45 w45 (Xv N)
theorem ND (N : Nat) : aO Tryz.prog 45 (Yl N) :=
  (ag ah aB (Lb N) Tryz.func45 s45 w45 [] (cuts := []) trivial (fun _ => by kernel_rfl) (by kernel_rfl) (Xv N) (fun x => by kernel_rfl))
@[reducible] def s14 : SP := ⟨[.adr 0 [], .int .i64, .int .i64], [.var (.agg [.sl 1, .int .i64, .int .i64]), .row (.int .u8) 5]⟩
noncomputable def VS (N : Nat) : au := [(44, XG N), (45, Yl N)]
theorem BL (N : Nat) : ai Tryz.prog (VS N) := ⟨E4 N, ND N, trivial⟩
@[reducible] def FO : LD := ⟨30, [0], [(.ret, []), (.exit 0, [])], ⟨[.adr 0 []], [.var (.agg [.sl 1, .int .i64, .int .i64]), .row (.int .u8) 5]⟩, [(.exit 0, ⟨[], [.var (.agg [.sl 1, .int .i64, .int .i64]), .row (.int .u8) 5]⟩)]⟩
abbrev FC : Type := Int × Int × (List Int)
abbrev Fj : Type := Int × Int × (List Int)
noncomputable def GG (N : Nat) (f : FC → Option Fj) : FC → Option Fj
  | (x0, x1, x2) =>
  ac (decide (x1 ≥ 8)) (
  ac (decide ((List.length x2 + List.length [IntKind.wrap .u8 x0]) * 1 ≤ (140737488355328 : Nat) ∧ List.length x2 + List.length [IntKind.wrap .u8 x0] ≤ 140737488355328)) (
  Option.bind (f (Int.fdiv x0 (256 : Int), IntKind.wrap .i64 (x1 - 8), x2 ++ [IntKind.wrap .u8 x0])) fun r => some r) (
  none)) (
  some ((x0, x1, x2)))
noncomputable def nL (N : Nat) : Nat → FC → Option Fj
  | 0, _ => none
  | k + 1, x => GG N (nL N k) x
theorem Km (N : Nat) (k : Nat) : ap Tryz.prog Tryz.f14 [0] 30 (FO.cut (nL N k)) :=
  FO.loopT ah aB (BL N) Tryz.f14 [0] (cuts := []) trivial (by decide +kernel) (by kernel_rfl) (GG N) (nL N) (fun _ => rfl) (fun _ _ => rfl) (fun f x => by kernel_rfl) k
@[reducible] def w14 : List SP := [⟨[.tup []], [.var (.agg [.sl 1, .int .i64, .int .i64]), .row (.int .u8) 5]⟩]
noncomputable def vU (N : Nat) : (Int × Int × Int × Int × (List Int)) → Option (Int × Int × (List Int))
  | (x0, x1, x2, x3, x4) =>
  Option.bind (UT N x0) fun y0 =>
  Option.bind (Xv N (y0, x1)) fun y1 =>
  ac (decide (x3 < 0)) (
  none) (
  Option.bind (nL N N (IntKind.wrap .i64 (↑(BitVec.toNat (BitVec.ofInt (64 : Nat) x2 ||| BitVec.ofInt (64 : Nat) (IntKind.wrap .i64 (y1 * 2 ^ min (Int.toNat x3) (64 : Nat))))) : Int), IntKind.wrap .i64 (x3 + y0), x4)) fun y2 =>
  some ((y2.1, y2.2.1, y2.2.2)))
noncomputable def Ue (N : Nat) : Pk → Tr Pk := aj s14 w14 (vU N)
theorem qi (N : Nat) : aO Tryz.prog 14 (Ue N) :=
  (ag ah aB (BL N) Tryz.func14 s14 w14 [0] (cuts := [(30, FO.cut (nL N N))]) ⟨Km N N, trivial⟩ (fun _ => by kernel_rfl) (by kernel_rfl) (vU N) (fun x => by kernel_rfl))
@[reducible] def s46 : SP := ⟨[.adr 0 [], .bool, .int .i64], [.var (.agg [.sl 1, .int .i64, .int .i64]), .row (.int .u8) 5]⟩
noncomputable def VA (N : Nat) : au := [(14, Ue N)]
theorem La (N : Nat) : ai Tryz.prog (VA N) := ⟨qi N, trivial⟩
@[reducible] def w46 : List SP := [⟨[.tup []], [.var (.agg [.sl 1, .int .i64, .int .i64]), .row (.int .u8) 5]⟩]
noncomputable def N1 (N : Nat) : (Bool × Int × Int × Int × (List Int)) → Option (Int × Int × (List Int))
  | (x0, x1, x2, x3, x4) =>
  ac (x0) (
  Option.bind (vU N ((1 : Int), (1 : Int), x2, x3, x4)) fun y0 =>
  Option.bind (vU N ((2 : Int), x1, y0.1, y0.2.1, y0.2.2)) fun y1 =>
  some ((y1.1, y1.2.1, y1.2.2))) (
  Option.bind (vU N ((1 : Int), (0 : Int), x2, x3, x4)) fun y2 =>
  Option.bind (vU N ((2 : Int), x1, y2.1, y2.2.1, y2.2.2)) fun y3 =>
  some ((y3.1, y3.2.1, y3.2.2)))
noncomputable def Yk (N : Nat) : Pk → Tr Pk := aj s46 w46 (N1 N)
theorem NC (N : Nat) : aO Tryz.prog 46 (Yk N) :=
  (ag ah aB (La N) Tryz.func46 s46 w46 [0] (cuts := []) trivial (fun _ => by kernel_rfl) (by kernel_rfl) (N1 N) (fun x => by kernel_rfl))
@[reducible] def s47 : SP := ⟨[.adr 0 []], [.var (.agg [.sl 1, .int .i64, .int .i64]), .row (.int .u8) 5]⟩
noncomputable def Vz (N : Nat) : au := [(14, Ue N)]
theorem K9 (N : Nat) : ai Tryz.prog (Vz N) := ⟨qi N, trivial⟩
@[reducible] def w47 : List SP := [⟨[.tup []], [.var (.agg [.sl 1, .int .i64, .int .i64]), .row (.int .u8) 5]⟩]
noncomputable def RH (N : Nat) : (Int × Int × (List Int)) → Option (Int × Int × (List Int))
  | (x0, x1, x2) =>
  Option.bind (vU N (Int.tmod (IntKind.wrap .i64 ((8 : Int) - x1)) (8 : Int), (0 : Int), x0, x1, x2)) fun y0 =>
  some ((y0.1, y0.2.1, y0.2.2))
noncomputable def Yj (N : Nat) : Pk → Tr Pk := aj s47 w47 (RH N)
theorem NB (N : Nat) : aO Tryz.prog 47 (Yj N) :=
  (ag ah aB (K9 N) Tryz.func47 s47 w47 [0] (cuts := []) trivial (fun _ => by kernel_rfl) (by kernel_rfl) (RH N) (fun x => by kernel_rfl))
@[reducible] def s48 : SP := ⟨[.adr 0 [], .str], [.var (.agg [.sl 1, .int .i64, .int .i64]), .row (.int .u8) 5]⟩
noncomputable def Vy (N : Nat) : au := [(47, Yj N)]
theorem K8 (N : Nat) : ai Tryz.prog (Vy N) := ⟨NB N, trivial⟩
@[reducible] def w48 : List SP := [⟨[.tup []], [.var (.agg [.sl 1, .int .i64, .int .i64]), .row (.int .u8) 5]⟩]
noncomputable def Uq (N : Nat) : (ByteArray × Int × Int × (List Int)) → Option (Int × Int × (List Int))
  | (x0, x1, x2, x3) =>
  Option.bind (RH N (x1, x2, x3)) fun y0 =>
  ac (decide ((List.length y0.2.2 + List.length (bytesOf x0)) * 1 ≤ (140737488355328 : Nat) ∧ List.length y0.2.2 + List.length (bytesOf x0) ≤ 140737488355328)) (
  some ((y0.1, y0.2.1, y0.2.2 ++ bytesOf x0))) (
  none)
noncomputable def YQ (N : Nat) : Pk → Tr Pk := aj s48 w48 (Uq N)
theorem TN (N : Nat) : aO Tryz.prog 48 (YQ N) :=
  (ag ah aB (K8 N) Tryz.func48 s48 w48 [0] (cuts := []) trivial (fun _ => by kernel_rfl) (by kernel_rfl) (Uq N) (fun x => by kernel_rfl))
@[reducible] def s15 : SP := ⟨[.adr 0 [], .str, .bool], [.var (.agg [.sl 1, .int .i64, .int .i64]), .row (.int .u8) 5]⟩
noncomputable def VR (N : Nat) : au := [(46, Yk N), (47, Yj N), (14, Ue N), (48, YQ N)]
theorem BK (N : Nat) : ai Tryz.prog (VR N) := ⟨NC N, NB N, qi N, TN N, trivial⟩
@[reducible] def NM : LD := ⟨2, [1, 2, 0], [(.ret, []), (.exit 0, [])], ⟨[.str, .bool, .adr 0 []], [.var (.agg [.sl 1, .int .i64, .int .i64]), .row (.int .u8) 5]⟩, [(.ret, ⟨[], [.var (.agg [.sl 1, .int .i64, .int .i64]), .row (.int .u8) 5]⟩)]⟩
abbrev NL : Type := ByteArray × Bool × Int × Int × (List Int)
abbrev NK : Type := Int × Int × (List Int)
noncomputable def HI (N : Nat) (f : NL → Option NK) : NL → Option NK
  | (x0, x1, x2, x3, x4) =>
  ac (x1) (
  Option.bind (N1 N ((if (65535 : Int) < (↑(ByteArray.size x0) : Int) then (65535 : Int) else (↑(ByteArray.size x0) : Int)) == (↑(ByteArray.size x0) : Int), (0 : Int), x2, x3, x4)) fun y0 =>
  Option.bind (RH N (y0.1, y0.2.1, y0.2.2)) fun y1 =>
  Option.bind (vU N ((16 : Int), if (65535 : Int) < (↑(ByteArray.size x0) : Int) then (65535 : Int) else (↑(ByteArray.size x0) : Int), y1.1, y1.2.1, y1.2.2)) fun y2 =>
  Option.bind (vU N ((16 : Int), IntKind.wrap .i64 (↑(BitVec.toNat (BitVec.ofInt (64 : Nat) (if (65535 : Int) < (↑(ByteArray.size x0) : Int) then (65535 : Int) else (↑(ByteArray.size x0) : Int)) ^^^ BitVec.ofInt (64 : Nat) (65535 : Int))) : Int), y2.1, y2.2.1, y2.2.2)) fun y3 =>
  ac (decide (((0 : Int) ≤ if (65535 : Int) < (↑(ByteArray.size x0) : Int) then (65535 : Int) else (↑(ByteArray.size x0) : Int)) ∧ (if (65535 : Int) < (↑(ByteArray.size x0) : Int) then (65535 : Int) else (↑(ByteArray.size x0) : Int)) ≤ (↑(ByteArray.size x0) : Int))) (
  Option.bind (Uq N (ByteArray.extract x0 (0 : Nat) (Int.toNat (if (65535 : Int) < (↑(ByteArray.size x0) : Int) then (65535 : Int) else (↑(ByteArray.size x0) : Int))), y3.1, y3.2.1, y3.2.2)) fun y4 =>
  ac (decide (((0 : Int) ≤ if (65535 : Int) < (↑(ByteArray.size x0) : Int) then (65535 : Int) else (↑(ByteArray.size x0) : Int)) ∧ (if (65535 : Int) < (↑(ByteArray.size x0) : Int) then (65535 : Int) else (↑(ByteArray.size x0) : Int)) ≤ (↑(ByteArray.size x0) : Int))) (
  ac (ByteArray.toList (ByteArray.extract x0 (Int.toNat (if (65535 : Int) < (↑(ByteArray.size x0) : Int) then (65535 : Int) else (↑(ByteArray.size x0) : Int))) (ByteArray.size x0)) == []) (
  some ((y4.1, y4.2.1, y4.2.2))) (
  Option.bind (f (ByteArray.extract x0 (Int.toNat (if (65535 : Int) < (↑(ByteArray.size x0) : Int) then (65535 : Int) else (↑(ByteArray.size x0) : Int))) (ByteArray.size x0), x1, y4.1, y4.2.1, y4.2.2)) fun r => some r)) (
  none)) (
  none)) (
  Option.bind (N1 N (false, (0 : Int), x2, x3, x4)) fun y5 =>
  Option.bind (RH N (y5.1, y5.2.1, y5.2.2)) fun y6 =>
  Option.bind (vU N ((16 : Int), if (65535 : Int) < (↑(ByteArray.size x0) : Int) then (65535 : Int) else (↑(ByteArray.size x0) : Int), y6.1, y6.2.1, y6.2.2)) fun y7 =>
  Option.bind (vU N ((16 : Int), IntKind.wrap .i64 (↑(BitVec.toNat (BitVec.ofInt (64 : Nat) (if (65535 : Int) < (↑(ByteArray.size x0) : Int) then (65535 : Int) else (↑(ByteArray.size x0) : Int)) ^^^ BitVec.ofInt (64 : Nat) (65535 : Int))) : Int), y7.1, y7.2.1, y7.2.2)) fun y8 =>
  ac (decide (((0 : Int) ≤ if (65535 : Int) < (↑(ByteArray.size x0) : Int) then (65535 : Int) else (↑(ByteArray.size x0) : Int)) ∧ (if (65535 : Int) < (↑(ByteArray.size x0) : Int) then (65535 : Int) else (↑(ByteArray.size x0) : Int)) ≤ (↑(ByteArray.size x0) : Int))) (
  Option.bind (Uq N (ByteArray.extract x0 (0 : Nat) (Int.toNat (if (65535 : Int) < (↑(ByteArray.size x0) : Int) then (65535 : Int) else (↑(ByteArray.size x0) : Int))), y8.1, y8.2.1, y8.2.2)) fun y9 =>
  ac (decide (((0 : Int) ≤ if (65535 : Int) < (↑(ByteArray.size x0) : Int) then (65535 : Int) else (↑(ByteArray.size x0) : Int)) ∧ (if (65535 : Int) < (↑(ByteArray.size x0) : Int) then (65535 : Int) else (↑(ByteArray.size x0) : Int)) ≤ (↑(ByteArray.size x0) : Int))) (
  ac (ByteArray.toList (ByteArray.extract x0 (Int.toNat (if (65535 : Int) < (↑(ByteArray.size x0) : Int) then (65535 : Int) else (↑(ByteArray.size x0) : Int))) (ByteArray.size x0)) == []) (
  some ((y9.1, y9.2.1, y9.2.2))) (
  Option.bind (f (ByteArray.extract x0 (Int.toNat (if (65535 : Int) < (↑(ByteArray.size x0) : Int) then (65535 : Int) else (↑(ByteArray.size x0) : Int))) (ByteArray.size x0), x1, y9.1, y9.2.1, y9.2.2)) fun r => some r)) (
  none)) (
  none))
noncomputable def vR (N : Nat) : Nat → NL → Option NK
  | 0, _ => none
  | k + 1, x => HI N (vR N k) x
theorem OC (N : Nat) (k : Nat) : ap Tryz.prog Tryz.f15 [0] 2 (NM.cut (vR N k)) :=
  NM.loopT ah aB (BK N) Tryz.f15 [0] (cuts := []) trivial (by decide +kernel) (by kernel_rfl) (HI N) (vR N) (fun _ => rfl) (fun _ _ => rfl) (fun f x => by kernel_rfl) k
@[reducible] def w15 : List SP := [⟨[.tup []], [.var (.agg [.sl 1, .int .i64, .int .i64]), .row (.int .u8) 5]⟩]
noncomputable def RP (N : Nat) : (ByteArray × Bool × Int × Int × (List Int)) → Option (Int × Int × (List Int))
  | (x0, x1, x2, x3, x4) =>
  Option.bind (vR N N (x0, x1, x2, x3, x4)) fun y0 =>
  some ((y0.1, y0.2.1, y0.2.2))
noncomputable def Yq (N : Nat) : Pk → Tr Pk := aj s15 w15 (RP N)
theorem NJ (N : Nat) : aO Tryz.prog 15 (Yq N) :=
  (ag ah aB (BK N) Tryz.func15 s15 w15 [0] (cuts := [(2, NM.cut (vR N N))]) ⟨OC N N, trivial⟩ (fun _ => by kernel_rfl) (by kernel_rfl) (RP N) (fun x => by kernel_rfl))
@[reducible] def s88 : SP := ⟨[.str], []⟩
noncomputable def U9 (N : Nat) : au := []
theorem KS (N : Nat) : ai Tryz.prog (U9 N) := trivial
@[reducible] def w88 : List SP := [⟨[.str], []⟩]
noncomputable def NX (N : Nat) : (ByteArray) → Option (ByteArray)
  | x0 =>
  ac (decide (((0 : Int) ≤ if (0 : Int) > IntKind.wrap .i64 ((↑(ByteArray.size x0) : Int) - (32768 : Int)) then (0 : Int) else IntKind.wrap .i64 ((↑(ByteArray.size x0) : Int) - (32768 : Int))) ∧ (if (0 : Int) > IntKind.wrap .i64 ((↑(ByteArray.size x0) : Int) - (32768 : Int)) then (0 : Int) else IntKind.wrap .i64 ((↑(ByteArray.size x0) : Int) - (32768 : Int))) ≤ (↑(ByteArray.size x0) : Int))) (
  some (ByteArray.extract x0 (Int.toNat (if (0 : Int) > IntKind.wrap .i64 ((↑(ByteArray.size x0) : Int) - (32768 : Int)) then (0 : Int) else IntKind.wrap .i64 ((↑(ByteArray.size x0) : Int) - (32768 : Int)))) (ByteArray.size x0))) (
  none)
noncomputable def UJ (N : Nat) : Pk → Tr Pk := aj s88 w88 (NX N)
theorem uo (N : Nat) : aO Tryz.prog 88 (UJ N) :=
  (ag ah aB (KS N) Tryz.func88 s88 w88 [] (cuts := []) trivial (fun _ => by kernel_rfl) (by kernel_rfl) (NX N) (fun x => by kernel_rfl))
@[reducible] def s134 : SP := ⟨[.adr 0 [], .int .i64], [.var (.agg [.str, .mp 1, .sl 2]), .map (.str) (.int .i64), .row (.int .i64) 3]⟩
noncomputable def SA (N : Nat) : au := []
theorem Im (N : Nat) : ai Tryz.prog (SA N) := trivial
@[reducible] def w134 : List SP := [⟨[.tup []], [.var (.agg [.str, .mp 1, .sl 2]), .map (.str) (.int .i64), .row (.int .i64) 3]⟩]
noncomputable def JZ (N : Nat) : (Int × ByteArray × (List (ByteArray × Int)) × (List Int)) → Option (ByteArray × (List (ByteArray × Int)) × (List Int))
  | (x0, x1, x2, x3) =>
  ac (decide (IntKind.wrap .i64 (x0 + 3) ≤ (↑(ByteArray.size x1) : Int))) (
  ac (decide ((0 : Int) ≤ IntKind.wrap .i64 (x0 + 3) ∧ IntKind.wrap .i64 (x0 + 3) ≤ (↑(ByteArray.size x1) : Int))) (
  ac (decide ((0 : Int) ≤ x0 ∧ x0 ≤ (↑(Int.toNat (IntKind.wrap .i64 (x0 + 3))) : Int))) (
  ac (gx Ty.str (ByteArray.extract x1 (Int.toNat x0) (Int.toNat (IntKind.wrap .i64 (x0 + 3)))) x2) (
  ac (decide ((List.length x3 + List.length [fC Ty.str (ByteArray.extract x1 (Int.toNat x0) (Int.toNat (IntKind.wrap .i64 (x0 + 3)))) (0 : Int) x2]) * 8 ≤ (140737488355328 : Nat) ∧ List.length x3 + List.length [fC Ty.str (ByteArray.extract x1 (Int.toNat x0) (Int.toNat (IntKind.wrap .i64 (x0 + 3)))) (0 : Int) x2] ≤ 140737488355328)) (
  some ((x1, dB Ty.str (ByteArray.extract x1 (Int.toNat x0) (Int.toNat (IntKind.wrap .i64 (x0 + 3)))) x0 x2, x3 ++ [fC Ty.str (ByteArray.extract x1 (Int.toNat x0) (Int.toNat (IntKind.wrap .i64 (x0 + 3)))) (0 : Int) x2]))) (
  none)) (
  ac (decide ((List.length x3 + 1) * 8 ≤ (140737488355328 : Nat) ∧ List.length x3 + 1 ≤ (140737488355328 : Nat))) (
  some ((x1, dB Ty.str (ByteArray.extract x1 (Int.toNat x0) (Int.toNat (IntKind.wrap .i64 (x0 + 3)))) x0 x2, x3 ++ [(-1 : Int)]))) (
  none))) (
  none)) (
  none)) (
  ac (decide ((List.length x3 + 1) * 8 ≤ (140737488355328 : Nat) ∧ List.length x3 + 1 ≤ (140737488355328 : Nat))) (
  some ((x1, x2, x3 ++ [(-1 : Int)]))) (
  none))
noncomputable def W4 (N : Nat) : Pk → Tr Pk := aj s134 w134 (JZ N)
theorem Qo (N : Nat) : aO Tryz.prog 134 (W4 N) :=
  (ag ah aB (Im N) Tryz.func134 s134 w134 [0] (cuts := []) trivial (fun _ => by kernel_rfl) (by kernel_rfl) (JZ N) (fun x => by kernel_rfl))
@[reducible] def s159 : SP := ⟨[.adr 0 [], .int .i64, .int .i64], [.var (.agg [.str, .mp 1, .sl 2]), .map (.str) (.int .i64), .row (.int .i64) 3]⟩
noncomputable def Sd (N : Nat) : au := []
theorem xi (N : Nat) : ai Tryz.prog (Sd N) := trivial
@[reducible] def AW : LD := ⟨28, [7, 1, 0, 2], [(.ret, [6]), (.exit 0, [7])], ⟨[.int .i64, .int .i64, .adr 0 [], .int .i64], [.var (.agg [.str, .mp 1, .sl 2]), .map (.str) (.int .i64), .row (.int .i64) 3]⟩, [(.exit 0, ⟨[.int .i64], [.var (.agg [.str, .mp 1, .sl 2]), .map (.str) (.int .i64), .row (.int .i64) 3]⟩)]⟩
abbrev AA : Type := Int × Int × Int × ByteArray × (List (ByteArray × Int)) × (List Int)
abbrev Ac : Type := Int × ByteArray × (List (ByteArray × Int)) × (List Int)
noncomputable def Bl (N : Nat) (f : AA → Option Ac) : AA → Option Ac
  | (x0, x1, x2, x3, x4, x5) =>
  ac (decide (x0 < 258)) (
  ac (decide (IntKind.wrap .i64 (x2 + x0) < (↑(ByteArray.size x3) : Int))) (
  ac (decide ((0 : Int) ≤ IntKind.wrap .i64 (x1 + x0))) (
  Option.bind (x3[Int.toNat (IntKind.wrap .i64 (x1 + x0))]?) fun y0 =>
  ac (decide ((0 : Int) ≤ IntKind.wrap .i64 (x2 + x0))) (
  Option.bind (x3[Int.toNat (IntKind.wrap .i64 (x2 + x0))]?) fun y1 =>
  ac ((↑(UInt8.toNat y0) : Int) == (↑(UInt8.toNat y1) : Int)) (
  Option.bind (f (IntKind.wrap .i64 (x0 + 1), x1, x2, x3, x4, x5)) fun r => some r) (
  some ((x0, x3, x4, x5)))) (
  none)) (
  none)) (
  some ((x0, x3, x4, x5)))) (
  some ((x0, x3, x4, x5)))
noncomputable def jQ (N : Nat) : Nat → AA → Option Ac
  | 0, _ => none
  | k + 1, x => Bl N (jQ N k) x
theorem Gx (N : Nat) (k : Nat) : ap Tryz.prog Tryz.f159 [0] 28 (AW.cut (jQ N k)) :=
  AW.loopT ah aB (xi N) Tryz.f159 [0] (cuts := []) trivial (by decide +kernel) (by kernel_rfl) (Bl N) (jQ N) (fun _ => rfl) (fun _ _ => rfl) (fun f x => by kernel_rfl) k
@[reducible] def w159 : List SP := [⟨[.int .i64], [.var (.agg [.str, .mp 1, .sl 2]), .map (.str) (.int .i64), .row (.int .i64) 3]⟩]
noncomputable def Od (N : Nat) : (Int × Int × ByteArray × (List (ByteArray × Int)) × (List Int)) → Option (Int × ByteArray × (List (ByteArray × Int)) × (List Int))
  | (x0, x1, x2, x3, x4) =>
  Option.bind (jQ N N ((0 : Int), x0, x1, x2, x3, x4)) fun y0 =>
  some ((y0.1, y0.2.1, y0.2.2.1, y0.2.2.2))
noncomputable def WK (N : Nat) : Pk → Tr Pk := aj s159 w159 (Od N)
theorem PU (N : Nat) : aO Tryz.prog 159 (WK N) :=
  (ag ah aB (xi N) Tryz.func159 s159 w159 [0] (cuts := [(28, AW.cut (jQ N N))]) ⟨Gx N N, trivial⟩ (fun _ => by kernel_rfl) (by kernel_rfl) (Od N) (fun x => by kernel_rfl))
@[reducible] def s135 : SP := ⟨[.adr 0 [], .int .i64], [.var (.agg [.str, .mp 1, .sl 2]), .map (.str) (.int .i64), .row (.int .i64) 3]⟩
noncomputable def Sz (N : Nat) : au := [(159, WK N)]
theorem pF (N : Nat) : ai Tryz.prog (Sz N) := ⟨PU N, trivial⟩
@[reducible] def mj : LD := ⟨1001, [7, 9, 8, 4, 1, 6, 0], [(.ret, [4, 5]), (.exit 0, [6, 4]), (.normal, [7, 9, 8, 4, 1, 6, 0])], ⟨[.int .i64, .int .i64, .bool, .adr 1 [], .int .i64, .adr 2 [], .adr 0 []], [.var (.agg [.str, .mp 3, .sl 4]), .var (.agg [.int .i64, .int .i64, .int .i64]), .var (.agg [.int .i64, .int .i64, .int .i64]), .map (.str) (.int .i64), .row (.int .i64) 3]⟩, [(.normal, ⟨[.int .i64, .int .i64, .bool, .adr 1 [], .int .i64, .adr 2 [], .adr 0 []], [.var (.agg [.str, .mp 3, .sl 4]), .var (.agg [.int .i64, .int .i64, .int .i64]), .var (.agg [.int .i64, .int .i64, .int .i64]), .map (.str) (.int .i64), .row (.int .i64) 3]⟩)]⟩
noncomputable def gb (N : Nat) : (Int × Int × Bool × Int × ByteArray × Int × Int × Int × Int × Int × Int × (List (ByteArray × Int)) × (List Int)) → Option (Int × Int × Bool × Int × ByteArray × Int × Int × Int × Int × Int × Int × (List (ByteArray × Int)) × (List Int))
  | (x0, x1, x2, x3, x4, x5, x6, x7, x8, x9, x10, x11, x12) =>
  Option.bind (Od N (x0, x3, x4, x11, x12)) fun y0 =>
  ac (decide (y0.1 > x9)) (
  ac (within x0 (List.length y0.2.2.2)) (
  Option.bind (y0.2.2.2[Int.toNat x0]?) fun y1 =>
  some ((y1, IntKind.wrap .i64 (x1 + 1), x2, x3, y0.2.1, x5, x6, x7, (0 : Int), y0.1, IntKind.wrap .i64 (x3 - x0), y0.2.2.1, y0.2.2.2))) (
  none)) (
  ac (within x0 (List.length y0.2.2.2)) (
  Option.bind (y0.2.2.2[Int.toNat x0]?) fun y2 =>
  some ((y2, IntKind.wrap .i64 (x1 + 1), x2, x3, y0.2.1, x5, x6, x7, x8, x9, x10, y0.2.2.1, y0.2.2.2))) (
  none))
theorem pd (N : Nat) (k : Nat) : ap Tryz.prog Tryz.f135 [0] 1001 (mj.cut (gb N)) :=
  mj.pieceT ah aB (pF N) Tryz.f135 [0] (cuts := []) trivial (by decide +kernel) (by kernel_rfl) (gb N) (fun x => by kernel_rfl)
@[reducible] def vu : LD := ⟨250, [7, 9, 8, 4, 1, 6, 0], [(.ret, [4, 5]), (.exit 0, [6, 4])], ⟨[.int .i64, .int .i64, .bool, .adr 1 [], .int .i64, .adr 2 [], .adr 0 []], [.var (.agg [.str, .mp 3, .sl 4]), .var (.agg [.int .i64, .int .i64, .int .i64]), .var (.agg [.int .i64, .int .i64, .int .i64]), .map (.str) (.int .i64), .row (.int .i64) 3]⟩, [(.exit 0, ⟨[.adr 1 [], .adr 2 []], [.var (.agg [.str, .mp 3, .sl 4]), .var (.agg [.int .i64, .int .i64, .int .i64]), .var (.agg [.int .i64, .int .i64, .int .i64]), .map (.str) (.int .i64), .row (.int .i64) 3]⟩)]⟩
abbrev u4 : Type := Int × Int × Bool × Int × ByteArray × Int × Int × Int × Int × Int × Int × (List (ByteArray × Int)) × (List Int)
abbrev uG : Type := ByteArray × Int × Int × Int × Int × Int × Int × (List (ByteArray × Int)) × (List Int)
noncomputable def fx (N : Nat) (f : u4 → Option uG) : u4 → Option uG
  | (x0, x1, x2, x3, x4, x5, x6, x7, x8, x9, x10, x11, x12) =>
  ac (x2) (
  ac (decide (x1 < 64)) (
  ac (decide (x0 ≥ 0)) (
  ac (decide (IntKind.wrap .i64 (x3 - x0) ≤ 32768)) (
  Option.bind (gb N (x0, x1, x2, x3, x4, x5, x6, x7, x8, x9, x10, x11, x12)) fun y0 =>
  Option.bind (f (y0.1, y0.2.1, y0.2.2.1, y0.2.2.2.1, y0.2.2.2.2.1, y0.2.2.2.2.2.1, y0.2.2.2.2.2.2.1, y0.2.2.2.2.2.2.2.1, y0.2.2.2.2.2.2.2.2.1, y0.2.2.2.2.2.2.2.2.2.1, y0.2.2.2.2.2.2.2.2.2.2.1, y0.2.2.2.2.2.2.2.2.2.2.2.1, y0.2.2.2.2.2.2.2.2.2.2.2.2)) fun r => some r) (
  some ((x4, x8, x9, x10, x5, x6, x7, x11, x12)))) (
  some ((x4, x8, x9, x10, x5, x6, x7, x11, x12)))) (
  some ((x4, x8, x9, x10, x5, x6, x7, x11, x12)))) (
  some ((x4, x8, x9, x10, x5, x6, x7, x11, x12)))
noncomputable def bM (N : Nat) : Nat → u4 → Option uG
  | 0, _ => none
  | k + 1, x => fx N (bM N k) x
theorem DJ (N : Nat) (k : Nat) : ap Tryz.prog Tryz.f135 [0] 250 (vu.cut (bM N k)) :=
  vu.loopT ah aB (pF N) Tryz.f135 [0] (cuts := [(1001, mj.cut (gb N))]) ⟨pd N N, trivial⟩ (by decide +kernel) (by kernel_rfl) (fx N) (bM N) (fun _ => rfl) (fun _ _ => rfl) (fun f x => by kernel_rfl) k
@[reducible] def w135 : List SP := [⟨[.tup [.agg [.int .i64, .int .i64, .int .i64], .bool]], [.var (.agg [.str, .mp 1, .sl 2]), .map (.str) (.int .i64), .row (.int .i64) 3]⟩]
noncomputable def On (N : Nat) : (Int × ByteArray × (List (ByteArray × Int)) × (List Int)) → Option (Int × Int × Int × Bool × ByteArray × (List (ByteArray × Int)) × (List Int))
  | (x0, x1, x2, x3) =>
  ac (decide (IntKind.wrap .i64 (x0 + 3) > (↑(ByteArray.size x1) : Int))) (
  some (((0 : Int), (0 : Int), (0 : Int), false, x1, x2, x3))) (
  ac (decide ((0 : Int) ≤ IntKind.wrap .i64 (x0 + 3) ∧ IntKind.wrap .i64 (x0 + 3) ≤ (↑(ByteArray.size x1) : Int))) (
  ac (decide ((0 : Int) ≤ x0 ∧ x0 ≤ (↑(Int.toNat (IntKind.wrap .i64 (x0 + 3))) : Int))) (
  Option.bind (bM N N (fC Ty.str (ByteArray.extract x1 (Int.toNat x0) (Int.toNat (IntKind.wrap .i64 (x0 + 3)))) (0 : Int) x2, (0 : Int), gx Ty.str (ByteArray.extract x1 (Int.toNat x0) (Int.toNat (IntKind.wrap .i64 (x0 + 3)))) x2, x0, x1, (0 : Int), (0 : Int), (0 : Int), (0 : Int), (0 : Int), (0 : Int), x2, x3)) fun y0 =>
  some ((y0.2.1, y0.2.2.1, y0.2.2.2.1, decide (y0.2.2.1 ≥ 3), y0.1, y0.2.2.2.2.2.2.2.1, y0.2.2.2.2.2.2.2.2))) (
  none)) (
  none))
noncomputable def W3 (N : Nat) : Pk → Tr Pk := aj s135 w135 (On N)
theorem Qn (N : Nat) : aO Tryz.prog 135 (W3 N) :=
  (ag ah aB (pF N) Tryz.func135 s135 w135 [0] (cuts := [(1001, mj.cut (gb N)), (250, vu.cut (bM N N))]) ⟨pd N N, DJ N N, trivial⟩ (fun _ => by kernel_rfl) (by kernel_rfl) (On N) (fun x => by kernel_rfl))
@[reducible] def s110 : SP := ⟨[.str, .str], []⟩
noncomputable def SX (N : Nat) : au := [(88, UJ N), (134, W4 N), (135, W3 N)]
theorem lT (N : Nat) : ai Tryz.prog (SX N) := ⟨uo N, Qo N, Qn N, trivial⟩
@[reducible] def lA : LD := ⟨122, [22, 21, 5, 6], [(.ret, [4]), (.exit 0, [5, 6])], ⟨[.int .i64, .int .i64, .str, .adr 0 []], [.var (.agg [.str, .mp 1, .sl 2]), .map (.str) (.int .i64), .row (.int .i64) 3]⟩, [(.exit 0, ⟨[.str, .adr 0 []], [.var (.agg [.str, .mp 1, .sl 2]), .map (.str) (.int .i64), .row (.int .i64) 3]⟩)]⟩
abbrev vf : Type := Int × Int × ByteArray × ByteArray × (List (ByteArray × Int)) × (List Int)
abbrev uO : Type := ByteArray × ByteArray × (List (ByteArray × Int)) × (List Int)
noncomputable def px (N : Nat) (f : vf → Option uO) : vf → Option uO
  | (x0, x1, x2, x3, x4, x5) =>
  ac (decide (x0 < x1)) (
  Option.bind (JZ N (x0, x3, x4, x5)) fun y0 =>
  Option.bind (f (IntKind.wrap .i64 (x0 + 1), x1, x2, y0.1, y0.2.1, y0.2.2)) fun r => some r) (
  some ((x2, x3, x4, x5)))
noncomputable def dA (N : Nat) : Nat → vf → Option uO
  | 0, _ => none
  | k + 1, x => px N (dA N k) x
theorem lQ (N : Nat) (k : Nat) : ap Tryz.prog Tryz.f110 [] 122 (lA.cut (dA N k)) :=
  lA.loopT ah aB (lT N) Tryz.f110 [] (cuts := []) trivial (by decide +kernel) (by kernel_rfl) (px N) (dA N) (fun _ => rfl) (fun _ _ => rfl) (fun f x => by kernel_rfl) k
@[reducible] def y0 : Ty := (.cons (.int .i64) (.cons (.int .i64) (.cons (.int .i64) .unit)))
@[reducible] def hZ : LD := ⟨129630, [9, 61, 60, 8, 6], [(.ret, [4]), (.exit 4, [8, 9, 6]), (.exit 3, [8, 9, 6]), (.exit 2, [8])], ⟨[.int .i64, .int .i64, .int .i64, .sl 0, .adr 1 []], [.row y0 52, .var (.agg [.str, .mp 2, .sl 3]), .map (.str) (.int .i64), .row (.int .i64) 3]⟩, [(.exit 4, ⟨[.sl 0, .int .i64, .adr 1 []], [.row y0 52, .var (.agg [.str, .mp 2, .sl 3]), .map (.str) (.int .i64), .row (.int .i64) 3]⟩)]⟩
abbrev lw : Type := Int × Int × Int × (List (Int × (Int × (Int × Unit)))) × ByteArray × (List (ByteArray × Int)) × (List Int)
abbrev lp : Type := Int × (List (Int × (Int × (Int × Unit)))) × ByteArray × (List (ByteArray × Int)) × (List Int)
noncomputable def im (N : Nat) (f : lw → Option lp) : lw → Option lp
  | (x0, x1, x2, x3, x4, x5, x6) =>
  ac (decide (x1 < x2)) (
  Option.bind (JZ N (x0, x4, x5, x6)) fun y0 =>
  Option.bind (f (IntKind.wrap .i64 (x0 + 1), IntKind.wrap .i64 (x1 + 1), x2, x3, y0.1, y0.2.1, y0.2.2)) fun r => some r) (
  some ((x0, x3, x4, x5, x6)))
noncomputable def bE (N : Nat) : Nat → lw → Option lp
  | 0, _ => none
  | k + 1, x => im N (bE N k) x
theorem lP (N : Nat) (k : Nat) : ap Tryz.prog Tryz.f110 [] 129630 (hZ.cut (bE N k)) :=
  hZ.loopT ah aB (lT N) Tryz.f110 [] (cuts := [(122, lA.cut (dA N N))]) ⟨lQ N N, trivial⟩ (by decide +kernel) (by kernel_rfl) (im N) (bE N) (fun _ => rfl) (fun _ _ => rfl) (fun f x => by kernel_rfl) k
@[reducible] def vD : LD := ⟨506, [8, 9, 6], [(.ret, [4]), (.exit 2, [8])], ⟨[.sl 0, .int .i64, .adr 1 []], [.row y0 52, .var (.agg [.str, .mp 2, .sl 3]), .map (.str) (.int .i64), .row (.int .i64) 3]⟩, [(.exit 2, ⟨[.sl 0], [.row y0 52]⟩)]⟩
abbrev ve : Type := Int × (List (Int × (Int × (Int × Unit)))) × ByteArray × (List (ByteArray × Int)) × (List Int)
abbrev uN : Type := (List (Int × (Int × (Int × Unit))))
noncomputable def jg (N : Nat) (f : ve → Option uN) : ve → Option uN
  | (x0, x1, x2, x3, x4) =>
  ac (decide (x0 < (↑(ByteArray.size x2) : Int))) (
  Option.bind (On N (x0, x2, x3, x4)) fun y0 =>
  ac (!y0.2.2.2.1) (
  ac (decide ((0 : Int) ≤ x0)) (
  Option.bind (y0.2.2.2.2.1[Int.toNat x0]?) fun y1 =>
  ac (decide ((List.length x1 + List.length [(IntKind.wrap .i64 (↑(UInt8.toNat y1) : Int), (0 : Int), (0 : Int), ())]) * 24 ≤ (140737488355328 : Nat) ∧ List.length x1 + List.length [(IntKind.wrap .i64 (↑(UInt8.toNat y1) : Int), (0 : Int), (0 : Int), ())] ≤ 140737488355328)) (
  Option.bind (bE N N (x0, (0 : Int), (1 : Int), x1 ++ [(IntKind.wrap .i64 (↑(UInt8.toNat y1) : Int), (0 : Int), (0 : Int), ())], y0.2.2.2.2.1, y0.2.2.2.2.2.1, y0.2.2.2.2.2.2)) fun y2 =>
  Option.bind (f (y2.1, y2.2.1, y2.2.2.1, y2.2.2.2.1, y2.2.2.2.2)) fun r => some r) (
  none)) (
  none)) (
  ac (decide ((List.length x1 + List.length [(y0.1, y0.2.1, y0.2.2.1, ())]) * 24 ≤ (140737488355328 : Nat) ∧ List.length x1 + List.length [(y0.1, y0.2.1, y0.2.2.1, ())] ≤ 140737488355328)) (
  Option.bind (bE N N (x0, (0 : Int), if (1 : Int) > y0.2.1 then (1 : Int) else y0.2.1, x1 ++ [(y0.1, y0.2.1, y0.2.2.1, ())], y0.2.2.2.2.1, y0.2.2.2.2.2.1, y0.2.2.2.2.2.2)) fun y3 =>
  Option.bind (f (y3.1, y3.2.1, y3.2.2.1, y3.2.2.2.1, y3.2.2.2.2)) fun r => some r) (
  none))) (
  some (x1))
noncomputable def dy (N : Nat) : Nat → ve → Option uN
  | 0, _ => none
  | k + 1, x => jg N (dy N k) x
theorem DV (N : Nat) (k : Nat) : ap Tryz.prog Tryz.f110 [] 506 (vD.cut (dy N k)) :=
  vD.loopT ah aB (lT N) Tryz.f110 [] (cuts := [(122, lA.cut (dA N N)), (129630, hZ.cut (bE N N))]) ⟨lQ N N, lP N N, trivial⟩ (by decide +kernel) (by kernel_rfl) (jg N) (dy N) (fun _ => rfl) (fun _ _ => rfl) (fun f x => by kernel_rfl) k
@[reducible] def w110 : List SP := [⟨[.sl 0], [.row y0 52]⟩]
noncomputable def Oz (N : Nat) : (ByteArray × ByteArray) → Option ((List (Int × (Int × (Int × Unit)))))
  | (x0, x1) =>
  Option.bind (NX N x0) fun y0 =>
  ac (decide ((↑(ByteArray.size y0 + ByteArray.size x1) : Int) > (9223372036854775807 : Int))) (
  none) (
  Option.bind (dA N N ((0 : Int), (↑(ByteArray.size y0) : Int), y0, y0 ++ x1, [], [])) fun y1 =>
  Option.bind (dy N N ((↑(ByteArray.size y1.1) : Int), [], y1.2.1, y1.2.2.1, y1.2.2.2)) fun y2 =>
  some (y2))
noncomputable def Xh (N : Nat) : Pk → Tr Pk := aj s110 w110 (Oz N)
theorem QB (N : Nat) : aO Tryz.prog 110 (Xh N) :=
  (ag ah aB (lT N) Tryz.func110 s110 w110 [] (cuts := [(122, lA.cut (dA N N)), (129630, hZ.cut (bE N N)), (506, vD.cut (dy N N))]) ⟨lQ N N, lP N N, DV N N, trivial⟩ (fun _ => by kernel_rfl) (by kernel_rfl) (Oz N) (fun x => by kernel_rfl))
@[reducible] def y1 : Ty := (.cons (.sl (.int .u8)) (.cons (.int .i64) (.cons (.int .i64) .unit)))
@[reducible] def s18 : SP := ⟨[.radr y1 [.i 0 3]], []⟩
noncomputable def VQ (N : Nat) : au := []
theorem Lq (N : Nat) : ai Tryz.prog (VQ N) := trivial
@[reducible] def w18 : List SP := [⟨[.int .i64], []⟩]
noncomputable def UV (N : Nat) : (((List Int) × (Int × (Int × Unit)))) → Option (Int)
  | x0 =>
  some (IntKind.wrap .i64 (IntKind.wrap .i64 ((8 : Int) * (↑(List.length x0.1) : Int)) + x0.2.2.1))
noncomputable def YY (N : Nat) : Pk → Tr Pk := aj s18 w18 (UV N)
theorem TW (N : Nat) : aO Tryz.prog 18 (YY N) :=
  (ag ah aB (Lq N) Tryz.func18 s18 w18 [] (cuts := []) trivial (fun _ => by kernel_rfl) (by kernel_rfl) (UV N) (fun x => by kernel_rfl))
@[reducible] def s69 : SP := ⟨[.int .i64, .int .i64, .int .i64], []⟩
noncomputable def Vl (N : Nat) : au := []
theorem K3 (N : Nat) : ai Tryz.prog (Vl N) := trivial
@[reducible] def w69 : List SP := [⟨[.bool], []⟩]
noncomputable def Up (N : Nat) : (Int × Int × Int) → Option (Bool)
  | (x0, x1, x2) =>
  ac (decide (x1 ≤ x0)) (
  some (decide (x0 ≤ x2))) (
  some (false))
noncomputable def YK (N : Nat) : Pk → Tr Pk := aj s69 w69 (Up N)
theorem TH (N : Nat) : aO Tryz.prog 69 (YK N) :=
  (ag ah aB (K3 N) Tryz.func69 s69 w69 [] (cuts := []) trivial (fun _ => by kernel_rfl) (by kernel_rfl) (Up N) (fun x => by kernel_rfl))
@[reducible] def s27 : SP := ⟨[.agg [.int .i64, .int .i64, .int .i64]], []⟩
noncomputable def VM (N : Nat) : au := [(69, YK N)]
theorem Lo (N : Nat) : ai Tryz.prog (VM N) := ⟨TH N, trivial⟩
@[reducible] def w27 : List SP := [⟨[.bool], []⟩]
noncomputable def RN (N : Nat) : (Int × Int × Int) → Option (Bool)
  | (x0, x1, x2) =>
  ac (x1 == 0) (
  ac (x2 == 0) (
  Option.bind (Up N (x0, (0 : Int), (255 : Int))) fun y0 =>
  some (y0)) (
  some (false))) (
  ac (x0 == 0) (
  Option.bind (Up N (x1, (3 : Int), (258 : Int))) fun y1 =>
  ac (y1) (
  Option.bind (Up N (x2, (1 : Int), (32768 : Int))) fun y2 =>
  some (y2)) (
  some (false))) (
  some (false)))
noncomputable def Wx (N : Nat) : Pk → Tr Pk := aj s27 w27 (RN N)
theorem zL (N : Nat) : aO Tryz.prog 27 (Wx N) :=
  (ag ah aB (Lo N) Tryz.func27 s27 w27 [] (cuts := []) trivial (fun _ => by kernel_rfl) (by kernel_rfl) (RN N) (fun x => by kernel_rfl))
@[reducible] def s101 : SP := ⟨[.sl 0, .int .i64, .int .i64], [.row (.int .i64) 3]⟩
noncomputable def S2 (N : Nat) : au := []
theorem xp (N : Nat) : ai Tryz.prog (S2 N) := trivial
@[reducible] def A0 : LD := ⟨12, [0, 1, 2], [(.ret, [6]), (.exit 0, [0])], ⟨[.sl 0, .int .i64, .int .i64], [.row (.int .i64) 3]⟩, [(.exit 0, ⟨[.sl 0], [.row (.int .i64) 3]⟩)]⟩
abbrev AG : Type := Int × Int × (List Int)
abbrev Ai : Type := (List Int)
noncomputable def HM (N : Nat) (f : AG → Option Ai) : AG → Option Ai
  | (x0, x1, x2) =>
  ac (decide ((↑(List.length x2) : Int) < x0)) (
  ac (decide ((List.length x2 + List.length [x1]) * 8 ≤ (140737488355328 : Nat) ∧ List.length x2 + List.length [x1] ≤ 140737488355328)) (
  Option.bind (f (x0, x1, x2 ++ [x1])) fun r => some r) (
  none)) (
  some (x2))
noncomputable def o9 (N : Nat) : Nat → AG → Option Ai
  | 0, _ => none
  | k + 1, x => HM N (o9 N k) x
theorem GB (N : Nat) (k : Nat) : ap Tryz.prog Tryz.f101 [] 12 (A0.cut (o9 N k)) :=
  A0.loopT ah aB (xp N) Tryz.f101 [] (cuts := []) trivial (by decide +kernel) (by kernel_rfl) (HM N) (o9 N) (fun _ => rfl) (fun _ _ => rfl) (fun f x => by kernel_rfl) k
@[reducible] def w101 : List SP := [⟨[.sl 0], [.row (.int .i64) 3]⟩]
noncomputable def Gk (N : Nat) : (Int × Int × (List Int)) → Option ((List Int))
  | (x0, x1, x2) =>
  Option.bind (o9 N N (x0, x1, x2)) fun y0 =>
  some (y0)
noncomputable def Xj (N : Nat) : Pk → Tr Pk := aj s101 w101 (Gk N)
theorem QD (N : Nat) : aO Tryz.prog 101 (Xj N) :=
  (ag ah aB (xp N) Tryz.func101 s101 w101 [] (cuts := [(12, A0.cut (o9 N N))]) ⟨GB N N, trivial⟩ (fun _ => by kernel_rfl) (by kernel_rfl) (Gk N) (fun x => by kernel_rfl))
@[reducible] def s64 : SP := ⟨[], []⟩
noncomputable def Vq (N : Nat) : au := [(101, Xj N)]
theorem K5 (N : Nat) : ai Tryz.prog (Vq N) := ⟨QD N, trivial⟩
@[reducible] def w64 : List SP := [⟨[.tup [.sl 0, .sl 1]], [.row (.int .i64) 3, .row (.int .i64) 3]⟩]
noncomputable def Xq (N : Nat) : (Unit) → Option ((List Int) × (List Int))
  | () =>
  Option.bind (Gk N ((144 : Int), (8 : Int), [])) fun y0 =>
  Option.bind (Gk N ((256 : Int), (9 : Int), y0)) fun y1 =>
  Option.bind (Gk N ((280 : Int), (7 : Int), y1)) fun y2 =>
  Option.bind (Gk N ((288 : Int), (8 : Int), y2)) fun y3 =>
  Option.bind (Gk N ((30 : Int), (5 : Int), [])) fun y4 =>
  some ((y3, y4))
noncomputable def Yc (N : Nat) : Pk → Tr Pk := aj s64 w64 (Xq N)
theorem Nu (N : Nat) : aO Tryz.prog 64 (Yc N) :=
  (ag ah aB (K5 N) Tryz.func64 s64 w64 [] (cuts := []) trivial (fun _ => by kernel_rfl) (by kernel_rfl) (Xq N) (fun x => by kernel_rfl))
@[reducible] def s97 : SP := ⟨[.ro (.int .i64)], []⟩
noncomputable def U1 (N : Nat) : au := []
theorem Bz (N : Nat) : ai Tryz.prog (U1 N) := trivial
@[reducible] def AJ : LD := ⟨122, [12, 11, 13, 4, 2], [(.ret, [2, 3]), (.exit 0, [4, 2])], ⟨[.int .i64, .ro (.int .i64), .int .i64, .adr 0 [], .adr 1 []], [.var (.arr (.int .i64) 16), .var (.arr (.int .i64) 16)]⟩, [(.ret, ⟨[.adr 0 [], .int .i64], [.var (.arr (.int .i64) 16)]⟩), (.exit 0, ⟨[.adr 0 [], .adr 1 []], [.var (.arr (.int .i64) 16), .var (.arr (.int .i64) 16)]⟩)]⟩
abbrev Ak : Type := Int × (List Int) × Int × (List Int) × (List Int)
abbrev zP : Type := ((Int × (List Int)) ⊕ ((List Int) × (List Int)))
noncomputable def sc (N : Nat) (f : Ak → Option zP) : Ak → Option zP
  | (x0, x1, x2, x3, x4) =>
  ac (decide (x2 < x0)) (
  ac (within x2 (List.length x1)) (
  Option.bind (x1[Int.toNat x2]?) fun y0 =>
  ac (decide (y0 < 0)) (
  some (.inl (((50 : Int), x3)))) (
  ac (decide (y0 > 15)) (
  some (.inl (((50 : Int), x3)))) (
  ac (within y0 (16 : Nat)) (
  Option.bind (x3[Int.toNat y0]?) fun y1 =>
  ac (within y0 (16 : Nat)) (
  Option.bind (x3[Int.toNat y0]?) fun y2 =>
  Option.bind (f (x0, x1, IntKind.wrap .i64 (x2 + 1), List.set x3 (Int.toNat y0) (IntKind.wrap .i64 (y1 + 1)), x4)) fun r => match r with | .inl y => some (.inl y) | .inr y => some (.inr y)) (
  none)) (
  none)))) (
  none)) (
  some (.inr ((x3, x4))))
noncomputable def fO (N : Nat) : Nat → Ak → Option zP
  | 0, _ => none
  | k + 1, x => sc N (fO N k) x
theorem Gl (N : Nat) (k : Nat) : ap Tryz.prog Tryz.f97 [] 122 (AJ.cut (fO N k)) :=
  AJ.loopT ah aB (Bz N) Tryz.f97 [] (cuts := []) trivial (by decide +kernel) (by kernel_rfl) (sc N) (fO N) (fun _ => rfl) (fun _ _ => rfl) (fun f x => by kernel_rfl) k
@[reducible] def w97 : List SP := [⟨[.tup [.arr (.int .i64) 16, .int .i64]], []⟩]
noncomputable def Um (N : Nat) : ((List Int)) → Option ((List Int) × Int)
  | x0 =>
  ac (decide ((↑(List.length x0) : Int) > (320 : Int))) (
  some (([(0 : Int), (0 : Int), (0 : Int), (0 : Int), (0 : Int), (0 : Int), (0 : Int), (0 : Int), (0 : Int), (0 : Int), (0 : Int), (0 : Int), (0 : Int), (0 : Int), (0 : Int), (0 : Int)], (50 : Int)))) (
  Option.bind (fO N N ((↑(List.length x0) : Int), x0, (0 : Int), [(0 : Int), (0 : Int), (0 : Int), (0 : Int), (0 : Int), (0 : Int), (0 : Int), (0 : Int), (0 : Int), (0 : Int), (0 : Int), (0 : Int), (0 : Int), (0 : Int), (0 : Int), (0 : Int)], [(0 : Int), (0 : Int), (0 : Int), (0 : Int), (0 : Int), (0 : Int), (0 : Int), (0 : Int), (0 : Int), (0 : Int), (0 : Int), (0 : Int), (0 : Int), (0 : Int), (0 : Int), (0 : Int)])) fun y0 =>
  match y0 with
  | .inl y1 =>
  some ((y1.2, y1.1))
  | .inr y1 =>
  some ((y1.1, (0 : Int))))
noncomputable def XE (N : Nat) : Pk → Tr Pk := aj s97 w97 (Um N)
theorem E2 (N : Nat) : aO Tryz.prog 97 (XE N) :=
  (ag ah aB (Bz N) Tryz.func97 s97 w97 [] (cuts := [(122, AJ.cut (fO N N))]) ⟨Gl N N, trivial⟩ (fun _ => by kernel_rfl) (by kernel_rfl) (Um N) (fun x => by kernel_rfl))
@[reducible] def s96 : SP := ⟨[.ro (.int .i64)], []⟩
noncomputable def U2 (N : Nat) : au := [(97, XE N)]
theorem BA (N : Nat) : ai Tryz.prog (U2 N) := ⟨E2 N, trivial⟩
@[reducible] def AK : LD := ⟨122, [6, 5, 7, 4], [(.ret, [2, 3]), (.exit 0, [6, 5])], ⟨[.int .i64, .int .i64, .int .i64, .adr 0 []], [.var (.arr (.int .i64) 16)]⟩, [(.exit 0, ⟨[.int .i64, .int .i64], []⟩)]⟩
abbrev Al : Type := Int × Int × Int × (List Int)
abbrev zQ : Type := Int × Int
noncomputable def my (N : Nat) (f : Al → Option zQ) : Al → Option zQ
  | (x0, x1, x2, x3) =>
  ac (decide (x2 ≤ 15)) (
  ac (x1 == 0) (
  ac (within x2 (16 : Nat)) (
  Option.bind (x3[Int.toNat x2]?) fun y0 =>
  ac (decide (IntKind.wrap .i64 (IntKind.wrap .i64 (x0 * 2) - y0) < 0)) (
  Option.bind (f (IntKind.wrap .i64 (IntKind.wrap .i64 (x0 * 2) - y0), (50 : Int), IntKind.wrap .i64 (x2 + 1), x3)) fun r => some r) (
  Option.bind (f (IntKind.wrap .i64 (IntKind.wrap .i64 (x0 * 2) - y0), x1, IntKind.wrap .i64 (x2 + 1), x3)) fun r => some r)) (
  none)) (
  some ((x0, x1)))) (
  some ((x0, x1)))
noncomputable def dZ (N : Nat) : Nat → Al → Option zQ
  | 0, _ => none
  | k + 1, x => my N (dZ N k) x
theorem Gm (N : Nat) (k : Nat) : ap Tryz.prog Tryz.f96 [] 122 (AK.cut (dZ N k)) :=
  AK.loopT ah aB (BA N) Tryz.f96 [] (cuts := []) trivial (by decide +kernel) (by kernel_rfl) (my N) (dZ N) (fun _ => rfl) (fun _ _ => rfl) (fun f x => by kernel_rfl) k
@[reducible] def w96 : List SP := [⟨[.tup [.int .i64, .int .i64]], []⟩]
noncomputable def UK (N : Nat) : ((List Int)) → Option (Int × Int)
  | x0 =>
  Option.bind (Um N x0) fun y0 =>
  Option.bind (dZ N N ((1 : Int), y0.2, (1 : Int), y0.1)) fun y1 =>
  ac (y1.2 != 0) (
  some (((0 : Int), y1.2))) (
  some ((y1.1, (0 : Int))))
noncomputable def XZ (N : Nat) : Pk → Tr Pk := aj s96 w96 (UK N)
theorem Nj (N : Nat) : aO Tryz.prog 96 (XZ N) :=
  (ag ah aB (BA N) Tryz.func96 s96 w96 [] (cuts := [(122, AK.cut (dZ N N))]) ⟨Gm N N, trivial⟩ (fun _ => by kernel_rfl) (by kernel_rfl) (UK N) (fun x => by kernel_rfl))
@[reducible] def s57 : SP := ⟨[.ro (.int .i64)], []⟩
noncomputable def Vt (N : Nat) : au := [(96, XZ N), (97, XE N)]
theorem sA (N : Nat) : ai Tryz.prog (Vt N) := ⟨Nj N, E2 N, trivial⟩
@[reducible] def y2 : Ty := (.cons (.int .i64) (.cons (.int .i64) .unit))
@[reducible] def r7 : LD := ⟨250, [9, 0, 6, 8], [(.ret, [2, 3]), (.exit 0, [0, 8])], ⟨[.int .i64, .ro (.int .i64), .adr 0 [], .adr 1 []], [.var (.arr (.int .i64) 16), .var (.arr (.int .i64) 16)]⟩, [(.exit 0, ⟨[.ro (.int .i64), .adr 0 []], [.var (.arr (.int .i64) 16)]⟩)]⟩
abbrev Aq : Type := Int × (List Int) × (List Int) × (List Int)
abbrev zU : Type := (List Int) × (List Int)
noncomputable def sg (N : Nat) (f : Aq → Option zU) : Aq → Option zU
  | (x0, x1, x2, x3) =>
  ac (decide (x0 < 15)) (
  ac (within x0 (16 : Nat)) (
  Option.bind (x3[Int.toNat x0]?) fun y0 =>
  ac (within x0 (16 : Nat)) (
  Option.bind (x2[Int.toNat x0]?) fun y1 =>
  ac (within (IntKind.wrap .i64 (x0 + 1)) (16 : Nat)) (
  Option.bind (x3[Int.toNat (IntKind.wrap .i64 (x0 + 1))]?) fun y2 =>
  Option.bind (f (IntKind.wrap .i64 (x0 + 1), x1, x2, List.set x3 (Int.toNat (IntKind.wrap .i64 (x0 + 1))) (IntKind.wrap .i64 (IntKind.wrap .i64 (y0 + y1) * 2)))) fun r => some r) (
  none)) (
  none)) (
  none)) (
  some ((x1, x3)))
noncomputable def fR (N : Nat) : Nat → Aq → Option zU
  | 0, _ => none
  | k + 1, x => sg N (fR N k) x
theorem vZ (N : Nat) (k : Nat) : ap Tryz.prog Tryz.f57 [] 250 (r7.cut (fR N k)) :=
  r7.loopT ah aB (sA N) Tryz.f57 [] (cuts := []) trivial (by decide +kernel) (by kernel_rfl) (sg N) (fR N) (fun _ => rfl) (fun _ _ => rfl) (fun f x => by kernel_rfl) k
@[reducible] def vh : LD := ⟨1018, [46, 45, 44, 10, 8], [(.ret, [2, 3]), (.exit 2, [10])], ⟨[.int .i64, .int .i64, .ro (.int .i64), .sl 0, .adr 1 []], [.row y2 105, .var (.arr (.int .i64) 16)]⟩, [(.exit 2, ⟨[.sl 0], [.row y2 105]⟩)]⟩
abbrev uR : Type := Int × Int × (List Int) × (List (Int × (Int × Unit))) × (List Int)
abbrev uv : Type := (List (Int × (Int × Unit)))
noncomputable def pm (N : Nat) (f : uR → Option uv) : uR → Option uv
  | (x0, x1, x2, x3, x4) =>
  ac (decide (x0 < x1)) (
  ac (within x0 (List.length x2)) (
  Option.bind (x2[Int.toNat x0]?) fun y0 =>
  ac (decide (y0 > 0)) (
  ac (within y0 (16 : Nat)) (
  Option.bind (x4[Int.toNat y0]?) fun y1 =>
  ac (within x0 (List.length x3)) (
  Option.bind (x3[Int.toNat x0]?) fun y2 =>
  ac (within y0 (16 : Nat)) (
  Option.bind (x4[Int.toNat y0]?) fun y3 =>
  ac (within y0 (16 : Nat)) (
  Option.bind (x4[Int.toNat y0]?) fun y4 =>
  Option.bind (f (IntKind.wrap .i64 (x0 + 1), x1, x2, List.set x3 (Int.toNat x0) (y1, y0, ()), List.set x4 (Int.toNat y0) (IntKind.wrap .i64 (y3 + 1)))) fun r => some r) (
  none)) (
  none)) (
  none)) (
  none)) (
  Option.bind (f (IntKind.wrap .i64 (x0 + 1), x1, x2, x3, x4)) fun r => some r)) (
  none)) (
  some (x3))
noncomputable def fl (N : Nat) : Nat → uR → Option uv
  | 0, _ => none
  | k + 1, x => pm N (fl N k) x
theorem Dz (N : Nat) (k : Nat) : ap Tryz.prog Tryz.f57 [] 1018 (vh.cut (fl N k)) :=
  vh.loopT ah aB (sA N) Tryz.f57 [] (cuts := [(250, r7.cut (fR N N))]) ⟨vZ N N, trivial⟩ (by decide +kernel) (by kernel_rfl) (pm N) (fl N) (fun _ => rfl) (fun _ _ => rfl) (fun f x => by kernel_rfl) k
@[reducible] def w57 : List SP := [⟨[.tup [.sl 0, .int .i64]], [.row y2 105]⟩]
noncomputable def RF (N : Nat) : ((List Int)) → Option (Int × (List (Int × (Int × Unit))))
  | x0 =>
  Option.bind (UK N x0) fun y0 =>
  ac (y0.2 != 0) (
  some ((y0.2, []))) (
  Option.bind (Um N x0) fun y1 =>
  Option.bind (fR N N ((1 : Int), x0, y1.1, [(0 : Int), (0 : Int), (0 : Int), (0 : Int), (0 : Int), (0 : Int), (0 : Int), (0 : Int), (0 : Int), (0 : Int), (0 : Int), (0 : Int), (0 : Int), (0 : Int), (0 : Int), (0 : Int)])) fun y2 =>
  ac (decide ((0 : Int) ≤ (↑(List.length y2.1) : Int) ∧ (↑(List.length y2.1) : Int) ≤ (↑(List.length y2.1) : Int) ∧ (↑(List.length y2.1) : Int) * (16 : Int) ≤ (140737488355328 : Int) ∧ (↑(List.length y2.1) : Int) ≤ (140737488355328 : Int))) (
  Option.bind (fl N N ((0 : Int), (↑(List.length y2.1) : Int), y2.1, List.replicate (Int.toNat (↑(List.length y2.1) : Int)) ((0 : Int), (0 : Int), ()), y2.2)) fun y3 =>
  some (((0 : Int), y3))) (
  none))
noncomputable def Yf (N : Nat) : Pk → Tr Pk := aj s57 w57 (RF N)
theorem Nx (N : Nat) : aO Tryz.prog 57 (Yf N) :=
  (ag ah aB (sA N) Tryz.func57 s57 w57 [] (cuts := [(250, r7.cut (fR N N)), (1018, vh.cut (fl N N))]) ⟨vZ N N, Dz N N, trivial⟩ (fun _ => by kernel_rfl) (by kernel_rfl) (RF N) (fun x => by kernel_rfl))
@[reducible] def s170 : SP := ⟨[.int .i64, .int .i64, .int .i64], []⟩
noncomputable def RU (N : Nat) : au := []
theorem HZ (N : Nat) : ai Tryz.prog (RU N) := trivial
@[reducible] def w170 : List SP := [⟨[.int .i64], []⟩]
noncomputable def QZ (N : Nat) : (Int × Int × Int) → Option (Int)
  | (x0, x1, x2) =>
  ac (decide (x2 = (0 : Int))) (
  none) (
  ac (decide (x1 = (0 : Int))) (
  none) (
  some (IntKind.wrap .i64 ((if (0 : Int) > IntKind.wrap .i64 (IntKind.wrap .i64 (Int.tdiv (IntKind.wrap .i64 (x0 - x1)) x2) + 1) then (0 : Int) else IntKind.wrap .i64 (IntKind.wrap .i64 (Int.tdiv (IntKind.wrap .i64 (x0 - x1)) x2) + 1)) * if (1 : Int) < IntKind.wrap .i64 (Int.tdiv x0 x1) then (1 : Int) else IntKind.wrap .i64 (Int.tdiv x0 x1)))))
noncomputable def WC (N : Nat) : Pk → Tr Pk := aj s170 w170 (QZ N)
theorem PM (N : Nat) : aO Tryz.prog 170 (WC N) :=
  (ag ah aB (HZ N) Tryz.func170 s170 w170 [] (cuts := []) trivial (fun _ => by kernel_rfl) (by kernel_rfl) (QZ N) (fun x => by kernel_rfl))
@[reducible] def s158 : SP := ⟨[.int .i64, .int .i64, .int .i64, .int .i64], []⟩
noncomputable def Se (N : Nat) : au := [(170, WC N)]
theorem xj (N : Nat) : ai Tryz.prog (Se N) := ⟨PM N, trivial⟩
@[reducible] def AX : LD := ⟨58, [10, 14, 13, 0, 1, 2], [(.ret, [8, 9]), (.exit 0, [10, 0, 1, 2])], ⟨[.int .i64, .int .i64, .int .i64, .int .i64, .int .i64, .int .i64], []⟩, [(.exit 0, ⟨[.int .i64, .int .i64, .int .i64, .int .i64], []⟩)]⟩
abbrev AB : Type := Int × Int × Int × Int × Int × Int
abbrev Ad : Type := Int × Int × Int × Int
noncomputable def HJ (N : Nat) (f : AB → Option Ad) : AB → Option Ad
  | (x0, x1, x2, x3, x4, x5) =>
  ac (decide (x1 < x2)) (
  Option.bind (QZ N (x1, x4, x5)) fun y0 =>
  ac (decide (y0 < 0)) (
  none) (
  Option.bind (f (IntKind.wrap .i64 (x0 + IntKind.wrap .i64 ((1 : Int) * (2 : Int) ^ min (Int.toNat y0) (64 : Nat))), IntKind.wrap .i64 (x1 + 1), x2, x3, x4, x5)) fun r => some r)) (
  some ((x0, x3, x4, x5)))
noncomputable def oY (N : Nat) : Nat → AB → Option Ad
  | 0, _ => none
  | k + 1, x => HJ N (oY N k) x
theorem Gy (N : Nat) (k : Nat) : ap Tryz.prog Tryz.f158 [] 58 (AX.cut (oY N k)) :=
  AX.loopT ah aB (xj N) Tryz.f158 [] (cuts := []) trivial (by decide +kernel) (by kernel_rfl) (HJ N) (oY N) (fun _ => rfl) (fun _ _ => rfl) (fun f x => by kernel_rfl) k
@[reducible] def w158 : List SP := [⟨[.tup [.int .i64, .int .i64]], []⟩]
noncomputable def Q0 (N : Nat) : (Int × Int × Int × Int) → Option (Int × Int)
  | (x0, x1, x2, x3) =>
  Option.bind (oY N N (x3, (0 : Int), x0, x0, x1, x2)) fun y0 =>
  Option.bind (QZ N (y0.2.1, y0.2.2.1, y0.2.2.2)) fun y1 =>
  some ((y0.1, y1))
noncomputable def Ua (N : Nat) : Pk → Tr Pk := aj s158 w158 (Q0 N)
theorem Hn (N : Nat) : aO Tryz.prog 158 (Ua N) :=
  (ag ah aB (xj N) Tryz.func158 s158 w158 [] (cuts := [(58, AX.cut (oY N N))]) ⟨Gy N N, trivial⟩ (fun _ => by kernel_rfl) (by kernel_rfl) (Q0 N) (fun x => by kernel_rfl))
@[reducible] def s131 : SP := ⟨[.int .i64], []⟩
noncomputable def SC (N : Nat) : au := [(158, Ua N)]
theorem Ip (N : Nat) : ai Tryz.prog (SC N) := ⟨Hn N, trivial⟩
@[reducible] def w131 : List SP := [⟨[.tup [.int .i64, .int .i64]], []⟩]
noncomputable def vW (N : Nat) : (Int) → Option (Int × Int)
  | x0 =>
  ac (x0 == 285) (
  some (((258 : Int), (0 : Int)))) (
  ac (decide (x0 < 257)) (
  some (((0 : Int), (0 : Int)))) (
  ac (decide (x0 > 285)) (
  some (((0 : Int), (0 : Int)))) (
  Option.bind (Q0 N (IntKind.wrap .i64 (x0 - 257), (8 : Int), (4 : Int), (3 : Int))) fun y0 =>
  some ((y0.1, y0.2)))))
noncomputable def Ug (N : Nat) : Pk → Tr Pk := aj s131 w131 (vW N)
theorem Hs (N : Nat) : aO Tryz.prog 131 (Ug N) :=
  (ag ah aB (Ip N) Tryz.func131 s131 w131 [] (cuts := []) trivial (fun _ => by kernel_rfl) (by kernel_rfl) (vW N) (fun x => by kernel_rfl))
@[reducible] def s132 : SP := ⟨[.int .i64], []⟩
noncomputable def SB (N : Nat) : au := [(158, Ua N)]
theorem Io (N : Nat) : ai Tryz.prog (SB N) := ⟨Hn N, trivial⟩
@[reducible] def w132 : List SP := [⟨[.tup [.int .i64, .int .i64]], []⟩]
noncomputable def vV (N : Nat) : (Int) → Option (Int × Int)
  | x0 =>
  ac (decide (x0 < 0)) (
  some (((0 : Int), (0 : Int)))) (
  ac (decide (x0 ≥ 30)) (
  some (((0 : Int), (0 : Int)))) (
  Option.bind (Q0 N (x0, (4 : Int), (2 : Int), (1 : Int))) fun y0 =>
  some ((y0.1, y0.2))))
noncomputable def Uf (N : Nat) : Pk → Tr Pk := aj s132 w132 (vV N)
theorem Hr (N : Nat) : aO Tryz.prog 132 (Uf N) :=
  (ag ah aB (Io N) Tryz.func132 s132 w132 [] (cuts := []) trivial (fun _ => by kernel_rfl) (by kernel_rfl) (vV N) (fun x => by kernel_rfl))
@[reducible] def s130a : SP := ⟨[.int .i64, .int .i64, .int .i64, .fn 131], []⟩
noncomputable def OX (N : Nat) : au := [(131, Ug N)]
theorem sG (N : Nat) : ai Tryz.prog (OX N) := ⟨Hs N, trivial⟩
@[reducible] def vw : LD := ⟨26, [1, 3, 11, 0], [(.ret, [8, 9, 10]), (.exit 0, [])], ⟨[.int .i64, .fn 131, .int .i64, .int .i64], []⟩, [(.ret, ⟨[.int .i64, .int .i64, .int .i64], []⟩), (.exit 0, ⟨[], []⟩)]⟩
abbrev u6 : Type := Int × Int × Int
abbrev uI : Type := ((Int × Int × Int) ⊕ (Unit))
noncomputable def wj (N : Nat) (f : u6 → Option uI) : u6 → Option uI
  | (x0, x1, x2) =>
  ac (decide (x1 ≥ x0)) (
  Option.bind (vW N x1) fun y0 =>
  ac (decide (y0.1 ≤ x2)) (
  some (.inl ((x1, IntKind.wrap .i64 (x2 - y0.1), y0.2)))) (
  Option.bind (f (x0, IntKind.wrap .i64 (x1 - 1), x2)) fun r => match r with | .inl y => some (.inl y) | .inr y => some (.inr y))) (
  some (.inr (())))
noncomputable def gL (N : Nat) : Nat → u6 → Option uI
  | 0, _ => none
  | k + 1, x => wj N (gL N k) x
theorem DL (N : Nat) (k : Nat) : ap Tryz.prog Tryz.f130 [] 26 (vw.cut (gL N k)) :=
  vw.loopT ah aB (sG N) Tryz.f130 [] (cuts := []) trivial (by decide +kernel) (by kernel_rfl) (wj N) (gL N) (fun _ => rfl) (fun _ _ => rfl) (fun f x => by kernel_rfl) k
@[reducible] def w130a : List SP := [⟨[.tup [.int .i64, .int .i64, .int .i64]], []⟩]
noncomputable def HH (N : Nat) : (Int × Int × Int) → Option (Int × Int × Int)
  | (x0, x1, x2) =>
  Option.bind (gL N N (x1, x2, x0)) fun y0 =>
  match y0 with
  | .inl y1 =>
  some ((y1.1, y1.2.1, y1.2.2))
  | .inr y1 =>
  some (((0 : Int), (0 : Int), (0 : Int)))
noncomputable def Rz (N : Nat) : Pk → Tr Pk := aj s130a w130a (HH N)
theorem Ng (N : Nat) : aO Tryz.prog 130 (Rz N) :=
  (ag ah aB (sG N) Tryz.func130 s130a w130a [] (cuts := [(26, vw.cut (gL N N))]) ⟨DL N N, trivial⟩ (fun _ => by kernel_rfl) (by kernel_rfl) (HH N) (fun x => by kernel_rfl))
@[reducible] def s130b : SP := ⟨[.int .i64, .int .i64, .int .i64, .fn 132], []⟩
noncomputable def OW (N : Nat) : au := [(132, Uf N)]
theorem sF (N : Nat) : ai Tryz.prog (OW N) := ⟨Hr N, trivial⟩
@[reducible] def vv : LD := ⟨26, [1, 3, 11, 0], [(.ret, [8, 9, 10]), (.exit 0, [])], ⟨[.int .i64, .fn 132, .int .i64, .int .i64], []⟩, [(.ret, ⟨[.int .i64, .int .i64, .int .i64], []⟩), (.exit 0, ⟨[], []⟩)]⟩
abbrev u5 : Type := Int × Int × Int
abbrev uH : Type := ((Int × Int × Int) ⊕ (Unit))
noncomputable def wh (N : Nat) (f : u5 → Option uH) : u5 → Option uH
  | (x0, x1, x2) =>
  ac (decide (x1 ≥ x0)) (
  Option.bind (vV N x1) fun y0 =>
  ac (decide (y0.1 ≤ x2)) (
  some (.inl ((x1, IntKind.wrap .i64 (x2 - y0.1), y0.2)))) (
  Option.bind (f (x0, IntKind.wrap .i64 (x1 - 1), x2)) fun r => match r with | .inl y => some (.inl y) | .inr y => some (.inr y))) (
  some (.inr (())))
noncomputable def gI (N : Nat) : Nat → u5 → Option uH
  | 0, _ => none
  | k + 1, x => wh N (gI N k) x
theorem DK (N : Nat) (k : Nat) : ap Tryz.prog Tryz.f130 [] 26 (vv.cut (gI N k)) :=
  vv.loopT ah aB (sF N) Tryz.f130 [] (cuts := []) trivial (by decide +kernel) (by kernel_rfl) (wh N) (gI N) (fun _ => rfl) (fun _ _ => rfl) (fun f x => by kernel_rfl) k
@[reducible] def w130b : List SP := [⟨[.tup [.int .i64, .int .i64, .int .i64]], []⟩]
noncomputable def HG (N : Nat) : (Int × Int × Int) → Option (Int × Int × Int)
  | (x0, x1, x2) =>
  Option.bind (gI N N (x1, x2, x0)) fun y0 =>
  match y0 with
  | .inl y1 =>
  some ((y1.1, y1.2.1, y1.2.2))
  | .inr y1 =>
  some (((0 : Int), (0 : Int), (0 : Int)))
noncomputable def Ry (N : Nat) : Pk → Tr Pk := aj s130b w130b (HG N)
theorem Nf (N : Nat) : aO Tryz.prog 130 (Ry N) :=
  (ag ah aB (sF N) Tryz.func130 s130b w130b [] (cuts := [(26, vv.cut (gI N N))]) ⟨DK N N, trivial⟩ (fun _ => by kernel_rfl) (by kernel_rfl) (HG N) (fun x => by kernel_rfl))
noncomputable def Uh (N : Nat) : Pk → Tr Pk := (Xz s130a.I (Rz N) (Ry N))
theorem Ht (N : Nat) : aO Tryz.prog 130 (Uh N) := (LL (Ng N) (Nf N))
@[reducible] def s103 : SP := ⟨[.int .i64], []⟩
noncomputable def SZ (N : Nat) : au := [(130, Uh N)]
theorem IA (N : Nat) : ai Tryz.prog (SZ N) := ⟨Ht N, trivial⟩
@[reducible] def w103 : List SP := [⟨[.tup [.int .i64, .int .i64, .int .i64]], []⟩]
noncomputable def J8 (N : Nat) : (Int) → Option (Int × Int × Int)
  | x0 =>
  ac (decide (x0 > 258)) (
  some (((0 : Int), (0 : Int), (0 : Int)))) (
  Option.bind (HH N (x0, (257 : Int), (285 : Int))) fun y0 =>
  some ((y0.1, y0.2.1, y0.2.2)))
noncomputable def Ul (N : Nat) : Pk → Tr Pk := aj s103 w103 (J8 N)
theorem Hw (N : Nat) : aO Tryz.prog 103 (Ul N) :=
  (ag ah aB (IA N) Tryz.func103 s103 w103 [] (cuts := []) trivial (fun _ => by kernel_rfl) (by kernel_rfl) (J8 N) (fun x => by kernel_rfl))
@[reducible] def s104 : SP := ⟨[.int .i64], []⟩
noncomputable def SY (N : Nat) : au := [(130, Uh N)]
theorem Iz (N : Nat) : ai Tryz.prog (SY N) := ⟨Ht N, trivial⟩
@[reducible] def w104 : List SP := [⟨[.tup [.int .i64, .int .i64, .int .i64]], []⟩]
noncomputable def J7 (N : Nat) : (Int) → Option (Int × Int × Int)
  | x0 =>
  ac (decide (x0 > 32768)) (
  some (((0 : Int), (0 : Int), (0 : Int)))) (
  Option.bind (HG N (x0, (0 : Int), (29 : Int))) fun y0 =>
  some ((y0.1, y0.2.1, y0.2.2)))
noncomputable def Uk (N : Nat) : Pk → Tr Pk := aj s104 w104 (J7 N)
theorem Hv (N : Nat) : aO Tryz.prog 104 (Uk N) :=
  (ag ah aB (Iz N) Tryz.func104 s104 w104 [] (cuts := []) trivial (fun _ => by kernel_rfl) (by kernel_rfl) (J7 N) (fun x => by kernel_rfl))
@[reducible] def s66 : SP := ⟨[.ro y0], []⟩
noncomputable def Vo (N : Nat) : au := [(27, Wx N), (103, Ul N), (104, Uk N)]
theorem BG (N : Nat) : ai Tryz.prog (Vo N) := ⟨zL N, Hw N, Hv N, trivial⟩
@[reducible] def AM : LD := ⟨122, [18, 17, 16, 2, 3], [(.ret, [2, 3]), (.exit 0, [2, 3])], ⟨[.int .i64, .int .i64, .ro y0, .sl 0, .sl 1], [.row (.int .i64) 3, .row (.int .i64) 3]⟩, [(.exit 0, ⟨[.sl 0, .sl 1], [.row (.int .i64) 3, .row (.int .i64) 3]⟩)]⟩
abbrev Ap : Type := Int × Int × (List (Int × (Int × (Int × Unit)))) × (List Int) × (List Int)
abbrev zT : Type := (List Int) × (List Int)
noncomputable def sf (N : Nat) (f : Ap → Option zT) : Ap → Option zT
  | (x0, x1, x2, x3, x4) =>
  ac (decide (x0 < x1)) (
  ac (within x0 (List.length x2)) (
  Option.bind (x2[Int.toNat x0]?) fun y0 =>
  Option.bind (RN N (y0.1, y0.2.1, y0.2.2.1)) fun y1 =>
  ac (!y1) (
  Option.bind (f (IntKind.wrap .i64 (x0 + 1), x1, x2, x3, x4)) fun r => some r) (
  ac (y0.2.1 == 0) (
  ac (within y0.1 (List.length x3)) (
  Option.bind (x3[Int.toNat y0.1]?) fun y2 =>
  ac (within y0.1 (List.length x3)) (
  Option.bind (x3[Int.toNat y0.1]?) fun y3 =>
  Option.bind (f (IntKind.wrap .i64 (x0 + 1), x1, x2, List.set x3 (Int.toNat y0.1) (IntKind.wrap .i64 (y2 + 1)), x4)) fun r => some r) (
  none)) (
  none)) (
  Option.bind (J8 N y0.2.1) fun y4 =>
  Option.bind (J7 N y0.2.2.1) fun y5 =>
  ac (within y4.1 (List.length x3)) (
  Option.bind (x3[Int.toNat y4.1]?) fun y6 =>
  ac (within y4.1 (List.length x3)) (
  Option.bind (x3[Int.toNat y4.1]?) fun y7 =>
  ac (within y5.1 (List.length x4)) (
  Option.bind (x4[Int.toNat y5.1]?) fun y8 =>
  ac (within y5.1 (List.length x4)) (
  Option.bind (x4[Int.toNat y5.1]?) fun y9 =>
  Option.bind (f (IntKind.wrap .i64 (x0 + 1), x1, x2, List.set x3 (Int.toNat y4.1) (IntKind.wrap .i64 (y6 + 1)), List.set x4 (Int.toNat y5.1) (IntKind.wrap .i64 (y8 + 1)))) fun r => some r) (
  none)) (
  none)) (
  none)) (
  none)))) (
  none)) (
  some ((x3, x4)))
noncomputable def fQ (N : Nat) : Nat → Ap → Option zT
  | 0, _ => none
  | k + 1, x => sf N (fQ N k) x
theorem Gp (N : Nat) (k : Nat) : ap Tryz.prog Tryz.f66 [] 122 (AM.cut (fQ N k)) :=
  AM.loopT ah aB (BG N) Tryz.f66 [] (cuts := []) trivial (by decide +kernel) (by kernel_rfl) (sf N) (fQ N) (fun _ => rfl) (fun _ _ => rfl) (fun f x => by kernel_rfl) k
@[reducible] def w66 : List SP := [⟨[.tup [.sl 0, .sl 1]], [.row (.int .i64) 3, .row (.int .i64) 3]⟩]
noncomputable def QQ (N : Nat) : ((List (Int × (Int × (Int × Unit))))) → Option ((List Int) × (List Int))
  | x0 =>
  Option.bind (fQ N N ((0 : Int), (↑(List.length x0) : Int), x0, [(0 : Int), (0 : Int), (0 : Int), (0 : Int), (0 : Int), (0 : Int), (0 : Int), (0 : Int), (0 : Int), (0 : Int), (0 : Int), (0 : Int), (0 : Int), (0 : Int), (0 : Int), (0 : Int), (0 : Int), (0 : Int), (0 : Int), (0 : Int), (0 : Int), (0 : Int), (0 : Int), (0 : Int), (0 : Int), (0 : Int), (0 : Int), (0 : Int), (0 : Int), (0 : Int), (0 : Int), (0 : Int), (0 : Int), (0 : Int), (0 : Int), (0 : Int), (0 : Int), (0 : Int), (0 : Int), (0 : Int), (0 : Int), (0 : Int), (0 : Int), (0 : Int), (0 : Int), (0 : Int), (0 : Int), (0 : Int), (0 : Int), (0 : Int), (0 : Int), (0 : Int), (0 : Int), (0 : Int), (0 : Int), (0 : Int), (0 : Int), (0 : Int), (0 : Int), (0 : Int), (0 : Int), (0 : Int), (0 : Int), (0 : Int), (0 : Int), (0 : Int), (0 : Int), (0 : Int), (0 : Int), (0 : Int), (0 : Int), (0 : Int), (0 : Int), (0 : Int), (0 : Int), (0 : Int), (0 : Int), (0 : Int), (0 : Int), (0 : Int), (0 : Int), (0 : Int), (0 : Int), (0 : Int), (0 : Int), (0 : Int), (0 : Int), (0 : Int), (0 : Int), (0 : Int), (0 : Int), (0 : Int), (0 : Int), (0 : Int), (0 : Int), (0 : Int), (0 : Int), (0 : Int), (0 : Int), (0 : Int), (0 : Int), (0 : Int), (0 : Int), (0 : Int), (0 : Int), (0 : Int), (0 : Int), (0 : Int), (0 : Int), (0 : Int), (0 : Int), (0 : Int), (0 : Int), (0 : Int), (0 : Int), (0 : Int), (0 : Int), (0 : Int), (0 : Int), (0 : Int), (0 : Int), (0 : Int), (0 : Int), (0 : Int), (0 : Int), (0 : Int), (0 : Int), (0 : Int), (0 : Int), (0 : Int), (0 : Int), (0 : Int), (0 : Int), (0 : Int), (0 : Int), (0 : Int), (0 : Int), (0 : Int), (0 : Int), (0 : Int), (0 : Int), (0 : Int), (0 : Int), (0 : Int), (0 : Int), (0 : Int), (0 : Int), (0 : Int), (0 : Int), (0 : Int), (0 : Int), (0 : Int), (0 : Int), (0 : Int), (0 : Int), (0 : Int), (0 : Int), (0 : Int), (0 : Int), (0 : Int), (0 : Int), (0 : Int), (0 : Int), (0 : Int), (0 : Int), (0 : Int), (0 : Int), (0 : Int), (0 : Int), (0 : Int), (0 : Int), (0 : Int), (0 : Int), (0 : Int), (0 : Int), (0 : Int), (0 : Int), (0 : Int), (0 : Int), (0 : Int), (0 : Int), (0 : Int), (0 : Int), (0 : Int), (0 : Int), (0 : Int), (0 : Int), (0 : Int), (0 : Int), (0 : Int), (0 : Int), (0 : Int), (0 : Int), (0 : Int), (0 : Int), (0 : Int), (0 : Int), (0 : Int), (0 : Int), (0 : Int), (0 : Int), (0 : Int), (0 : Int), (0 : Int), (0 : Int), (0 : Int), (0 : Int), (0 : Int), (0 : Int), (0 : Int), (0 : Int), (0 : Int), (0 : Int), (0 : Int), (0 : Int), (0 : Int), (0 : Int), (0 : Int), (0 : Int), (0 : Int), (0 : Int), (0 : Int), (0 : Int), (0 : Int), (0 : Int), (0 : Int), (0 : Int), (0 : Int), (0 : Int), (0 : Int), (0 : Int), (0 : Int), (0 : Int), (0 : Int), (0 : Int), (0 : Int), (0 : Int), (0 : Int), (0 : Int), (0 : Int), (0 : Int), (0 : Int), (0 : Int), (0 : Int), (0 : Int), (0 : Int), (0 : Int), (0 : Int), (0 : Int), (0 : Int), (0 : Int), (0 : Int), (0 : Int), (0 : Int), (0 : Int), (0 : Int), (1 : Int), (0 : Int), (0 : Int), (0 : Int), (0 : Int), (0 : Int), (0 : Int), (0 : Int), (0 : Int), (0 : Int), (0 : Int), (0 : Int), (0 : Int), (0 : Int), (0 : Int), (0 : Int), (0 : Int), (0 : Int), (0 : Int), (0 : Int), (0 : Int), (0 : Int), (0 : Int), (0 : Int), (0 : Int), (0 : Int), (0 : Int), (0 : Int), (0 : Int), (0 : Int)], List.replicate (30 : Nat) (0 : Int))) fun y0 =>
  some ((y0.1, y0.2))
noncomputable def Yb (N : Nat) : Pk → Tr Pk := aj s66 w66 (QQ N)
theorem Nt (N : Nat) : aO Tryz.prog 66 (Yb N) :=
  (ag ah aB (BG N) Tryz.func66 s66 w66 [] (cuts := [(122, AM.cut (fQ N N))]) ⟨Gp N N, trivial⟩ (fun _ => by kernel_rfl) (by kernel_rfl) (QQ N) (fun x => by kernel_rfl))
@[reducible] def s102 : SP := ⟨[.ro y2, .ro (.int .i64)], []⟩
noncomputable def S1 (N : Nat) : au := []
theorem xo (N : Nat) : ai Tryz.prog (S1 N) := trivial
@[reducible] def AZ : LD := ⟨26, [8, 7, 0, 9], [(.ret, [4]), (.exit 0, [])], ⟨[.int .i64, .ro (.int .i64), .ro y2, .int .i64], []⟩, [(.ret, ⟨[.bool], []⟩), (.exit 0, ⟨[], []⟩)]⟩
abbrev AF : Type := Int × (List Int) × (List (Int × (Int × Unit))) × Int
abbrev Ah : Type := ((Bool) ⊕ (Unit))
noncomputable def so (N : Nat) (f : AF → Option Ah) : AF → Option Ah
  | (x0, x1, x2, x3) =>
  ac (decide (x3 < x0)) (
  ac (within x3 (List.length x1)) (
  Option.bind (x1[Int.toNat x3]?) fun y0 =>
  ac (decide (y0 > 0)) (
  ac (decide (x3 ≥ (↑(List.length x2) : Int))) (
  some (.inl (false))) (
  ac (within x3 (List.length x2)) (
  Option.bind (x2[Int.toNat x3]?) fun y1 =>
  ac (y1.2.1 == 0) (
  some (.inl (false))) (
  Option.bind (f (x0, x1, x2, IntKind.wrap .i64 (x3 + 1))) fun r => match r with | .inl y => some (.inl y) | .inr y => some (.inr y))) (
  none))) (
  Option.bind (f (x0, x1, x2, IntKind.wrap .i64 (x3 + 1))) fun r => match r with | .inl y => some (.inl y) | .inr y => some (.inr y))) (
  none)) (
  some (.inr (())))
noncomputable def fU (N : Nat) : Nat → AF → Option Ah
  | 0, _ => none
  | k + 1, x => so N (fU N k) x
theorem GA (N : Nat) (k : Nat) : ap Tryz.prog Tryz.f102 [] 26 (AZ.cut (fU N k)) :=
  AZ.loopT ah aB (xo N) Tryz.f102 [] (cuts := []) trivial (by decide +kernel) (by kernel_rfl) (so N) (fU N) (fun _ => rfl) (fun _ _ => rfl) (fun f x => by kernel_rfl) k
@[reducible] def w102 : List SP := [⟨[.bool], []⟩]
noncomputable def Ka (N : Nat) : ((List (Int × (Int × Unit))) × (List Int)) → Option (Bool)
  | (x0, x1) =>
  Option.bind (fU N N ((↑(List.length x1) : Int), x1, x0, (0 : Int))) fun y0 =>
  match y0 with
  | .inl y1 =>
  some (y1)
  | .inr y1 =>
  some (true)
noncomputable def Xi (N : Nat) : Pk → Tr Pk := aj s102 w102 (Ka N)
theorem QC (N : Nat) : aO Tryz.prog 102 (Xi N) :=
  (ag ah aB (xo N) Tryz.func102 s102 w102 [] (cuts := [(26, AZ.cut (fU N N))]) ⟨GA N N, trivial⟩ (fun _ => by kernel_rfl) (by kernel_rfl) (Ka N) (fun x => by kernel_rfl))
@[reducible] def s156 : SP := ⟨[.int .u64], []⟩
noncomputable def Sf (N : Nat) : au := []
theorem H5 (N : Nat) : ai Tryz.prog (Sf N) := trivial
@[reducible] def w156 : List SP := [⟨[.int .u64], []⟩]
noncomputable def Q1 (N : Nat) : (Int) → Option (Int)
  | x0 =>
  some (IntKind.wrap .u64 (↑(BitVec.toNat (BitVec.ofInt (64 : Nat) (Int.fdiv (IntKind.wrap .u64 (↑(BitVec.toNat (BitVec.ofInt (64 : Nat) (IntKind.wrap .u64 (↑(BitVec.toNat (BitVec.ofInt (64 : Nat) (Int.fdiv (IntKind.wrap .u64 (↑(BitVec.toNat (BitVec.ofInt (64 : Nat) (IntKind.wrap .u64 (↑(BitVec.toNat (BitVec.ofInt (64 : Nat) (Int.fdiv x0 (256 : Int)) &&& BitVec.ofInt (64 : Nat) (71777214294589695 : Int))) : Int)) ||| BitVec.ofInt (64 : Nat) (IntKind.wrap .u64 (IntKind.wrap .u64 (↑(BitVec.toNat (BitVec.ofInt (64 : Nat) x0 &&& BitVec.ofInt (64 : Nat) (71777214294589695 : Int))) : Int) * (256 : Int))))) : Int)) (65536 : Int)) &&& BitVec.ofInt (64 : Nat) (281470681808895 : Int))) : Int)) ||| BitVec.ofInt (64 : Nat) (IntKind.wrap .u64 (IntKind.wrap .u64 (↑(BitVec.toNat (BitVec.ofInt (64 : Nat) (IntKind.wrap .u64 (↑(BitVec.toNat (BitVec.ofInt (64 : Nat) (IntKind.wrap .u64 (↑(BitVec.toNat (BitVec.ofInt (64 : Nat) (Int.fdiv x0 (256 : Int)) &&& BitVec.ofInt (64 : Nat) (71777214294589695 : Int))) : Int)) ||| BitVec.ofInt (64 : Nat) (IntKind.wrap .u64 (IntKind.wrap .u64 (↑(BitVec.toNat (BitVec.ofInt (64 : Nat) x0 &&& BitVec.ofInt (64 : Nat) (71777214294589695 : Int))) : Int) * (256 : Int))))) : Int)) &&& BitVec.ofInt (64 : Nat) (281470681808895 : Int))) : Int) * (65536 : Int))))) : Int)) (4294967296 : Int)) ||| BitVec.ofInt (64 : Nat) (IntKind.wrap .u64 (IntKind.wrap .u64 (↑(BitVec.toNat (BitVec.ofInt (64 : Nat) (IntKind.wrap .u64 (↑(BitVec.toNat (BitVec.ofInt (64 : Nat) (Int.fdiv (IntKind.wrap .u64 (↑(BitVec.toNat (BitVec.ofInt (64 : Nat) (IntKind.wrap .u64 (↑(BitVec.toNat (BitVec.ofInt (64 : Nat) (Int.fdiv x0 (256 : Int)) &&& BitVec.ofInt (64 : Nat) (71777214294589695 : Int))) : Int)) ||| BitVec.ofInt (64 : Nat) (IntKind.wrap .u64 (IntKind.wrap .u64 (↑(BitVec.toNat (BitVec.ofInt (64 : Nat) x0 &&& BitVec.ofInt (64 : Nat) (71777214294589695 : Int))) : Int) * (256 : Int))))) : Int)) (65536 : Int)) &&& BitVec.ofInt (64 : Nat) (281470681808895 : Int))) : Int)) ||| BitVec.ofInt (64 : Nat) (IntKind.wrap .u64 (IntKind.wrap .u64 (↑(BitVec.toNat (BitVec.ofInt (64 : Nat) (IntKind.wrap .u64 (↑(BitVec.toNat (BitVec.ofInt (64 : Nat) (IntKind.wrap .u64 (↑(BitVec.toNat (BitVec.ofInt (64 : Nat) (Int.fdiv x0 (256 : Int)) &&& BitVec.ofInt (64 : Nat) (71777214294589695 : Int))) : Int)) ||| BitVec.ofInt (64 : Nat) (IntKind.wrap .u64 (IntKind.wrap .u64 (↑(BitVec.toNat (BitVec.ofInt (64 : Nat) x0 &&& BitVec.ofInt (64 : Nat) (71777214294589695 : Int))) : Int) * (256 : Int))))) : Int)) &&& BitVec.ofInt (64 : Nat) (281470681808895 : Int))) : Int) * (65536 : Int))))) : Int) * (4294967296 : Int))))) : Int))
noncomputable def WL (N : Nat) : Pk → Tr Pk := aj s156 w156 (Q1 N)
theorem PV (N : Nat) : aO Tryz.prog 156 (WL N) :=
  (ag ah aB (H5 N) Tryz.func156 s156 w156 [] (cuts := []) trivial (fun _ => by kernel_rfl) (by kernel_rfl) (Q1 N) (fun x => by kernel_rfl))
@[reducible] def s128 : SP := ⟨[.int .u64], []⟩
noncomputable def SD (N : Nat) : au := [(156, WL N)]
theorem Iq (N : Nat) : ai Tryz.prog (SD N) := ⟨PV N, trivial⟩
@[reducible] def w128 : List SP := [⟨[.int .u64], []⟩]
noncomputable def Oq (N : Nat) : (Int) → Option (Int)
  | x0 =>
  Option.bind (Q1 N (IntKind.wrap .u64 (↑(BitVec.toNat (BitVec.ofInt (64 : Nat) (IntKind.wrap .u64 (↑(BitVec.toNat (BitVec.ofInt (64 : Nat) (Int.fdiv (IntKind.wrap .u64 (↑(BitVec.toNat (BitVec.ofInt (64 : Nat) (IntKind.wrap .u64 (↑(BitVec.toNat (BitVec.ofInt (64 : Nat) (Int.fdiv (IntKind.wrap .u64 (↑(BitVec.toNat (BitVec.ofInt (64 : Nat) (IntKind.wrap .u64 (↑(BitVec.toNat (BitVec.ofInt (64 : Nat) (Int.fdiv x0 (2 : Int)) &&& BitVec.ofInt (64 : Nat) (6148914691236517205 : Int))) : Int)) ||| BitVec.ofInt (64 : Nat) (IntKind.wrap .u64 (IntKind.wrap .u64 (↑(BitVec.toNat (BitVec.ofInt (64 : Nat) x0 &&& BitVec.ofInt (64 : Nat) (6148914691236517205 : Int))) : Int) * (2 : Int))))) : Int)) (4 : Int)) &&& BitVec.ofInt (64 : Nat) (3689348814741910323 : Int))) : Int)) ||| BitVec.ofInt (64 : Nat) (IntKind.wrap .u64 (IntKind.wrap .u64 (↑(BitVec.toNat (BitVec.ofInt (64 : Nat) (IntKind.wrap .u64 (↑(BitVec.toNat (BitVec.ofInt (64 : Nat) (IntKind.wrap .u64 (↑(BitVec.toNat (BitVec.ofInt (64 : Nat) (Int.fdiv x0 (2 : Int)) &&& BitVec.ofInt (64 : Nat) (6148914691236517205 : Int))) : Int)) ||| BitVec.ofInt (64 : Nat) (IntKind.wrap .u64 (IntKind.wrap .u64 (↑(BitVec.toNat (BitVec.ofInt (64 : Nat) x0 &&& BitVec.ofInt (64 : Nat) (6148914691236517205 : Int))) : Int) * (2 : Int))))) : Int)) &&& BitVec.ofInt (64 : Nat) (3689348814741910323 : Int))) : Int) * (4 : Int))))) : Int)) (16 : Int)) &&& BitVec.ofInt (64 : Nat) (1085102592571150095 : Int))) : Int)) ||| BitVec.ofInt (64 : Nat) (IntKind.wrap .u64 (IntKind.wrap .u64 (↑(BitVec.toNat (BitVec.ofInt (64 : Nat) (IntKind.wrap .u64 (↑(BitVec.toNat (BitVec.ofInt (64 : Nat) (IntKind.wrap .u64 (↑(BitVec.toNat (BitVec.ofInt (64 : Nat) (Int.fdiv (IntKind.wrap .u64 (↑(BitVec.toNat (BitVec.ofInt (64 : Nat) (IntKind.wrap .u64 (↑(BitVec.toNat (BitVec.ofInt (64 : Nat) (Int.fdiv x0 (2 : Int)) &&& BitVec.ofInt (64 : Nat) (6148914691236517205 : Int))) : Int)) ||| BitVec.ofInt (64 : Nat) (IntKind.wrap .u64 (IntKind.wrap .u64 (↑(BitVec.toNat (BitVec.ofInt (64 : Nat) x0 &&& BitVec.ofInt (64 : Nat) (6148914691236517205 : Int))) : Int) * (2 : Int))))) : Int)) (4 : Int)) &&& BitVec.ofInt (64 : Nat) (3689348814741910323 : Int))) : Int)) ||| BitVec.ofInt (64 : Nat) (IntKind.wrap .u64 (IntKind.wrap .u64 (↑(BitVec.toNat (BitVec.ofInt (64 : Nat) (IntKind.wrap .u64 (↑(BitVec.toNat (BitVec.ofInt (64 : Nat) (IntKind.wrap .u64 (↑(BitVec.toNat (BitVec.ofInt (64 : Nat) (Int.fdiv x0 (2 : Int)) &&& BitVec.ofInt (64 : Nat) (6148914691236517205 : Int))) : Int)) ||| BitVec.ofInt (64 : Nat) (IntKind.wrap .u64 (IntKind.wrap .u64 (↑(BitVec.toNat (BitVec.ofInt (64 : Nat) x0 &&& BitVec.ofInt (64 : Nat) (6148914691236517205 : Int))) : Int) * (2 : Int))))) : Int)) &&& BitVec.ofInt (64 : Nat) (3689348814741910323 : Int))) : Int) * (4 : Int))))) : Int)) &&& BitVec.ofInt (64 : Nat) (1085102592571150095 : Int))) : Int) * (16 : Int))))) : Int))) fun y0 =>
  some (y0)
noncomputable def W5 (N : Nat) : Pk → Tr Pk := aj s128 w128 (Oq N)
theorem Qp (N : Nat) : aO Tryz.prog 128 (W5 N) :=
  (ag ah aB (Iq N) Tryz.func128 s128 w128 [] (cuts := []) trivial (fun _ => by kernel_rfl) (by kernel_rfl) (Oq N) (fun x => by kernel_rfl))
@[reducible] def s98 : SP := ⟨[.agg [.int .i64, .int .i64]], []⟩
noncomputable def U0 (N : Nat) : au := [(44, XG N), (45, Yl N), (128, W5 N)]
theorem KO (N : Nat) : ai Tryz.prog (U0 N) := ⟨E4 N, ND N, Qp N, trivial⟩
@[reducible] def w98 : List SP := [⟨[.int .i64], []⟩]
noncomputable def Xm (N : Nat) : (Int × Int) → Option (Int)
  | (x0, x1) =>
  Option.bind (UT N x1) fun y0 =>
  Option.bind (Xv N (y0, x0)) fun y1 =>
  Option.bind (Oq N (IntKind.wrap .u64 y1)) fun y2 =>
  ac (decide (IntKind.wrap .i64 ((64 : Int) - y0) < 0)) (
  none) (
  some (IntKind.wrap .i64 (Int.fdiv y2 ((2 : Int) ^ min (Int.toNat (IntKind.wrap .i64 ((64 : Int) - y0))) (64 : Nat)))))
noncomputable def YB (N : Nat) : Pk → Tr Pk := aj s98 w98 (Xm N)
theorem Tw (N : Nat) : aO Tryz.prog 98 (YB N) :=
  (ag ah aB (KO N) Tryz.func98 s98 w98 [] (cuts := []) trivial (fun _ => by kernel_rfl) (by kernel_rfl) (Xm N) (fun x => by kernel_rfl))
@[reducible] def s59 : SP := ⟨[.adr 0 [], .agg [.int .i64, .int .i64]], [.var (.agg [.sl 1, .int .i64, .int .i64]), .row (.int .u8) 5]⟩
noncomputable def Vr (N : Nat) : au := [(98, YB N), (14, Ue N)]
theorem K6 (N : Nat) : ai Tryz.prog (Vr N) := ⟨Tw N, qi N, trivial⟩
@[reducible] def w59 : List SP := [⟨[.tup []], [.var (.agg [.sl 1, .int .i64, .int .i64]), .row (.int .u8) 5]⟩]
noncomputable def QR (N : Nat) : (Int × Int × Int × Int × (List Int)) → Option (Int × Int × (List Int))
  | (x0, x1, x2, x3, x4) =>
  Option.bind (Xm N (x0, x1)) fun y0 =>
  Option.bind (vU N (x1, y0, x2, x3, x4)) fun y1 =>
  some ((y1.1, y1.2.1, y1.2.2))
noncomputable def Yd (N : Nat) : Pk → Tr Pk := aj s59 w59 (QR N)
theorem Nv (N : Nat) : aO Tryz.prog 59 (Yd N) :=
  (ag ah aB (K6 N) Tryz.func59 s59 w59 [0] (cuts := []) trivial (fun _ => by kernel_rfl) (by kernel_rfl) (QR N) (fun x => by kernel_rfl))
@[reducible] def s65 : SP := ⟨[.adr 0 [], .ro (.int .i64), .ro (.int .i64), .ro y0], [.var (.agg [.sl 1, .int .i64, .int .i64]), .row (.int .u8) 5]⟩
noncomputable def Vp (N : Nat) : au := [(27, Wx N), (57, Yf N), (66, Yb N), (102, Xi N), (59, Yd N), (103, Ul N), (14, Ue N), (104, Uk N)]
theorem sx (N : Nat) : ai Tryz.prog (Vp N) := ⟨zL N, Nx N, Nt N, QC N, Nv N, Hw N, qi N, Hv N, trivial⟩
@[reducible] def AN : LD := ⟨26, [23, 3, 0, 2, 1, 22, 24], [(.ret, [8]), (.exit 0, [1, 2, 0, 3])], ⟨[.int .i64, .ro y0, .adr 0 [], .ro (.int .i64), .ro (.int .i64), .ro y0, .int .i64], [.var (.agg [.sl 1, .int .i64, .int .i64]), .row (.int .u8) 5]⟩, [(.ret, ⟨[.int .i64], [.var (.agg [.sl 1, .int .i64, .int .i64]), .row (.int .u8) 5]⟩), (.exit 0, ⟨[.ro (.int .i64), .ro (.int .i64), .adr 0 [], .ro y0], [.var (.agg [.sl 1, .int .i64, .int .i64]), .row (.int .u8) 5]⟩)]⟩
abbrev Fw : Type := Int × (List (Int × (Int × (Int × Unit)))) × (List Int) × (List Int) × (List (Int × (Int × (Int × Unit)))) × Int × Int × Int × (List Int)
abbrev Fe : Type := ((Int × Int × Int × (List Int)) ⊕ ((List Int) × (List Int) × (List (Int × (Int × (Int × Unit)))) × Int × Int × (List Int)))
noncomputable def Bg (N : Nat) (f : Fw → Option Fe) : Fw → Option Fe
  | (x0, x1, x2, x3, x4, x5, x6, x7, x8) =>
  ac (decide (x5 < x0)) (
  ac (within x5 (List.length x4)) (
  Option.bind (x4[Int.toNat x5]?) fun y0 =>
  Option.bind (RN N (y0.1, y0.2.1, y0.2.2.1)) fun y1 =>
  ac (!y1) (
  some (.inl (((1 : Int), x6, x7, x8)))) (
  Option.bind (f (x0, x1, x2, x3, x4, IntKind.wrap .i64 (x5 + 1), x6, x7, x8)) fun r => match r with | .inl y => some (.inl y) | .inr y => some (.inr y))) (
  none)) (
  some (.inr ((x3, x2, x1, x6, x7, x8))))
noncomputable def ix (N : Nat) : Nat → Fw → Option Fe
  | 0, _ => none
  | k + 1, x => Bg N (ix N k) x
theorem yz (N : Nat) (k : Nat) : ap Tryz.prog Tryz.f65 [0] 26 (AN.cut (ix N k)) :=
  AN.loopT ah aB (sx N) Tryz.f65 [0] (cuts := []) trivial (by decide +kernel) (by kernel_rfl) (Bg N) (ix N) (fun _ => rfl) (fun _ _ => rfl) (fun f x => by kernel_rfl) k
@[reducible] def vg : LD := ⟨1018, [67, 66, 65, 13, 0, 11], [(.ret, [8]), (.exit 2, [0, 11])], ⟨[.int .i64, .int .i64, .ro y0, .sl 1, .adr 0 [], .sl 2], [.var (.agg [.sl 3, .int .i64, .int .i64]), .row y2 105, .row y2 105, .row (.int .u8) 5]⟩, [(.exit 2, ⟨[.adr 0 [], .sl 1], [.var (.agg [.sl 2, .int .i64, .int .i64]), .row y2 105, .row (.int .u8) 5]⟩)]⟩
abbrev uQ : Type := Int × Int × (List (Int × (Int × (Int × Unit)))) × Int × Int × (List (Int × (Int × Unit))) × (List (Int × (Int × Unit))) × (List Int)
abbrev uu : Type := Int × Int × (List (Int × (Int × Unit))) × (List Int)
noncomputable def pj (N : Nat) (f : uQ → Option uu) : uQ → Option uu
  | (x0, x1, x2, x3, x4, x5, x6, x7) =>
  ac (decide (x0 < x1)) (
  ac (within x0 (List.length x2)) (
  Option.bind (x2[Int.toNat x0]?) fun y0 =>
  ac (y0.2.1 == 0) (
  ac (within y0.1 (List.length x6)) (
  Option.bind (x6[Int.toNat y0.1]?) fun y1 =>
  Option.bind (QR N (y1.1, y1.2.1, x3, x4, x7)) fun y2 =>
  Option.bind (f (IntKind.wrap .i64 (x0 + 1), x1, x2, y2.1, y2.2.1, x5, x6, y2.2.2)) fun r => some r) (
  none)) (
  Option.bind (J8 N y0.2.1) fun y3 =>
  ac (within y3.1 (List.length x6)) (
  Option.bind (x6[Int.toNat y3.1]?) fun y4 =>
  Option.bind (QR N (y4.1, y4.2.1, x3, x4, x7)) fun y5 =>
  Option.bind (vU N (y3.2.2, y3.2.1, y5.1, y5.2.1, y5.2.2)) fun y6 =>
  Option.bind (J7 N y0.2.2.1) fun y7 =>
  ac (within y7.1 (List.length x5)) (
  Option.bind (x5[Int.toNat y7.1]?) fun y8 =>
  Option.bind (QR N (y8.1, y8.2.1, y6.1, y6.2.1, y6.2.2)) fun y9 =>
  Option.bind (vU N (y7.2.2, y7.2.1, y9.1, y9.2.1, y9.2.2)) fun y10 =>
  Option.bind (f (IntKind.wrap .i64 (x0 + 1), x1, x2, y10.1, y10.2.1, x5, x6, y10.2.2)) fun r => some r) (
  none)) (
  none))) (
  none)) (
  some ((x3, x4, x6, x7)))
noncomputable def fj (N : Nat) : Nat → uQ → Option uu
  | 0, _ => none
  | k + 1, x => pj N (fj N k) x
theorem Dy (N : Nat) (k : Nat) : ap Tryz.prog Tryz.f65 [0] 1018 (vg.cut (fj N k)) :=
  vg.loopT ah aB (sx N) Tryz.f65 [0] (cuts := [(26, AN.cut (ix N N))]) ⟨yz N N, trivial⟩ (by decide +kernel) (by kernel_rfl) (pj N) (fj N) (fun _ => rfl) (fun _ _ => rfl) (fun f x => by kernel_rfl) k
@[reducible] def w65 : List SP := [⟨[.int .i64], [.var (.agg [.sl 1, .int .i64, .int .i64]), .row (.int .u8) 5]⟩]
noncomputable def UQ (N : Nat) : ((List Int) × (List Int) × (List (Int × (Int × (Int × Unit)))) × Int × Int × (List Int)) → Option (Int × Int × Int × (List Int))
  | (x0, x1, x2, x3, x4, x5) =>
  Option.bind (ix N N ((↑(List.length x2) : Int), x2, x1, x0, x2, (0 : Int), x3, x4, x5)) fun y0 =>
  match y0 with
  | .inl y1 =>
  some ((y1.1, y1.2.1, y1.2.2.1, y1.2.2.2))
  | .inr y1 =>
  Option.bind (RF N y1.1) fun y2 =>
  Option.bind (RF N y1.2.1) fun y3 =>
  Option.bind (QQ N y1.2.2.1) fun y4 =>
  ac (y2.1 != 0) (
  some (((50 : Int), y1.2.2.2.1, y1.2.2.2.2.1, y1.2.2.2.2.2))) (
  ac (y3.1 != 0) (
  some (((50 : Int), y1.2.2.2.1, y1.2.2.2.2.1, y1.2.2.2.2.2))) (
  Option.bind (Ka N (y2.2, y4.1)) fun y5 =>
  ac (!y5) (
  some (((50 : Int), y1.2.2.2.1, y1.2.2.2.2.1, y1.2.2.2.2.2))) (
  Option.bind (Ka N (y3.2, y4.2)) fun y6 =>
  ac (!y6) (
  some (((50 : Int), y1.2.2.2.1, y1.2.2.2.2.1, y1.2.2.2.2.2))) (
  Option.bind (fj N N ((0 : Int), (↑(List.length y1.2.2.1) : Int), y1.2.2.1, y1.2.2.2.1, y1.2.2.2.2.1, y3.2, y2.2, y1.2.2.2.2.2)) fun y7 =>
  ac (within (256 : Int) (List.length y7.2.2.1)) (
  Option.bind (y7.2.2.1[(256 : Nat)]?) fun y8 =>
  Option.bind (QR N (y8.1, y8.2.1, y7.1, y7.2.1, y7.2.2.2)) fun y9 =>
  some (((0 : Int), y9.1, y9.2.1, y9.2.2))) (
  none)))))
noncomputable def YN (N : Nat) : Pk → Tr Pk := aj s65 w65 (UQ N)
theorem TK (N : Nat) : aO Tryz.prog 65 (YN N) :=
  (ag ah aB (sx N) Tryz.func65 s65 w65 [0] (cuts := [(26, AN.cut (ix N N)), (1018, vg.cut (fj N N))]) ⟨yz N N, Dy N N, trivial⟩ (fun _ => by kernel_rfl) (by kernel_rfl) (UQ N) (fun x => by kernel_rfl))
@[reducible] def s153 : SP := ⟨[.nilsl, .int .i64], []⟩
noncomputable def Si (N : Nat) : au := []
theorem H7 (N : Nat) : ai Tryz.prog (Si N) := trivial
@[reducible] def y3 : Ty := (.cons (.int .i64) (.cons (.sl (.int .i64)) .unit))
@[reducible] def w153 : List SP := [⟨[.slp 0 (.c 0) (.c 0)], [.row y3 137]⟩, ⟨[.sl 0], [.row y3 137]⟩]
noncomputable def JN (N : Nat) : (Int) → Option ((((List (Int × ((List Int) × Unit)))) ⊕ ((List (Int × ((List Int) × Unit))))))
  | x0 =>
  ac (decide (x0 < 0)) (
  none) (
  ac (decide (IntKind.wrap .i64 (x0 - 0) > 0)) (
  ac (decide ((0 : Int) < IntKind.wrap .i64 (x0 - 0) ∧ IntKind.wrap .i64 (x0 - 0) * 32 ≤ (140737488355328 : Int) ∧ IntKind.wrap .i64 (x0 - 0) ≤ 140737488355328)) (
  ac (decide ((0 : Int) ≤ (0 : Int) ∧ (0 : Int) ≤ (↑(List.length (List.replicate (Int.toNat (IntKind.wrap .i64 (x0 - 0))) ((0 : Int), V6 (Ty.den (Ty.int IntKind.i64)), ()))) : Int))) (
  some (.inl (List.replicate (Int.toNat (IntKind.wrap .i64 (x0 - 0))) ((0 : Int), V6 (Ty.den (Ty.int IntKind.i64)), ())))) (
  none)) (
  none)) (
  some (.inr ([]))))
noncomputable def WO (N : Nat) : Pk → Tr Pk := tn (GH (Ty.cons (Ty.int IntKind.i64) (Ty.cons (Ty.sl (Ty.int IntKind.i64)) (Ty.unit))) 137) (aj s153 w153 (JN N))
theorem PY (N : Nat) : aO Tryz.prog 153 (WO N) :=
  kI (Bv _ _) (ag ah aB (H7 N) Tryz.func153 s153 w153 [] (cuts := []) trivial (fun _ => by kernel_rfl) (by kernel_rfl) (JN N) (fun x => by kernel_rfl))
@[reducible] def y4 : Ty := (.sl (.cons (.int .i64) (.cons (.sl (.int .i64)) .unit)))
@[reducible] def s124 : SP := ⟨[.sl 0], [.row y4 133]⟩
noncomputable def SG (N : Nat) : au := [(153, WO N)]
theorem pG (N : Nat) : ai Tryz.prog (SG N) := ⟨PY N, trivial⟩
@[reducible] def r8 : LD := ⟨58, [3, 11, 10, 0, 9], [(.ret, [2]), (.exit 0, [3, 0])], ⟨[.int .i64, .int .i64, .int .i64, .sl 0, .sl 0], [.row y4 133]⟩, [(.exit 0, ⟨[.int .i64, .sl 0], [.row y4 133]⟩)]⟩
abbrev AD : Type := Int × Int × Int × (List (List (Int × ((List Int) × Unit))))
abbrev Af : Type := Int × (List (List (Int × ((List Int) × Unit))))
noncomputable def Bn (N : Nat) (f : AD → Option Af) : AD → Option Af
  | (x0, x1, x2, x3) =>
  ac (decide (x1 < x2)) (
  ac (within x1 (List.length x3)) (
  Option.bind (x3[Int.toNat x1]?) fun y0 =>
  ac (decide (IntKind.wrap .i64 (x0 + (↑(List.length y0) : Int)) < 0)) (
  none) (
  Option.bind (f (IntKind.wrap .i64 (x0 + (↑(List.length y0) : Int)), IntKind.wrap .i64 (x1 + 1), x2, x3)) fun r => some r)) (
  none)) (
  some ((x0, x3)))
noncomputable def ie (N : Nat) : Nat → AD → Option Af
  | 0, _ => none
  | k + 1, x => Bn N (ie N k) x
theorem v7 (N : Nat) (k : Nat) : ap Tryz.prog Tryz.f124 [] 58 (r8.cut (ie N k)) :=
  r8.loopT ah aB (pG N) Tryz.f124 [] (cuts := []) trivial (by decide +kernel) (by kernel_rfl) (Bn N) (ie N) (fun _ => rfl) (fun _ _ => rfl) (fun f x => by kernel_rfl) k
@[reducible] def vz : LD := ⟨250, [6, 27, 26, 25], [(.ret, [2]), (.exit 2, [6])], ⟨[.sl 0, .int .i64, .int .i64, .sl 1], [.row y3 137, .row y4 133]⟩, [(.exit 2, ⟨[.sl 0], [.row y3 137]⟩)]⟩
abbrev u7 : Type := Int × Int × (List (Int × ((List Int) × Unit))) × (List (List (Int × ((List Int) × Unit))))
abbrev uJ : Type := (List (Int × ((List Int) × Unit)))
noncomputable def wl (N : Nat) (f : u7 → Option uJ) : u7 → Option uJ
  | (x0, x1, x2, x3) =>
  ac (decide (x0 < x1)) (
  ac (within x0 (List.length x3)) (
  Option.bind (x3[Int.toNat x0]?) fun y0 =>
  ac (decide ((List.length x2 + List.length y0) * 32 ≤ (140737488355328 : Nat) ∧ List.length x2 + List.length y0 ≤ 140737488355328)) (
  Option.bind (f (IntKind.wrap .i64 (x0 + 1), x1, x2 ++ y0, x3)) fun r => some r) (
  none)) (
  none)) (
  some (x2))
noncomputable def fv (N : Nat) : Nat → u7 → Option uJ
  | 0, _ => none
  | k + 1, x => wl N (fv N k) x
theorem DN (N : Nat) (k : Nat) : ap Tryz.prog Tryz.f124 [] 250 (vz.cut (fv N k)) :=
  vz.loopT ah aB (pG N) Tryz.f124 [] (cuts := [(58, r8.cut (ie N N))]) ⟨v7 N N, trivial⟩ (by decide +kernel) (by kernel_rfl) (wl N) (fv N) (fun _ => rfl) (fun _ _ => rfl) (fun f x => by kernel_rfl) k
@[reducible] def w124 : List SP := [⟨[.sl 0], [.row y3 137]⟩]
noncomputable def Ou (N : Nat) : ((List (List (Int × ((List Int) × Unit))))) → Option ((List (Int × ((List Int) × Unit))))
  | x0 =>
  Option.bind (ie N N ((0 : Int), (0 : Int), (↑(List.length x0) : Int), x0)) fun y0 =>
  Option.bind (JN N y0.1) fun y1 =>
  match y1 with
  | .inl y2 =>
  Option.bind (fv N N ((0 : Int), (↑(List.length y0.2) : Int), [], y0.2)) fun y3 =>
  some (y3)
  | .inr y2 =>
  Option.bind (fv N N ((0 : Int), (↑(List.length y0.2) : Int), y2, y0.2)) fun y4 =>
  some (y4)
noncomputable def W8 (N : Nat) : Pk → Tr Pk := aj s124 w124 (Ou N)
theorem Qs (N : Nat) : aO Tryz.prog 124 (W8 N) :=
  (ag ah aB (pG N) Tryz.func124 s124 w124 [] (cuts := [(58, r8.cut (ie N N)), (250, vz.cut (fv N N))]) ⟨v7 N N, DN N N, trivial⟩ (fun _ => by kernel_rfl) (by kernel_rfl) (Ou N) (fun x => by kernel_rfl))
@[reducible] def s155 : SP := ⟨[.int .i64], []⟩
noncomputable def Sg (N : Nat) : au := []
theorem H6 (N : Nat) : ai Tryz.prog (Sg N) := trivial
@[reducible] def w155 : List SP := [⟨[.bool], []⟩]
noncomputable def JL (N : Nat) : (Int) → Option (Bool)
  | x0 =>
  some (x0 != x0)
noncomputable def WM (N : Nat) : Pk → Tr Pk := aj s155 w155 (JL N)
theorem PW (N : Nat) : aO Tryz.prog 155 (WM N) :=
  (ag ah aB (H6 N) Tryz.func155 s155 w155 [] (cuts := []) trivial (fun _ => by kernel_rfl) (by kernel_rfl) (JL N) (fun x => by kernel_rfl))
@[reducible] def s127 : SP := ⟨[.int .i64, .int .i64], []⟩
noncomputable def SE (N : Nat) : au := [(155, WM N)]
theorem Ir (N : Nat) : ai Tryz.prog (SE N) := ⟨PW N, trivial⟩
@[reducible] def w127 : List SP := [⟨[.int .i64], []⟩]
noncomputable def Q4 (N : Nat) : (Int × Int) → Option (Int)
  | (x0, x1) =>
  Option.bind (JL N x0) fun y0 =>
  Option.bind (JL N x1) fun y1 =>
  ac (y0) (
  ac (y1) (
  some ((0 : Int))) (
  some ((-1 : Int)))) (
  ac (y1) (
  some ((1 : Int))) (
  ac (decide (x0 < x1)) (
  some ((-1 : Int))) (
  ac (decide (x0 > x1)) (
  some ((1 : Int))) (
  some ((0 : Int))))))
noncomputable def W6 (N : Nat) : Pk → Tr Pk := aj s127 w127 (Q4 N)
theorem Qq (N : Nat) : aO Tryz.prog 127 (W6 N) :=
  (ag ah aB (Ir N) Tryz.func127 s127 w127 [] (cuts := []) trivial (fun _ => by kernel_rfl) (by kernel_rfl) (Q4 N) (fun x => by kernel_rfl))
@[reducible] def s126 : SP := ⟨[.agg [.int .i64, .ro (.int .i64)], .agg [.int .i64, .ro (.int .i64)]], []⟩
noncomputable def SF (N : Nat) : au := [(127, W6 N)]
theorem Is (N : Nat) : ai Tryz.prog (SF N) := ⟨Qq N, trivial⟩
@[reducible] def w126 : List SP := [⟨[.int .i64], []⟩]
noncomputable def Dr (N : Nat) : (Int × (List Int) × Int × (List Int)) → Option (Int)
  | (x0, x1, x2, x3) =>
  Option.bind (Q4 N (x0, x2)) fun y0 =>
  some (y0)
noncomputable def E6 (N : Nat) : Pk → Tr Pk := aj s126 w126 (Dr N)
theorem mh (N : Nat) : aO Tryz.prog 126 (E6 N) :=
  (ag ah aB (Is N) Tryz.func126 s126 w126 [] (cuts := []) trivial (fun _ => by kernel_rfl) (by kernel_rfl) (Dr N) (fun x => by kernel_rfl))
@[reducible] def s168a : SP := ⟨[.slp 0 .h .h, .int .i64, .int .i64, .fn 126], [.row y3 137]⟩
noncomputable def OU (N : Nat) : au := [(126, E6 N)]
theorem mY (N : Nat) : ai Tryz.prog (OU N) := ⟨mh N, trivial⟩
@[reducible] def mi : LD := ⟨402, [9, 3, 1, 2, 8, 0], [(.ret, []), (.exit 2, [8, 2, 1, 3, 0]), (.exit 1, [8, 2, 1, 3, 0]), (.exit 0, [])], ⟨[.int .i64, .fn 126, .int .i64, .int .i64, .int .i64, .slp 0 .h .h], [.row y3 137]⟩, [(.exit 2, ⟨[.int .i64, .int .i64, .int .i64, .fn 126, .slp 0 .h .h], [.row y3 137]⟩)]⟩
abbrev qz : Type := Int × Int × Int × Int × Nat × Nat × (List (Int × ((List Int) × Unit)))
abbrev qn : Type := Int × Int × Int × Nat × Nat × (List (Int × ((List Int) × Unit)))
noncomputable def mD (N : Nat) (f : qz → Option qn) : qz → Option qn
  | (x0, x1, x2, x3, x4, x5, x6) =>
  ac (decide (x0 > x1)) (
  ac (within x0 x5) (
  Option.bind (x6[x4 + Int.toNat x0]?) fun y0 =>
  ac (within (IntKind.wrap .i64 (x0 - 1)) x5) (
  Option.bind (x6[x4 + Int.toNat (IntKind.wrap .i64 (x0 - 1))]?) fun y1 =>
  Option.bind (Dr N (y0.1, y0.2.1, y1.1, y1.2.1)) fun y2 =>
  ac (decide (y2 < 0)) (
  ac (within (IntKind.wrap .i64 (x0 - 1)) x5) (
  Option.bind (x6[x4 + Int.toNat (IntKind.wrap .i64 (x0 - 1))]?) fun y3 =>
  ac (within x0 x5) (
  Option.bind (x6[x4 + Int.toNat x0]?) fun y4 =>
  ac (within x0 x5) (
  Option.bind (x6[x4 + Int.toNat x0]?) fun y5 =>
  ac (within (IntKind.wrap .i64 (x0 - 1)) x5) (
  Option.bind ((List.set x6 (x4 + Int.toNat x0) (y3.1, y3.2.1, ()))[x4 + Int.toNat (IntKind.wrap .i64 (x0 - 1))]?) fun y6 =>
  Option.bind (f (IntKind.wrap .i64 (x0 - 1), x1, x2, x3, x4, x5, List.set (List.set x6 (x4 + Int.toNat x0) (y3.1, y3.2.1, ())) (x4 + Int.toNat (IntKind.wrap .i64 (x0 - 1))) (y4.1, y4.2.1, ()))) fun r => some r) (
  none)) (
  none)) (
  none)) (
  none)) (
  some ((x3, x2, x1, x4, x5, x6)))) (
  none)) (
  none)) (
  some ((x3, x2, x1, x4, x5, x6)))
noncomputable def cJ (N : Nat) : Nat → qz → Option qn
  | 0, _ => none
  | k + 1, x => mD N (cJ N k) x
theorem pa (N : Nat) (k : Nat) : ap Tryz.prog Tryz.f168 [0] 402 (mi.cut (cJ N k)) :=
  mi.loopT ah aB (mY N) Tryz.f168 [0] (cuts := []) trivial (by decide +kernel) (by kernel_rfl) (mD N) (cJ N) (fun _ => rfl) (fun _ _ => rfl) (fun f x => by kernel_rfl) k
@[reducible] def AT : LD := ⟨6, [2, 1, 3, 8, 0], [(.ret, []), (.exit 0, [])], ⟨[.int .i64, .int .i64, .fn 126, .int .i64, .slp 0 .h .h], [.row y3 137]⟩, [(.exit 0, ⟨[], [.row y3 137]⟩)]⟩
abbrev Ax : Type := Int × Int × Int × Nat × Nat × (List (Int × ((List Int) × Unit)))
abbrev z8 : Type := (List (Int × ((List Int) × Unit)))
noncomputable def pq (N : Nat) (f : Ax → Option z8) : Ax → Option z8
  | (x0, x1, x2, x3, x4, x5) =>
  ac (decide (x2 < x0)) (
  Option.bind (cJ N N (x2, x1, x0, x2, x3, x4, x5)) fun y0 =>
  Option.bind (f (y0.2.1, y0.2.2.1, IntKind.wrap .i64 (y0.1 + 1), y0.2.2.2.1, y0.2.2.2.2.1, y0.2.2.2.2.2)) fun r => some r) (
  some (x5))
noncomputable def eQ (N : Nat) : Nat → Ax → Option z8
  | 0, _ => none
  | k + 1, x => pq N (eQ N k) x
theorem Gu (N : Nat) (k : Nat) : ap Tryz.prog Tryz.f168 [0] 6 (AT.cut (eQ N k)) :=
  AT.loopT ah aB (mY N) Tryz.f168 [0] (cuts := [(402, mi.cut (cJ N N))]) ⟨pa N N, trivial⟩ (by decide +kernel) (by kernel_rfl) (pq N) (eQ N) (fun _ => rfl) (fun _ _ => rfl) (fun f x => by kernel_rfl) k
@[reducible] def w168a : List SP := [⟨[.tup []], [.row y3 137]⟩]
noncomputable def yr (N : Nat) : (Nat × Nat × Int × Int × (List (Int × ((List Int) × Unit)))) → Option ((List (Int × ((List Int) × Unit))))
  | (x0, x1, x2, x3, x4) =>
  Option.bind (eQ N N (x3, x2, IntKind.wrap .i64 (x2 + 1), x0, x1, x4)) fun y0 =>
  some (y0)
noncomputable def Rw (N : Nat) : Pk → Tr Pk := aj s168a w168a (yr N)
theorem Nb (N : Nat) : aO Tryz.prog 168 (Rw N) :=
  (ag ah aB (mY N) Tryz.func168 s168a w168a [0] (cuts := [(402, mi.cut (cJ N N)), (6, AT.cut (eQ N N))]) ⟨pa N N, Gu N N, trivial⟩ (fun _ => by kernel_rfl) (by kernel_rfl) (yr N) (fun x => by kernel_rfl))
noncomputable def WF (N : Nat) : Pk → Tr Pk := (Rw N)
theorem PO (N : Nat) : aO Tryz.prog 168 (WF N) := (Nb N)
@[reducible] def s174a : SP := ⟨[.slp 0 .h .h, .int .i64, .int .i64, .int .i64, .fn 126], [.row y3 137]⟩
noncomputable def OP (N : Nat) : au := [(126, E6 N)]
theorem sD (N : Nat) : ai Tryz.prog (OP N) := ⟨mh N, trivial⟩
@[reducible] def AR : LD := ⟨6, [10, 3, 2, 0, 1], [(.ret, []), (.exit 0, [])], ⟨[.int .i64, .int .i64, .int .i64, .slp 0 .h .h, .int .i64], [.row y3 137]⟩, [(.exit 0, ⟨[], [.row y3 137]⟩)]⟩
abbrev Av : Type := Int × Int × Int × Nat × Nat × Int × (List (Int × ((List Int) × Unit)))
abbrev zY : Type := (List (Int × ((List Int) × Unit)))
noncomputable def sj (N : Nat) (f : Av → Option zY) : Av → Option zY
  | (x0, x1, x2, x3, x4, x5, x6) =>
  ac (decide (x0 < x1)) (
  ac (within (IntKind.wrap .i64 (x2 + x0)) x4) (
  Option.bind (x6[x3 + Int.toNat (IntKind.wrap .i64 (x2 + x0))]?) fun y0 =>
  ac (within (IntKind.wrap .i64 (x5 + x0)) x4) (
  Option.bind (x6[x3 + Int.toNat (IntKind.wrap .i64 (x5 + x0))]?) fun y1 =>
  ac (within (IntKind.wrap .i64 (x5 + x0)) x4) (
  Option.bind (x6[x3 + Int.toNat (IntKind.wrap .i64 (x5 + x0))]?) fun y2 =>
  ac (within (IntKind.wrap .i64 (x2 + x0)) x4) (
  Option.bind ((List.set x6 (x3 + Int.toNat (IntKind.wrap .i64 (x5 + x0))) (y0.1, y0.2.1, ()))[x3 + Int.toNat (IntKind.wrap .i64 (x2 + x0))]?) fun y3 =>
  Option.bind (f (IntKind.wrap .i64 (x0 + 1), x1, x2, x3, x4, x5, List.set (List.set x6 (x3 + Int.toNat (IntKind.wrap .i64 (x5 + x0))) (y0.1, y0.2.1, ())) (x3 + Int.toNat (IntKind.wrap .i64 (x2 + x0))) (y1.1, y1.2.1, ()))) fun r => some r) (
  none)) (
  none)) (
  none)) (
  none)) (
  some (x6))
noncomputable def ib (N : Nat) : Nat → Av → Option zY
  | 0, _ => none
  | k + 1, x => sj N (ib N k) x
theorem Gs (N : Nat) (k : Nat) : ap Tryz.prog Tryz.f174 [0] 6 (AR.cut (ib N k)) :=
  AR.loopT ah aB (sD N) Tryz.f174 [0] (cuts := []) trivial (by decide +kernel) (by kernel_rfl) (sj N) (ib N) (fun _ => rfl) (fun _ _ => rfl) (fun f x => by kernel_rfl) k
@[reducible] def w174a : List SP := [⟨[.tup []], [.row y3 137]⟩]
noncomputable def rB (N : Nat) : (Nat × Nat × Int × Int × Int × (List (Int × ((List Int) × Unit)))) → Option ((List (Int × ((List Int) × Unit))))
  | (x0, x1, x2, x3, x4, x5) =>
  Option.bind (ib N N ((0 : Int), x4, x3, x0, x1, x2, x5)) fun y0 =>
  some (y0)
noncomputable def Rr (N : Nat) : Pk → Tr Pk := aj s174a w174a (rB N)
theorem M6 (N : Nat) : aO Tryz.prog 174 (Rr N) :=
  (ag ah aB (sD N) Tryz.func174 s174a w174a [0] (cuts := [(6, AR.cut (ib N N))]) ⟨Gs N N, trivial⟩ (fun _ => by kernel_rfl) (by kernel_rfl) (rB N) (fun x => by kernel_rfl))
noncomputable def Wy (N : Nat) : Pk → Tr Pk := (Rr N)
theorem PH (N : Nat) : aO Tryz.prog 174 (Wy N) := (M6 N)
@[reducible] def s173a : SP := ⟨[.slp 0 .h .h, .int .i64, .int .i64, .int .i64, .fn 126], [.row y3 137]⟩
noncomputable def OQ (N : Nat) : au := [(174, Wy N), (126, E6 N)]
theorem sE (N : Nat) : ai Tryz.prog (OQ N) := ⟨PH N, mh N, trivial⟩
@[reducible] def vk : LD := ⟨28, [10, 0, 2, 4, 11], [(.ret, []), (.exit 0, [0, 2, 10, 4])], ⟨[.int .i64, .slp 0 .h .h, .int .i64, .fn 126, .int .i64], [.row y3 137]⟩, [(.exit 0, ⟨[.slp 0 .h .h, .int .i64, .int .i64, .fn 126], [.row y3 137]⟩)]⟩
abbrev uV : Type := Int × Nat × Nat × Int × Int × (List (Int × ((List Int) × Unit)))
abbrev uz : Type := Nat × Nat × Int × Int × (List (Int × ((List Int) × Unit)))
noncomputable def we (N : Nat) (f : uV → Option uz) : uV → Option uz
  | (x0, x1, x2, x3, x4, x5) =>
  ac (x0 != x4) (
  ac (decide (x0 > x4)) (
  Option.bind (rB N (x1, x2, IntKind.wrap .i64 (x3 - x0), x3, x4, x5)) fun y0 =>
  Option.bind (f (IntKind.wrap .i64 (x0 - x4), x1, x2, x3, x4, y0)) fun r => some r) (
  Option.bind (rB N (x1, x2, IntKind.wrap .i64 (x3 - x0), IntKind.wrap .i64 (IntKind.wrap .i64 (x3 + x4) - x0), x0, x5)) fun y1 =>
  Option.bind (f (x0, x1, x2, x3, IntKind.wrap .i64 (x4 - x0), y1)) fun r => some r)) (
  some ((x1, x2, x3, x0, x5)))
noncomputable def gG (N : Nat) : Nat → uV → Option uz
  | 0, _ => none
  | k + 1, x => we N (gG N k) x
theorem DD (N : Nat) (k : Nat) : ap Tryz.prog Tryz.f173 [0] 28 (vk.cut (gG N k)) :=
  vk.loopT ah aB (sE N) Tryz.f173 [0] (cuts := []) trivial (by decide +kernel) (by kernel_rfl) (we N) (gG N) (fun _ => rfl) (fun _ _ => rfl) (fun f x => by kernel_rfl) k
@[reducible] def w173a : List SP := [⟨[.tup []], [.row y3 137]⟩]
noncomputable def rC (N : Nat) : (Nat × Nat × Int × Int × Int × (List (Int × ((List Int) × Unit)))) → Option ((List (Int × ((List Int) × Unit))))
  | (x0, x1, x2, x3, x4, x5) =>
  Option.bind (gG N N (IntKind.wrap .i64 (x3 - x2), x0, x1, x3, IntKind.wrap .i64 (x4 - x3), x5)) fun y0 =>
  Option.bind (rB N (y0.1, y0.2.1, IntKind.wrap .i64 (y0.2.2.1 - y0.2.2.2.1), y0.2.2.1, y0.2.2.2.1, y0.2.2.2.2)) fun y1 =>
  some (y1)
noncomputable def Rs (N : Nat) : Pk → Tr Pk := aj s173a w173a (rC N)
theorem M7 (N : Nat) : aO Tryz.prog 173 (Rs N) :=
  (ag ah aB (sE N) Tryz.func173 s173a w173a [0] (cuts := [(28, vk.cut (gG N N))]) ⟨DD N N, trivial⟩ (fun _ => by kernel_rfl) (by kernel_rfl) (rC N) (fun x => by kernel_rfl))
noncomputable def Wz (N : Nat) : Pk → Tr Pk := (Rs N)
theorem PI (N : Nat) : aO Tryz.prog 173 (Wz N) := (M7 N)
@[reducible] def s169a : SP := ⟨[.slp 0 .h .h, .int .i64, .int .i64, .int .i64, .fn 126], [.row y3 137]⟩
@[reducible] def w169a : List SP := [⟨[.tup []], [.row (.cons (.int .i64) (.cons (.sl (.int .i64)) .unit)) 137]⟩]
noncomputable def OT (N : Nat) (G : (Nat × Nat × Int × Int × Int × (List (Int × ((List Int) × Unit)))) → Option ((List (Int × ((List Int) × Unit))))) : List (Nat × (Pk → Tr Pk)) := [(169, aj s169a w169a G), (173, Wz N), (126, E6 N)]
theorem em (N : Nat) (G : (Nat × Nat × Int × Int × Int × (List (Int × ((List Int) × Unit)))) → Option ((List (Int × ((List Int) × Unit))))) (hG : aO Tryz.prog 169 (aj s169a w169a G)) : ai Tryz.prog (OT N G) := ⟨hG, PI N, mh N, trivial⟩
@[reducible] def yl : LD := ⟨172, [10, 11, 4, 0, 1], [(.ret, []), (.exit 0, [1, 10, 0])], ⟨[.int .i64, .int .i64, .fn 126, .slp 0 .h .h, .int .i64], [.row y3 137]⟩, [(.exit 0, ⟨[.int .i64, .int .i64, .slp 0 .h .h], [.row y3 137]⟩)]⟩
abbrev qy : Type := Int × Int × Nat × Nat × Int × (List (Int × ((List Int) × Unit)))
abbrev qm : Type := Int × Int × Nat × Nat × (List (Int × ((List Int) × Unit)))
noncomputable def mC (N : Nat) (G : (Nat × Nat × Int × Int × Int × (List (Int × ((List Int) × Unit)))) → Option ((List (Int × ((List Int) × Unit))))) (f : qy → Option qm) : qy → Option qm
  | (x0, x1, x2, x3, x4, x5) =>
  ac (decide (x0 < x1)) (
  ac (within (IntKind.wrap .i64 (Int.fdiv (IntKind.wrap .u64 (IntKind.wrap .i64 (x0 + x1))) (2 : Int))) x3) (
  Option.bind (x5[x2 + Int.toNat (IntKind.wrap .i64 (Int.fdiv (IntKind.wrap .u64 (IntKind.wrap .i64 (x0 + x1))) (2 : Int)))]?) fun y0 =>
  ac (within x4 x3) (
  Option.bind (x5[x2 + Int.toNat x4]?) fun y1 =>
  Option.bind (Dr N (y0.1, y0.2.1, y1.1, y1.2.1)) fun y2 =>
  ac (decide (y2 < 0)) (
  Option.bind (f (IntKind.wrap .i64 (IntKind.wrap .i64 (Int.fdiv (IntKind.wrap .u64 (IntKind.wrap .i64 (x0 + x1))) (2 : Int)) + 1), x1, x2, x3, x4, x5)) fun r => some r) (
  Option.bind (f (x0, IntKind.wrap .i64 (Int.fdiv (IntKind.wrap .u64 (IntKind.wrap .i64 (x0 + x1))) (2 : Int)), x2, x3, x4, x5)) fun r => some r)) (
  none)) (
  none)) (
  some ((x4, x0, x2, x3, x5)))
noncomputable def dO (N : Nat) (G : (Nat × Nat × Int × Int × Int × (List (Int × ((List Int) × Unit)))) → Option ((List (Int × ((List Int) × Unit))))) : Nat → qy → Option qm
  | 0, _ => none
  | k + 1, x => mC N G (dO N G k) x
noncomputable def gg (N : Nat) (G : (Nat × Nat × Int × Int × Int × (List (Int × ((List Int) × Unit)))) → Option ((List (Int × ((List Int) × Unit))))) (k : Nat) : Cut := yl.cut (dO N G k)
theorem ec (N : Nat) (G : (Nat × Nat × Int × Int × Int × (List (Int × ((List Int) × Unit)))) → Option ((List (Int × ((List Int) × Unit))))) (hG : aO Tryz.prog 169 (aj s169a w169a G)) (k : Nat) : ap Tryz.prog Tryz.f169 [0] 172 (gg N G k) :=
  yl.loopT ah aB (em N G hG) Tryz.f169 [0] (cuts := []) trivial (by decide +kernel) (by kernel_rfl) (mC N G) (dO N G) (fun _ => rfl) (fun _ _ => rfl) (fun f x => by kernel_rfl) k
@[reducible] def yj : LD := ⟨698, [13, 10, 0], [(.ret, []), (.exit 2, [])], ⟨[.int .i64, .int .i64, .slp 0 .h .h], [.row y3 137]⟩, [(.exit 2, ⟨[], [.row y3 137]⟩)]⟩
abbrev qw : Type := Int × Int × Nat × Nat × (List (Int × ((List Int) × Unit)))
abbrev qk : Type := (List (Int × ((List Int) × Unit)))
noncomputable def mA (N : Nat) (G : (Nat × Nat × Int × Int × Int × (List (Int × ((List Int) × Unit)))) → Option ((List (Int × ((List Int) × Unit))))) (f : qw → Option qk) : qw → Option qk
  | (x0, x1, x2, x3, x4) =>
  ac (decide (x0 < IntKind.wrap .i64 (x1 - 1))) (
  ac (within (IntKind.wrap .i64 (x0 + 1)) x3) (
  Option.bind (x4[x2 + Int.toNat (IntKind.wrap .i64 (x0 + 1))]?) fun y0 =>
  ac (within x0 x3) (
  Option.bind (x4[x2 + Int.toNat x0]?) fun y1 =>
  ac (within x0 x3) (
  Option.bind (x4[x2 + Int.toNat x0]?) fun y2 =>
  ac (within (IntKind.wrap .i64 (x0 + 1)) x3) (
  Option.bind ((List.set x4 (x2 + Int.toNat x0) (y0.1, y0.2.1, ()))[x2 + Int.toNat (IntKind.wrap .i64 (x0 + 1))]?) fun y3 =>
  Option.bind (f (IntKind.wrap .i64 (x0 + 1), x1, x2, x3, List.set (List.set x4 (x2 + Int.toNat x0) (y0.1, y0.2.1, ())) (x2 + Int.toNat (IntKind.wrap .i64 (x0 + 1))) (y1.1, y1.2.1, ()))) fun r => some r) (
  none)) (
  none)) (
  none)) (
  none)) (
  some (x4))
noncomputable def dM (N : Nat) (G : (Nat × Nat × Int × Int × Int × (List (Int × ((List Int) × Unit)))) → Option ((List (Int × ((List Int) × Unit))))) : Nat → qw → Option qk
  | 0, _ => none
  | k + 1, x => mA N G (dM N G k) x
noncomputable def jf (N : Nat) (G : (Nat × Nat × Int × Int × Int × (List (Int × ((List Int) × Unit)))) → Option ((List (Int × ((List Int) × Unit))))) (k : Nat) : Cut := yj.cut (dM N G k)
theorem fW (N : Nat) (G : (Nat × Nat × Int × Int × Int × (List (Int × ((List Int) × Unit)))) → Option ((List (Int × ((List Int) × Unit))))) (hG : aO Tryz.prog 169 (aj s169a w169a G)) (k : Nat) : ap Tryz.prog Tryz.f169 [0] 698 (jf N G k) :=
  yj.loopT ah aB (em N G hG) Tryz.f169 [0] (cuts := [(172, gg N G N)]) ⟨ec N G hG N, trivial⟩ (by decide +kernel) (by kernel_rfl) (mA N G) (dM N G) (fun _ => rfl) (fun _ _ => rfl) (fun f x => by kernel_rfl) k
@[reducible] def yk : LD := ⟨428, [14, 15, 4, 2, 0], [(.ret, []), (.exit 4, [2, 14, 0])], ⟨[.int .i64, .int .i64, .fn 126, .int .i64, .slp 0 .h .h], [.row y3 137]⟩, [(.exit 4, ⟨[.int .i64, .int .i64, .slp 0 .h .h], [.row y3 137]⟩)]⟩
abbrev qx : Type := Int × Int × Int × Nat × Nat × (List (Int × ((List Int) × Unit)))
abbrev ql : Type := Int × Int × Nat × Nat × (List (Int × ((List Int) × Unit)))
noncomputable def mB (N : Nat) (G : (Nat × Nat × Int × Int × Int × (List (Int × ((List Int) × Unit)))) → Option ((List (Int × ((List Int) × Unit))))) (f : qx → Option ql) : qx → Option ql
  | (x0, x1, x2, x3, x4, x5) =>
  ac (decide (x0 < x1)) (
  ac (within x2 x4) (
  Option.bind (x5[x3 + Int.toNat x2]?) fun y0 =>
  ac (within (IntKind.wrap .i64 (Int.fdiv (IntKind.wrap .u64 (IntKind.wrap .i64 (x0 + x1))) (2 : Int))) x4) (
  Option.bind (x5[x3 + Int.toNat (IntKind.wrap .i64 (Int.fdiv (IntKind.wrap .u64 (IntKind.wrap .i64 (x0 + x1))) (2 : Int)))]?) fun y1 =>
  Option.bind (Dr N (y0.1, y0.2.1, y1.1, y1.2.1)) fun y2 =>
  ac (!decide (y2 < 0)) (
  Option.bind (f (IntKind.wrap .i64 (IntKind.wrap .i64 (Int.fdiv (IntKind.wrap .u64 (IntKind.wrap .i64 (x0 + x1))) (2 : Int)) + 1), x1, x2, x3, x4, x5)) fun r => some r) (
  Option.bind (f (x0, IntKind.wrap .i64 (Int.fdiv (IntKind.wrap .u64 (IntKind.wrap .i64 (x0 + x1))) (2 : Int)), x2, x3, x4, x5)) fun r => some r)) (
  none)) (
  none)) (
  some ((x2, x0, x3, x4, x5)))
noncomputable def dN (N : Nat) (G : (Nat × Nat × Int × Int × Int × (List (Int × ((List Int) × Unit)))) → Option ((List (Int × ((List Int) × Unit))))) : Nat → qx → Option ql
  | 0, _ => none
  | k + 1, x => mB N G (dN N G k) x
noncomputable def mr (N : Nat) (G : (Nat × Nat × Int × Int × Int × (List (Int × ((List Int) × Unit)))) → Option ((List (Int × ((List Int) × Unit))))) (k : Nat) : Cut := yk.cut (dN N G k)
theorem jU (N : Nat) (G : (Nat × Nat × Int × Int × Int × (List (Int × ((List Int) × Unit)))) → Option ((List (Int × ((List Int) × Unit))))) (hG : aO Tryz.prog 169 (aj s169a w169a G)) (k : Nat) : ap Tryz.prog Tryz.f169 [0] 428 (mr N G k) :=
  yk.loopT ah aB (em N G hG) Tryz.f169 [0] (cuts := [(172, gg N G N), (698, jf N G N)]) ⟨ec N G hG N, fW N G hG N, trivial⟩ (by decide +kernel) (by kernel_rfl) (mB N G) (dN N G) (fun _ => rfl) (fun _ _ => rfl) (fun f x => by kernel_rfl) k
@[reducible] def vm : LD := ⟨1722, [17, 14, 0], [(.ret, []), (.exit 6, [])], ⟨[.int .i64, .int .i64, .slp 0 .h .h], [.row y3 137]⟩, [(.exit 6, ⟨[], [.row y3 137]⟩)]⟩
abbrev nD : Type := Int × Int × Nat × Nat × (List (Int × ((List Int) × Unit)))
abbrev nv : Type := (List (Int × ((List Int) × Unit)))
noncomputable def jY (N : Nat) (G : (Nat × Nat × Int × Int × Int × (List (Int × ((List Int) × Unit)))) → Option ((List (Int × ((List Int) × Unit))))) (f : nD → Option nv) : nD → Option nv
  | (x0, x1, x2, x3, x4) =>
  ac (decide (x0 > x1)) (
  ac (within (IntKind.wrap .i64 (x0 - 1)) x3) (
  Option.bind (x4[x2 + Int.toNat (IntKind.wrap .i64 (x0 - 1))]?) fun y0 =>
  ac (within x0 x3) (
  Option.bind (x4[x2 + Int.toNat x0]?) fun y1 =>
  ac (within x0 x3) (
  Option.bind (x4[x2 + Int.toNat x0]?) fun y2 =>
  ac (within (IntKind.wrap .i64 (x0 - 1)) x3) (
  Option.bind ((List.set x4 (x2 + Int.toNat x0) (y0.1, y0.2.1, ()))[x2 + Int.toNat (IntKind.wrap .i64 (x0 - 1))]?) fun y3 =>
  Option.bind (f (IntKind.wrap .i64 (x0 - 1), x1, x2, x3, List.set (List.set x4 (x2 + Int.toNat x0) (y0.1, y0.2.1, ())) (x2 + Int.toNat (IntKind.wrap .i64 (x0 - 1))) (y1.1, y1.2.1, ()))) fun r => some r) (
  none)) (
  none)) (
  none)) (
  none)) (
  some (x4))
noncomputable def cr (N : Nat) (G : (Nat × Nat × Int × Int × Int × (List (Int × ((List Int) × Unit)))) → Option ((List (Int × ((List Int) × Unit))))) : Nat → nD → Option nv
  | 0, _ => none
  | k + 1, x => jY N G (cr N G k) x
noncomputable def nM (N : Nat) (G : (Nat × Nat × Int × Int × Int × (List (Int × ((List Int) × Unit)))) → Option ((List (Int × ((List Int) × Unit))))) (k : Nat) : Cut := vm.cut (cr N G k)
theorem mS (N : Nat) (G : (Nat × Nat × Int × Int × Int × (List (Int × ((List Int) × Unit)))) → Option ((List (Int × ((List Int) × Unit))))) (hG : aO Tryz.prog 169 (aj s169a w169a G)) (k : Nat) : ap Tryz.prog Tryz.f169 [0] 1722 (nM N G k) :=
  vm.loopT ah aB (em N G hG) Tryz.f169 [0] (cuts := [(172, gg N G N), (698, jf N G N), (428, mr N G N)]) ⟨ec N G hG N, fW N G hG N, jU N G hG N, trivial⟩ (by decide +kernel) (by kernel_rfl) (jY N G) (cr N G) (fun _ => rfl) (fun _ _ => rfl) (fun f x => by kernel_rfl) k
@[reducible] def vo : LD := ⟨1020, [20, 3, 18, 1, 2, 19, 21, 4, 22, 0], [(.ret, []), (.exit 8, [19, 2, 1, 20, 0, 18, 3, 4])], ⟨[.int .i64, .int .i64, .int .i64, .int .i64, .int .i64, .int .i64, .int .i64, .fn 126, .int .i64, .slp 0 .h .h], [.row y3 137]⟩, [(.exit 8, ⟨[.int .i64, .int .i64, .int .i64, .int .i64, .slp 0 .h .h, .int .i64, .int .i64, .fn 126], [.row y3 137]⟩)]⟩
abbrev nE : Type := Int × Int × Int × Int × Int × Int × Int × Int × Nat × Nat × (List (Int × ((List Int) × Unit)))
abbrev nx : Type := Int × Int × Int × Int × Nat × Nat × Int × Int × (List (Int × ((List Int) × Unit)))
noncomputable def jZ (N : Nat) (G : (Nat × Nat × Int × Int × Int × (List (Int × ((List Int) × Unit)))) → Option ((List (Int × ((List Int) × Unit))))) (f : nE → Option nx) : nE → Option nx
  | (x0, x1, x2, x3, x4, x5, x6, x7, x8, x9, x10) =>
  ac (decide (x0 < x6)) (
  ac (within (IntKind.wrap .i64 (x7 - IntKind.wrap .i64 (Int.fdiv (IntKind.wrap .u64 (IntKind.wrap .i64 (x0 + x6))) (2 : Int)))) x9) (
  Option.bind (x10[x8 + Int.toNat (IntKind.wrap .i64 (x7 - IntKind.wrap .i64 (Int.fdiv (IntKind.wrap .u64 (IntKind.wrap .i64 (x0 + x6))) (2 : Int))))]?) fun y0 =>
  ac (within (IntKind.wrap .i64 (Int.fdiv (IntKind.wrap .u64 (IntKind.wrap .i64 (x0 + x6))) (2 : Int))) x9) (
  Option.bind (x10[x8 + Int.toNat (IntKind.wrap .i64 (Int.fdiv (IntKind.wrap .u64 (IntKind.wrap .i64 (x0 + x6))) (2 : Int)))]?) fun y1 =>
  Option.bind (Dr N (y0.1, y0.2.1, y1.1, y1.2.1)) fun y2 =>
  ac (!decide (y2 < 0)) (
  Option.bind (f (IntKind.wrap .i64 (IntKind.wrap .i64 (Int.fdiv (IntKind.wrap .u64 (IntKind.wrap .i64 (x0 + x6))) (2 : Int)) + 1), x1, x2, x3, x4, x5, x6, x7, x8, x9, x10)) fun r => some r) (
  Option.bind (f (x0, x1, x2, x3, x4, x5, IntKind.wrap .i64 (Int.fdiv (IntKind.wrap .u64 (IntKind.wrap .i64 (x0 + x6))) (2 : Int)), x7, x8, x9, x10)) fun r => some r)) (
  none)) (
  none)) (
  some ((x5, x4, x3, x0, x8, x9, x2, x1, x10)))
noncomputable def bY (N : Nat) (G : (Nat × Nat × Int × Int × Int × (List (Int × ((List Int) × Unit)))) → Option ((List (Int × ((List Int) × Unit))))) : Nat → nE → Option nx
  | 0, _ => none
  | k + 1, x => jZ N G (bY N G k) x
noncomputable def v6 (N : Nat) (G : (Nat × Nat × Int × Int × Int × (List (Int × ((List Int) × Unit)))) → Option ((List (Int × ((List Int) × Unit))))) (k : Nat) : Cut := vo.cut (bY N G k)
theorem wW (N : Nat) (G : (Nat × Nat × Int × Int × Int × (List (Int × ((List Int) × Unit)))) → Option ((List (Int × ((List Int) × Unit))))) (hG : aO Tryz.prog 169 (aj s169a w169a G)) (k : Nat) : ap Tryz.prog Tryz.f169 [0] 1020 (v6 N G k) :=
  vo.loopT ah aB (em N G hG) Tryz.f169 [0] (cuts := [(172, gg N G N), (698, jf N G N), (428, mr N G N), (1722, nM N G N)]) ⟨ec N G hG N, fW N G hG N, jU N G hG N, mS N G hG N, trivial⟩ (by decide +kernel) (by kernel_rfl) (jZ N G) (bY N G) (fun _ => rfl) (fun _ _ => rfl) (fun f x => by kernel_rfl) k
noncomputable def A4 (N : Nat) (G : (Nat × Nat × Int × Int × Int × (List (Int × ((List Int) × Unit)))) → Option ((List (Int × ((List Int) × Unit))))) : (Nat × Nat × Int × Int × Int × (List (Int × ((List Int) × Unit)))) → Option ((List (Int × ((List Int) × Unit))))
  | (x0, x1, x2, x3, x4, x5) =>
  ac (IntKind.wrap .i64 (x3 - x2) == 1) (
  Option.bind (dO N G N (x3, x4, x0, x1, x2, x5)) fun y0 =>
  Option.bind (dM N G N (y0.1, y0.2.1, y0.2.2.1, y0.2.2.2.1, y0.2.2.2.2)) fun y1 =>
  some (y1)) (
  ac (IntKind.wrap .i64 (x4 - x3) == 1) (
  Option.bind (dN N G N (x2, x3, x3, x0, x1, x5)) fun y2 =>
  Option.bind (cr N G N (y2.1, y2.2.1, y2.2.2.1, y2.2.2.2.1, y2.2.2.2.2)) fun y3 =>
  some (y3)) (
  ac (decide (x3 > IntKind.wrap .i64 (Int.fdiv (IntKind.wrap .u64 (IntKind.wrap .i64 (x2 + x4))) (2 : Int)))) (
  Option.bind (bY N G N (IntKind.wrap .i64 (IntKind.wrap .i64 (IntKind.wrap .i64 (Int.fdiv (IntKind.wrap .u64 (IntKind.wrap .i64 (x2 + x4))) (2 : Int)) + x3) - x4), x4, IntKind.wrap .i64 (Int.fdiv (IntKind.wrap .u64 (IntKind.wrap .i64 (x2 + x4))) (2 : Int)), x2, x3, IntKind.wrap .i64 (IntKind.wrap .i64 (Int.fdiv (IntKind.wrap .u64 (IntKind.wrap .i64 (x2 + x4))) (2 : Int)) + x3), IntKind.wrap .i64 (Int.fdiv (IntKind.wrap .u64 (IntKind.wrap .i64 (x2 + x4))) (2 : Int)), IntKind.wrap .i64 (IntKind.wrap .i64 (IntKind.wrap .i64 (Int.fdiv (IntKind.wrap .u64 (IntKind.wrap .i64 (x2 + x4))) (2 : Int)) + x3) - 1), x0, x1, x5)) fun y4 =>
  ac (decide (y4.2.2.2.1 < y4.2.1)) (
  ac (decide (y4.2.1 < IntKind.wrap .i64 (y4.1 - y4.2.2.2.1))) (
  Option.bind (rC N (y4.2.2.2.2.1, y4.2.2.2.2.2.1, y4.2.2.2.1, y4.2.1, IntKind.wrap .i64 (y4.1 - y4.2.2.2.1), y4.2.2.2.2.2.2.2.2)) fun y5 =>
  ac (decide (y4.2.2.1 < y4.2.2.2.1)) (
  ac (decide (y4.2.2.2.1 < y4.2.2.2.2.2.2.1)) (
  Option.bind (G (y4.2.2.2.2.1, y4.2.2.2.2.2.1, y4.2.2.1, y4.2.2.2.1, y4.2.2.2.2.2.2.1, y5)) fun y6 =>
  ac (decide (y4.2.2.2.2.2.2.1 < IntKind.wrap .i64 (y4.1 - y4.2.2.2.1))) (
  ac (decide (IntKind.wrap .i64 (y4.1 - y4.2.2.2.1) < y4.2.2.2.2.2.2.2.1)) (
  Option.bind (G (y4.2.2.2.2.1, y4.2.2.2.2.2.1, y4.2.2.2.2.2.2.1, IntKind.wrap .i64 (y4.1 - y4.2.2.2.1), y4.2.2.2.2.2.2.2.1, y6)) fun y7 =>
  some (y7)) (
  some (y6))) (
  some (y6))) (
  ac (decide (y4.2.2.2.2.2.2.1 < IntKind.wrap .i64 (y4.1 - y4.2.2.2.1))) (
  ac (decide (IntKind.wrap .i64 (y4.1 - y4.2.2.2.1) < y4.2.2.2.2.2.2.2.1)) (
  Option.bind (G (y4.2.2.2.2.1, y4.2.2.2.2.2.1, y4.2.2.2.2.2.2.1, IntKind.wrap .i64 (y4.1 - y4.2.2.2.1), y4.2.2.2.2.2.2.2.1, y5)) fun y8 =>
  some (y8)) (
  some (y5))) (
  some (y5)))) (
  ac (decide (y4.2.2.2.2.2.2.1 < IntKind.wrap .i64 (y4.1 - y4.2.2.2.1))) (
  ac (decide (IntKind.wrap .i64 (y4.1 - y4.2.2.2.1) < y4.2.2.2.2.2.2.2.1)) (
  Option.bind (G (y4.2.2.2.2.1, y4.2.2.2.2.2.1, y4.2.2.2.2.2.2.1, IntKind.wrap .i64 (y4.1 - y4.2.2.2.1), y4.2.2.2.2.2.2.2.1, y5)) fun y9 =>
  some (y9)) (
  some (y5))) (
  some (y5)))) (
  ac (decide (y4.2.2.1 < y4.2.2.2.1)) (
  ac (decide (y4.2.2.2.1 < y4.2.2.2.2.2.2.1)) (
  Option.bind (G (y4.2.2.2.2.1, y4.2.2.2.2.2.1, y4.2.2.1, y4.2.2.2.1, y4.2.2.2.2.2.2.1, y4.2.2.2.2.2.2.2.2)) fun y10 =>
  ac (decide (y4.2.2.2.2.2.2.1 < IntKind.wrap .i64 (y4.1 - y4.2.2.2.1))) (
  ac (decide (IntKind.wrap .i64 (y4.1 - y4.2.2.2.1) < y4.2.2.2.2.2.2.2.1)) (
  Option.bind (G (y4.2.2.2.2.1, y4.2.2.2.2.2.1, y4.2.2.2.2.2.2.1, IntKind.wrap .i64 (y4.1 - y4.2.2.2.1), y4.2.2.2.2.2.2.2.1, y10)) fun y11 =>
  some (y11)) (
  some (y10))) (
  some (y10))) (
  ac (decide (y4.2.2.2.2.2.2.1 < IntKind.wrap .i64 (y4.1 - y4.2.2.2.1))) (
  ac (decide (IntKind.wrap .i64 (y4.1 - y4.2.2.2.1) < y4.2.2.2.2.2.2.2.1)) (
  Option.bind (G (y4.2.2.2.2.1, y4.2.2.2.2.2.1, y4.2.2.2.2.2.2.1, IntKind.wrap .i64 (y4.1 - y4.2.2.2.1), y4.2.2.2.2.2.2.2.1, y4.2.2.2.2.2.2.2.2)) fun y12 =>
  some (y12)) (
  some y4.2.2.2.2.2.2.2.2)) (
  some y4.2.2.2.2.2.2.2.2))) (
  ac (decide (y4.2.2.2.2.2.2.1 < IntKind.wrap .i64 (y4.1 - y4.2.2.2.1))) (
  ac (decide (IntKind.wrap .i64 (y4.1 - y4.2.2.2.1) < y4.2.2.2.2.2.2.2.1)) (
  Option.bind (G (y4.2.2.2.2.1, y4.2.2.2.2.2.1, y4.2.2.2.2.2.2.1, IntKind.wrap .i64 (y4.1 - y4.2.2.2.1), y4.2.2.2.2.2.2.2.1, y4.2.2.2.2.2.2.2.2)) fun y13 =>
  some (y13)) (
  some y4.2.2.2.2.2.2.2.2)) (
  some y4.2.2.2.2.2.2.2.2)))) (
  ac (decide (y4.2.2.1 < y4.2.2.2.1)) (
  ac (decide (y4.2.2.2.1 < y4.2.2.2.2.2.2.1)) (
  Option.bind (G (y4.2.2.2.2.1, y4.2.2.2.2.2.1, y4.2.2.1, y4.2.2.2.1, y4.2.2.2.2.2.2.1, y4.2.2.2.2.2.2.2.2)) fun y14 =>
  ac (decide (y4.2.2.2.2.2.2.1 < IntKind.wrap .i64 (y4.1 - y4.2.2.2.1))) (
  ac (decide (IntKind.wrap .i64 (y4.1 - y4.2.2.2.1) < y4.2.2.2.2.2.2.2.1)) (
  Option.bind (G (y4.2.2.2.2.1, y4.2.2.2.2.2.1, y4.2.2.2.2.2.2.1, IntKind.wrap .i64 (y4.1 - y4.2.2.2.1), y4.2.2.2.2.2.2.2.1, y14)) fun y15 =>
  some (y15)) (
  some (y14))) (
  some (y14))) (
  ac (decide (y4.2.2.2.2.2.2.1 < IntKind.wrap .i64 (y4.1 - y4.2.2.2.1))) (
  ac (decide (IntKind.wrap .i64 (y4.1 - y4.2.2.2.1) < y4.2.2.2.2.2.2.2.1)) (
  Option.bind (G (y4.2.2.2.2.1, y4.2.2.2.2.2.1, y4.2.2.2.2.2.2.1, IntKind.wrap .i64 (y4.1 - y4.2.2.2.1), y4.2.2.2.2.2.2.2.1, y4.2.2.2.2.2.2.2.2)) fun y16 =>
  some (y16)) (
  some y4.2.2.2.2.2.2.2.2)) (
  some y4.2.2.2.2.2.2.2.2))) (
  ac (decide (y4.2.2.2.2.2.2.1 < IntKind.wrap .i64 (y4.1 - y4.2.2.2.1))) (
  ac (decide (IntKind.wrap .i64 (y4.1 - y4.2.2.2.1) < y4.2.2.2.2.2.2.2.1)) (
  Option.bind (G (y4.2.2.2.2.1, y4.2.2.2.2.2.1, y4.2.2.2.2.2.2.1, IntKind.wrap .i64 (y4.1 - y4.2.2.2.1), y4.2.2.2.2.2.2.2.1, y4.2.2.2.2.2.2.2.2)) fun y17 =>
  some (y17)) (
  some y4.2.2.2.2.2.2.2.2)) (
  some y4.2.2.2.2.2.2.2.2)))) (
  Option.bind (bY N G N (x2, x4, IntKind.wrap .i64 (Int.fdiv (IntKind.wrap .u64 (IntKind.wrap .i64 (x2 + x4))) (2 : Int)), x2, x3, IntKind.wrap .i64 (IntKind.wrap .i64 (Int.fdiv (IntKind.wrap .u64 (IntKind.wrap .i64 (x2 + x4))) (2 : Int)) + x3), x3, IntKind.wrap .i64 (IntKind.wrap .i64 (IntKind.wrap .i64 (Int.fdiv (IntKind.wrap .u64 (IntKind.wrap .i64 (x2 + x4))) (2 : Int)) + x3) - 1), x0, x1, x5)) fun y18 =>
  ac (decide (y18.2.2.2.1 < y18.2.1)) (
  ac (decide (y18.2.1 < IntKind.wrap .i64 (y18.1 - y18.2.2.2.1))) (
  Option.bind (rC N (y18.2.2.2.2.1, y18.2.2.2.2.2.1, y18.2.2.2.1, y18.2.1, IntKind.wrap .i64 (y18.1 - y18.2.2.2.1), y18.2.2.2.2.2.2.2.2)) fun y19 =>
  ac (decide (y18.2.2.1 < y18.2.2.2.1)) (
  ac (decide (y18.2.2.2.1 < y18.2.2.2.2.2.2.1)) (
  Option.bind (G (y18.2.2.2.2.1, y18.2.2.2.2.2.1, y18.2.2.1, y18.2.2.2.1, y18.2.2.2.2.2.2.1, y19)) fun y20 =>
  ac (decide (y18.2.2.2.2.2.2.1 < IntKind.wrap .i64 (y18.1 - y18.2.2.2.1))) (
  ac (decide (IntKind.wrap .i64 (y18.1 - y18.2.2.2.1) < y18.2.2.2.2.2.2.2.1)) (
  Option.bind (G (y18.2.2.2.2.1, y18.2.2.2.2.2.1, y18.2.2.2.2.2.2.1, IntKind.wrap .i64 (y18.1 - y18.2.2.2.1), y18.2.2.2.2.2.2.2.1, y20)) fun y21 =>
  some (y21)) (
  some (y20))) (
  some (y20))) (
  ac (decide (y18.2.2.2.2.2.2.1 < IntKind.wrap .i64 (y18.1 - y18.2.2.2.1))) (
  ac (decide (IntKind.wrap .i64 (y18.1 - y18.2.2.2.1) < y18.2.2.2.2.2.2.2.1)) (
  Option.bind (G (y18.2.2.2.2.1, y18.2.2.2.2.2.1, y18.2.2.2.2.2.2.1, IntKind.wrap .i64 (y18.1 - y18.2.2.2.1), y18.2.2.2.2.2.2.2.1, y19)) fun y22 =>
  some (y22)) (
  some (y19))) (
  some (y19)))) (
  ac (decide (y18.2.2.2.2.2.2.1 < IntKind.wrap .i64 (y18.1 - y18.2.2.2.1))) (
  ac (decide (IntKind.wrap .i64 (y18.1 - y18.2.2.2.1) < y18.2.2.2.2.2.2.2.1)) (
  Option.bind (G (y18.2.2.2.2.1, y18.2.2.2.2.2.1, y18.2.2.2.2.2.2.1, IntKind.wrap .i64 (y18.1 - y18.2.2.2.1), y18.2.2.2.2.2.2.2.1, y19)) fun y23 =>
  some (y23)) (
  some (y19))) (
  some (y19)))) (
  ac (decide (y18.2.2.1 < y18.2.2.2.1)) (
  ac (decide (y18.2.2.2.1 < y18.2.2.2.2.2.2.1)) (
  Option.bind (G (y18.2.2.2.2.1, y18.2.2.2.2.2.1, y18.2.2.1, y18.2.2.2.1, y18.2.2.2.2.2.2.1, y18.2.2.2.2.2.2.2.2)) fun y24 =>
  ac (decide (y18.2.2.2.2.2.2.1 < IntKind.wrap .i64 (y18.1 - y18.2.2.2.1))) (
  ac (decide (IntKind.wrap .i64 (y18.1 - y18.2.2.2.1) < y18.2.2.2.2.2.2.2.1)) (
  Option.bind (G (y18.2.2.2.2.1, y18.2.2.2.2.2.1, y18.2.2.2.2.2.2.1, IntKind.wrap .i64 (y18.1 - y18.2.2.2.1), y18.2.2.2.2.2.2.2.1, y24)) fun y25 =>
  some (y25)) (
  some (y24))) (
  some (y24))) (
  ac (decide (y18.2.2.2.2.2.2.1 < IntKind.wrap .i64 (y18.1 - y18.2.2.2.1))) (
  ac (decide (IntKind.wrap .i64 (y18.1 - y18.2.2.2.1) < y18.2.2.2.2.2.2.2.1)) (
  Option.bind (G (y18.2.2.2.2.1, y18.2.2.2.2.2.1, y18.2.2.2.2.2.2.1, IntKind.wrap .i64 (y18.1 - y18.2.2.2.1), y18.2.2.2.2.2.2.2.1, y18.2.2.2.2.2.2.2.2)) fun y26 =>
  some (y26)) (
  some y18.2.2.2.2.2.2.2.2)) (
  some y18.2.2.2.2.2.2.2.2))) (
  ac (decide (y18.2.2.2.2.2.2.1 < IntKind.wrap .i64 (y18.1 - y18.2.2.2.1))) (
  ac (decide (IntKind.wrap .i64 (y18.1 - y18.2.2.2.1) < y18.2.2.2.2.2.2.2.1)) (
  Option.bind (G (y18.2.2.2.2.1, y18.2.2.2.2.2.1, y18.2.2.2.2.2.2.1, IntKind.wrap .i64 (y18.1 - y18.2.2.2.1), y18.2.2.2.2.2.2.2.1, y18.2.2.2.2.2.2.2.2)) fun y27 =>
  some (y27)) (
  some y18.2.2.2.2.2.2.2.2)) (
  some y18.2.2.2.2.2.2.2.2)))) (
  ac (decide (y18.2.2.1 < y18.2.2.2.1)) (
  ac (decide (y18.2.2.2.1 < y18.2.2.2.2.2.2.1)) (
  Option.bind (G (y18.2.2.2.2.1, y18.2.2.2.2.2.1, y18.2.2.1, y18.2.2.2.1, y18.2.2.2.2.2.2.1, y18.2.2.2.2.2.2.2.2)) fun y28 =>
  ac (decide (y18.2.2.2.2.2.2.1 < IntKind.wrap .i64 (y18.1 - y18.2.2.2.1))) (
  ac (decide (IntKind.wrap .i64 (y18.1 - y18.2.2.2.1) < y18.2.2.2.2.2.2.2.1)) (
  Option.bind (G (y18.2.2.2.2.1, y18.2.2.2.2.2.1, y18.2.2.2.2.2.2.1, IntKind.wrap .i64 (y18.1 - y18.2.2.2.1), y18.2.2.2.2.2.2.2.1, y28)) fun y29 =>
  some (y29)) (
  some (y28))) (
  some (y28))) (
  ac (decide (y18.2.2.2.2.2.2.1 < IntKind.wrap .i64 (y18.1 - y18.2.2.2.1))) (
  ac (decide (IntKind.wrap .i64 (y18.1 - y18.2.2.2.1) < y18.2.2.2.2.2.2.2.1)) (
  Option.bind (G (y18.2.2.2.2.1, y18.2.2.2.2.2.1, y18.2.2.2.2.2.2.1, IntKind.wrap .i64 (y18.1 - y18.2.2.2.1), y18.2.2.2.2.2.2.2.1, y18.2.2.2.2.2.2.2.2)) fun y30 =>
  some (y30)) (
  some y18.2.2.2.2.2.2.2.2)) (
  some y18.2.2.2.2.2.2.2.2))) (
  ac (decide (y18.2.2.2.2.2.2.1 < IntKind.wrap .i64 (y18.1 - y18.2.2.2.1))) (
  ac (decide (IntKind.wrap .i64 (y18.1 - y18.2.2.2.1) < y18.2.2.2.2.2.2.2.1)) (
  Option.bind (G (y18.2.2.2.2.1, y18.2.2.2.2.2.1, y18.2.2.2.2.2.2.1, IntKind.wrap .i64 (y18.1 - y18.2.2.2.1), y18.2.2.2.2.2.2.2.1, y18.2.2.2.2.2.2.2.2)) fun y31 =>
  some (y31)) (
  some y18.2.2.2.2.2.2.2.2)) (
  some y18.2.2.2.2.2.2.2.2))))))
noncomputable def bp (N : Nat) : Nat → (Nat × Nat × Int × Int × Int × (List (Int × ((List Int) × Unit)))) → Option ((List (Int × ((List Int) × Unit))))
  | 0, _ => none
  | k + 1, x => A4 N (bp N k) x
noncomputable def Dh (N : Nat) : (Nat × Nat × Int × Int × Int × (List (Int × ((List Int) × Unit)))) → Option ((List (Int × ((List Int) × Unit)))) := bp N N
noncomputable def Rv (N : Nat) : Pk → Tr Pk := aj s169a w169a (Dh N)
theorem eG (N : Nat) : ∀ k, aO Tryz.prog 169 (aj s169a w169a (bp N k))
  | 0 => HV fun _ => rfl
  | k + 1 => ag ah aB (em N (bp N k) (eG N k)) Tryz.func169 s169a w169a [0] (cuts := [(172, gg N (bp N k) N), (698, jf N (bp N k) N), (428, mr N (bp N k) N), (1722, nM N (bp N k) N), (1020, v6 N (bp N k) N)]) ⟨ec N (bp N k) (eG N k) N, fW N (bp N k) (eG N k) N, jU N (bp N k) (eG N k) N, mS N (bp N k) (eG N k) N, wW N (bp N k) (eG N k) N, trivial⟩ (fun _ => by kernel_rfl) (by kernel_rfl) (bp N (k + 1)) (fun x => by kernel_rfl)
theorem Na (N : Nat) : aO Tryz.prog 169 (Rv N) :=
  (eG N N)
noncomputable def WE (N : Nat) : Pk → Tr Pk := (Rv N)
theorem PN (N : Nat) : aO Tryz.prog 169 (WE N) := (Na N)
@[reducible] def s154a : SP := ⟨[.slp 0 .h .h, .int .i64, .fn 126], [.row y3 137]⟩
noncomputable def OV (N : Nat) : au := [(168, WF N), (169, WE N), (126, E6 N)]
theorem jm (N : Nat) : ai Tryz.prog (OV N) := ⟨PO N, PN N, mh N, trivial⟩
@[reducible] def lz : LD := ⟨28, [7, 8, 1, 0, 2, 6], [(.ret, []), (.exit 0, [7, 1, 0, 2, 6])], ⟨[.int .i64, .int .i64, .int .i64, .slp 0 .h .h, .fn 126, .int .i64], [.row y3 137]⟩, [(.exit 0, ⟨[.int .i64, .int .i64, .slp 0 .h .h, .fn 126, .int .i64], [.row y3 137]⟩)]⟩
abbrev uY : Type := Int × Int × Int × Nat × Nat × Int × (List (Int × ((List Int) × Unit)))
abbrev uC : Type := Int × Int × Nat × Nat × Int × (List (Int × ((List Int) × Unit)))
noncomputable def pu (N : Nat) (f : uY → Option uC) : uY → Option uC
  | (x0, x1, x2, x3, x4, x5, x6) =>
  ac (decide (x1 ≤ x2)) (
  Option.bind (yr N (x3, x4, x0, x1, x6)) fun y0 =>
  Option.bind (f (x1, IntKind.wrap .i64 (x1 + x5), x2, x3, x4, x5, y0)) fun r => some r) (
  some ((x0, x2, x3, x4, x5, x6)))
noncomputable def dx (N : Nat) : Nat → uY → Option uC
  | 0, _ => none
  | k + 1, x => pu N (dx N k) x
theorem lM (N : Nat) (k : Nat) : ap Tryz.prog Tryz.f154 [0] 28 (lz.cut (dx N k)) :=
  lz.loopT ah aB (jm N) Tryz.f154 [0] (cuts := []) trivial (by decide +kernel) (by kernel_rfl) (pu N) (dx N) (fun _ => rfl) (fun _ _ => rfl) (fun f x => by kernel_rfl) k
@[reducible] def jM : LD := ⟨3988, [7, 8, 1, 0, 2, 6], [(.ret, []), (.exit 4, [7, 6, 1, 0, 2]), (.exit 3, [1, 0, 2, 6]), (.exit 2, [])], ⟨[.int .i64, .int .i64, .int .i64, .slp 0 .h .h, .fn 126, .int .i64], [.row y3 137]⟩, [(.exit 4, ⟨[.int .i64, .int .i64, .int .i64, .slp 0 .h .h, .fn 126], [.row y3 137]⟩)]⟩
abbrev nH : Type := Int × Int × Int × Nat × Nat × Int × (List (Int × ((List Int) × Unit)))
abbrev nz : Type := Int × Int × Int × Nat × Nat × (List (Int × ((List Int) × Unit)))
noncomputable def j6 (N : Nat) (f : nH → Option nz) : nH → Option nz
  | (x0, x1, x2, x3, x4, x5, x6) =>
  ac (decide (x1 ≤ x2)) (
  Option.bind (Dh N (x3, x4, x0, IntKind.wrap .i64 (x0 + x5), x1, x6)) fun y0 =>
  Option.bind (f (x1, IntKind.wrap .i64 (x1 + IntKind.wrap .i64 ((2 : Int) * x5)), x2, x3, x4, x5, y0)) fun r => some r) (
  some ((x0, x5, x2, x3, x4, x6)))
noncomputable def cv (N : Nat) : Nat → nH → Option nz
  | 0, _ => none
  | k + 1, x => j6 N (cv N k) x
theorem mU (N : Nat) (k : Nat) : ap Tryz.prog Tryz.f154 [0] 3988 (jM.cut (cv N k)) :=
  jM.loopT ah aB (jm N) Tryz.f154 [0] (cuts := [(28, lz.cut (dx N N))]) ⟨lM N N, trivial⟩ (by decide +kernel) (by kernel_rfl) (j6 N) (cv N) (fun _ => rfl) (fun _ _ => rfl) (fun f x => by kernel_rfl) k
@[reducible] def vq : LD := ⟨62, [1, 0, 2, 6], [(.ret, []), (.exit 2, [])], ⟨[.int .i64, .slp 0 .h .h, .fn 126, .int .i64], [.row y3 137]⟩, [(.exit 2, ⟨[], [.row y3 137]⟩)]⟩
abbrev uX : Type := Int × Nat × Nat × Int × (List (Int × ((List Int) × Unit)))
abbrev uB : Type := (List (Int × ((List Int) × Unit)))
noncomputable def pt (N : Nat) (f : uX → Option uB) : uX → Option uB
  | (x0, x1, x2, x3, x4) =>
  ac (decide (x3 < x0)) (
  Option.bind (cv N N ((0 : Int), IntKind.wrap .i64 ((2 : Int) * x3), x0, x1, x2, x3, x4)) fun y0 =>
  ac (decide (IntKind.wrap .i64 (y0.1 + y0.2.1) < y0.2.2.1)) (
  Option.bind (Dh N (y0.2.2.2.1, y0.2.2.2.2.1, y0.1, IntKind.wrap .i64 (y0.1 + y0.2.1), y0.2.2.1, y0.2.2.2.2.2)) fun y1 =>
  Option.bind (f (y0.2.2.1, y0.2.2.2.1, y0.2.2.2.2.1, IntKind.wrap .i64 (y0.2.1 * 2), y1)) fun r => some r) (
  Option.bind (f (y0.2.2.1, y0.2.2.2.1, y0.2.2.2.2.1, IntKind.wrap .i64 (y0.2.1 * 2), y0.2.2.2.2.2)) fun r => some r)) (
  some (x4))
noncomputable def fp (N : Nat) : Nat → uX → Option uB
  | 0, _ => none
  | k + 1, x => pt N (fp N k) x
theorem DG (N : Nat) (k : Nat) : ap Tryz.prog Tryz.f154 [0] 62 (vq.cut (fp N k)) :=
  vq.loopT ah aB (jm N) Tryz.f154 [0] (cuts := [(28, lz.cut (dx N N)), (3988, jM.cut (cv N N))]) ⟨lM N N, mU N N, trivial⟩ (by decide +kernel) (by kernel_rfl) (pt N) (fp N) (fun _ => rfl) (fun _ _ => rfl) (fun f x => by kernel_rfl) k
@[reducible] def w154a : List SP := [⟨[.tup []], [.row y3 137]⟩]
noncomputable def HF (N : Nat) : (Nat × Nat × Int × (List (Int × ((List Int) × Unit)))) → Option ((List (Int × ((List Int) × Unit))))
  | (x0, x1, x2, x3) =>
  Option.bind (dx N N ((0 : Int), (20 : Int), x2, x0, x1, (20 : Int), x3)) fun y0 =>
  Option.bind (yr N (y0.2.2.1, y0.2.2.2.1, y0.1, y0.2.1, y0.2.2.2.2.2)) fun y1 =>
  Option.bind (fp N N (y0.2.1, y0.2.2.1, y0.2.2.2.1, y0.2.2.2.2.1, y1)) fun y2 =>
  some (y2)
noncomputable def Rx (N : Nat) : Pk → Tr Pk := aj s154a w154a (HF N)
theorem Nc (N : Nat) : aO Tryz.prog 154 (Rx N) :=
  (ag ah aB (jm N) Tryz.func154 s154a w154a [0] (cuts := [(28, lz.cut (dx N N)), (3988, jM.cut (cv N N)), (62, vq.cut (fp N N))]) ⟨lM N N, mU N N, DG N N, trivial⟩ (fun _ => by kernel_rfl) (by kernel_rfl) (HF N) (fun x => by kernel_rfl))
noncomputable def WN (N : Nat) : Pk → Tr Pk := (Rx N)
theorem PX (N : Nat) : aO Tryz.prog 154 (WN N) := (Nc N)
@[reducible] def s125a : SP := ⟨[.slp 0 .h .h, .fn 126], [.row y3 137]⟩
noncomputable def OY (N : Nat) : au := [(154, WN N), (126, E6 N)]
theorem Ec (N : Nat) : ai Tryz.prog (OY N) := ⟨PX N, mh N, trivial⟩
@[reducible] def w125a : List SP := [⟨[.tup []], [.row y3 137]⟩]
noncomputable def Ds (N : Nat) : (Nat × Nat × (List (Int × ((List Int) × Unit)))) → Option ((List (Int × ((List Int) × Unit))))
  | (x0, x1, x2) =>
  Option.bind (HF N (x0, x1, (↑x1 : Int), x2)) fun y0 =>
  some (y0)
noncomputable def RA (N : Nat) : Pk → Tr Pk := aj s125a w125a (Ds N)
theorem Nh (N : Nat) : aO Tryz.prog 125 (RA N) :=
  (ag ah aB (Ec N) Tryz.func125 s125a w125a [0] (cuts := []) trivial (fun _ => by kernel_rfl) (by kernel_rfl) (Ds N) (fun x => by kernel_rfl))
noncomputable def W7 (N : Nat) : Pk → Tr Pk := (RA N)
theorem Qr (N : Nat) : aO Tryz.prog 125 (W7 N) := (Nh N)
@[reducible] def s94 : SP := ⟨[.ro y3, .ro y3], []⟩
noncomputable def U4 (N : Nat) : au := [(124, W8 N), (125, W7 N)]
theorem KP (N : Nat) : ai Tryz.prog (U4 N) := ⟨Qs N, Qr N, trivial⟩
@[reducible] def w94 : List SP := [⟨[.sl 0], [.row y3 137]⟩]
noncomputable def UL (N : Nat) : ((List (Int × ((List Int) × Unit))) × (List (Int × ((List Int) × Unit)))) → Option ((List (Int × ((List Int) × Unit))))
  | (x0, x1) =>
  Option.bind (Ou N [x0, x1]) fun y0 =>
  Option.bind (Ds N ((0 : Nat), List.length y0, y0)) fun y1 =>
  some (y1)
noncomputable def X0 (N : Nat) : Pk → Tr Pk := tn Ml (aj s94 w94 (UL N))
theorem Nk (N : Nat) : aO Tryz.prog 94 (X0 N) :=
  kI zn (ag ah aB (KP N) Tryz.func94 s94 w94 [] (cuts := []) trivial (fun _ => by kernel_rfl) (by kernel_rfl) (UL N) (fun x => by kernel_rfl))
@[reducible] def s93 : SP := ⟨[.ro (.int .i64)], []⟩
noncomputable def U5 (N : Nat) : au := [(94, X0 N)]
theorem BC (N : Nat) : ai Tryz.prog (U5 N) := ⟨Nk N, trivial⟩
@[reducible] def FF : LD := ⟨58, [8, 7, 9, 4], [(.ret, [2, 3]), (.exit 0, [4])], ⟨[.int .i64, .ro (.int .i64), .int .i64, .sl 0], [.row y3 137]⟩, [(.ret, ⟨[.sl 0, .int .i64], [.row y3 137]⟩), (.exit 0, ⟨[.sl 0], [.row y3 137]⟩)]⟩
abbrev Fs : Type := Int × (List Int) × Int × (List (Int × ((List Int) × Unit)))
abbrev E9 : Type := ((Int × (List (Int × ((List Int) × Unit)))) ⊕ ((List (Int × ((List Int) × Unit)))))
noncomputable def Bd (N : Nat) (f : Fs → Option E9) : Fs → Option E9
  | (x0, x1, x2, x3) =>
  ac (decide (x2 < x0)) (
  ac (within x2 (List.length x1)) (
  Option.bind (x1[Int.toNat x2]?) fun y0 =>
  ac (decide (y0 < 0)) (
  some (.inl (((1 : Int), [])))) (
  ac (decide (y0 > 1073741824)) (
  some (.inl (((1 : Int), [])))) (
  ac (decide (y0 > 0)) (
  ac (decide ((List.length x3 + List.length [(y0, [x2], ())]) * 32 ≤ (140737488355328 : Nat) ∧ List.length x3 + List.length [(y0, [x2], ())] ≤ 140737488355328)) (
  Option.bind (f (x0, x1, IntKind.wrap .i64 (x2 + 1), x3 ++ [(y0, [x2], ())])) fun r => match r with | .inl y => some (.inl y) | .inr y => some (.inr y)) (
  none)) (
  Option.bind (f (x0, x1, IntKind.wrap .i64 (x2 + 1), x3)) fun r => match r with | .inl y => some (.inl y) | .inr y => some (.inr y))))) (
  none)) (
  some (.inr (x3)))
noncomputable def jO (N : Nat) : Nat → Fs → Option E9
  | 0, _ => none
  | k + 1, x => Bd N (jO N k) x
theorem Kd (N : Nat) (k : Nat) : ap Tryz.prog Tryz.f93 [] 58 (FF.cut (jO N k)) :=
  FF.loopT ah aB (BC N) Tryz.f93 [] (cuts := []) trivial (by decide +kernel) (by kernel_rfl) (Bd N) (jO N) (fun _ => rfl) (fun _ _ => rfl) (fun f x => by kernel_rfl) k
@[reducible] def w93 : List SP := [⟨[.tup [.sl 0, .int .i64]], [.row y3 137]⟩, ⟨[.tup [.ro y3, .int .i64]], []⟩]
noncomputable def Xo (N : Nat) : ((List Int)) → Option (((Int × (List (Int × ((List Int) × Unit)))) ⊕ ((List (Int × ((List Int) × Unit))) × Int)))
  | x0 =>
  Option.bind (jO N N ((↑(List.length x0) : Int), x0, (0 : Int), [])) fun y0 =>
  match y0 with
  | .inl y1 =>
  some (.inl ((y1.1, y1.2)))
  | .inr y1 =>
  Option.bind (UL N (y1, [])) fun y2 =>
  some (.inr ((y2, (0 : Int))))
noncomputable def YD (N : Nat) : Pk → Tr Pk := tn Ml (aj s93 w93 (Xo N))
theorem Tz (N : Nat) : aO Tryz.prog 93 (YD N) :=
  kI zn (ag ah aB (BC N) Tryz.func93 s93 w93 [] (cuts := [(58, FF.cut (jO N N))]) ⟨Kd N N, trivial⟩ (fun _ => by kernel_rfl) (by kernel_rfl) (Xo N) (fun x => by kernel_rfl))
@[reducible] def s92 : SP := ⟨[.nilsl, .int .i64], []⟩
noncomputable def U6 (N : Nat) : au := []
theorem KQ (N : Nat) : ai Tryz.prog (U6 N) := trivial
@[reducible] def w92 : List SP := [⟨[.slp 0 (.c 0) (.c 0)], [.row (.int .i64) 3]⟩, ⟨[.sl 0], [.row (.int .i64) 3]⟩]
noncomputable def UM (N : Nat) : (Int) → Option ((((List Int)) ⊕ ((List Int))))
  | x0 =>
  ac (decide (x0 < 0)) (
  none) (
  ac (decide (IntKind.wrap .i64 (x0 - 0) > 0)) (
  ac (decide ((0 : Int) < IntKind.wrap .i64 (x0 - 0) ∧ IntKind.wrap .i64 (x0 - 0) * 8 ≤ (140737488355328 : Int) ∧ IntKind.wrap .i64 (x0 - 0) ≤ 140737488355328)) (
  ac (decide ((0 : Int) ≤ (0 : Int) ∧ (0 : Int) ≤ (↑(List.length (List.replicate (Int.toNat (IntKind.wrap .i64 (x0 - 0))) (0 : Int))) : Int))) (
  some (.inl (List.replicate (Int.toNat (IntKind.wrap .i64 (x0 - 0))) (0 : Int)))) (
  none)) (
  none)) (
  some (.inr ([]))))
noncomputable def YE (N : Nat) : Pk → Tr Pk := tn (GH (Ty.int IntKind.i64) 3) (aj s92 w92 (UM N))
theorem TA (N : Nat) : aO Tryz.prog 92 (YE N) :=
  kI (Bv _ _) (ag ah aB (KQ N) Tryz.func92 s92 w92 [] (cuts := []) trivial (fun _ => by kernel_rfl) (by kernel_rfl) (UM N) (fun x => by kernel_rfl))
@[reducible] def s55 : SP := ⟨[.ro (.sl (.int .i64))], []⟩
noncomputable def Vv (N : Nat) : au := [(92, YE N)]
theorem sC (N : Nat) : ai Tryz.prog (Vv N) := ⟨TA N, trivial⟩
@[reducible] def AO : LD := ⟨58, [3, 11, 10, 0, 9], [(.ret, [2]), (.exit 0, [3, 0])], ⟨[.int .i64, .int .i64, .int .i64, .ro (.sl (.int .i64)), .ro (.sl (.int .i64))], []⟩, [(.exit 0, ⟨[.int .i64, .ro (.sl (.int .i64))], []⟩)]⟩
abbrev Fy : Type := Int × Int × Int × (List (List Int)) × (List (List Int))
abbrev Fg : Type := Int × (List (List Int))
noncomputable def GF (N : Nat) (f : Fy → Option Fg) : Fy → Option Fg
  | (x0, x1, x2, x3, x4) =>
  ac (decide (x1 < x2)) (
  ac (within x1 (List.length x4)) (
  Option.bind (x4[Int.toNat x1]?) fun y0 =>
  ac (decide (IntKind.wrap .i64 (x0 + (↑(List.length y0) : Int)) < 0)) (
  none) (
  Option.bind (f (IntKind.wrap .i64 (x0 + (↑(List.length y0) : Int)), IntKind.wrap .i64 (x1 + 1), x2, x3, x4)) fun r => some r)) (
  none)) (
  some ((x0, x3)))
noncomputable def lE (N : Nat) : Nat → Fy → Option Fg
  | 0, _ => none
  | k + 1, x => GF N (lE N k) x
theorem yA (N : Nat) (k : Nat) : ap Tryz.prog Tryz.f55 [] 58 (AO.cut (lE N k)) :=
  AO.loopT ah aB (sC N) Tryz.f55 [] (cuts := []) trivial (by decide +kernel) (by kernel_rfl) (GF N) (lE N) (fun _ => rfl) (fun _ _ => rfl) (fun f x => by kernel_rfl) k
@[reducible] def AP : LD := ⟨250, [6, 27, 26, 25], [(.ret, [2]), (.exit 2, [6])], ⟨[.sl 0, .int .i64, .int .i64, .ro (.sl (.int .i64))], [.row (.int .i64) 3]⟩, [(.exit 2, ⟨[.sl 0], [.row (.int .i64) 3]⟩)]⟩
abbrev Ar : Type := Int × Int × (List (List Int)) × (List Int)
abbrev zV : Type := (List Int)
noncomputable def Bh (N : Nat) (f : Ar → Option zV) : Ar → Option zV
  | (x0, x1, x2, x3) =>
  ac (decide (x0 < x1)) (
  ac (within x0 (List.length x2)) (
  Option.bind (x2[Int.toNat x0]?) fun y0 =>
  ac (decide ((List.length x3 + List.length y0) * 8 ≤ (140737488355328 : Nat) ∧ List.length x3 + List.length y0 ≤ 140737488355328)) (
  Option.bind (f (IntKind.wrap .i64 (x0 + 1), x1, x2, x3 ++ y0)) fun r => some r) (
  none)) (
  none)) (
  some (x3))
noncomputable def ia (N : Nat) : Nat → Ar → Option zV
  | 0, _ => none
  | k + 1, x => Bh N (ia N k) x
theorem Gq (N : Nat) (k : Nat) : ap Tryz.prog Tryz.f55 [] 250 (AP.cut (ia N k)) :=
  AP.loopT ah aB (sC N) Tryz.f55 [] (cuts := [(58, AO.cut (lE N N))]) ⟨yA N N, trivial⟩ (by decide +kernel) (by kernel_rfl) (Bh N) (ia N) (fun _ => rfl) (fun _ _ => rfl) (fun f x => by kernel_rfl) k
@[reducible] def w55 : List SP := [⟨[.sl 0], [.row (.int .i64) 3]⟩]
noncomputable def US (N : Nat) : ((List (List Int))) → Option ((List Int))
  | x0 =>
  Option.bind (lE N N ((0 : Int), (0 : Int), (↑(List.length x0) : Int), x0, x0)) fun y0 =>
  Option.bind (UM N y0.1) fun y1 =>
  match y1 with
  | .inl y2 =>
  Option.bind (ia N N ((0 : Int), (↑(List.length y0.2) : Int), y0.2, [])) fun y3 =>
  some (y3)
  | .inr y2 =>
  Option.bind (ia N N ((0 : Int), (↑(List.length y0.2) : Int), y0.2, y2)) fun y4 =>
  some (y4)
noncomputable def Yh (N : Nat) : Pk → Tr Pk := aj s55 w55 (US N)
theorem Nz (N : Nat) : aO Tryz.prog 55 (Yh N) :=
  (ag ah aB (sC N) Tryz.func55 s55 w55 [] (cuts := [(58, AO.cut (lE N N)), (250, AP.cut (ia N N))]) ⟨yA N N, Gq N N, trivial⟩ (fun _ => by kernel_rfl) (by kernel_rfl) (US N) (fun x => by kernel_rfl))
@[reducible] def s95 : SP := ⟨[.ro y3], []⟩
noncomputable def U3 (N : Nat) : au := [(55, Yh N)]
theorem BB (N : Nat) : ai Tryz.prog (U3 N) := ⟨Nz N, trivial⟩
@[reducible] def FE : LD := ⟨58, [3, 4, 0], [(.ret, [2]), (.exit 0, [3])], ⟨[.sl 0, .int .i64, .ro y3], [.row y3 137]⟩, [(.exit 0, ⟨[.sl 0], [.row y3 137]⟩)]⟩
abbrev Fq : Type := Int × (List (Int × ((List Int) × Unit))) × (List (Int × ((List Int) × Unit)))
abbrev E8 : Type := (List (Int × ((List Int) × Unit)))
noncomputable def Bc (N : Nat) (f : Fq → Option E8) : Fq → Option E8
  | (x0, x1, x2) =>
  ac (decide (IntKind.wrap .i64 (x0 + 1) < (↑(List.length x1) : Int))) (
  ac (within x0 (List.length x1)) (
  Option.bind (x1[Int.toNat x0]?) fun y0 =>
  ac (within (IntKind.wrap .i64 (x0 + 1)) (List.length x1)) (
  Option.bind (x1[Int.toNat (IntKind.wrap .i64 (x0 + 1))]?) fun y1 =>
  ac (within x0 (List.length x1)) (
  Option.bind (x1[Int.toNat x0]?) fun y2 =>
  ac (within (IntKind.wrap .i64 (x0 + 1)) (List.length x1)) (
  Option.bind (x1[Int.toNat (IntKind.wrap .i64 (x0 + 1))]?) fun y3 =>
  Option.bind (US N [y2.2.1, y3.2.1]) fun y4 =>
  ac (decide ((List.length x2 + List.length [(IntKind.wrap .i64 (y0.1 + y1.1), y4, ())]) * 32 ≤ (140737488355328 : Nat) ∧ List.length x2 + List.length [(IntKind.wrap .i64 (y0.1 + y1.1), y4, ())] ≤ 140737488355328)) (
  Option.bind (f (IntKind.wrap .i64 (x0 + 2), x1, x2 ++ [(IntKind.wrap .i64 (y0.1 + y1.1), y4, ())])) fun r => some r) (
  none)) (
  none)) (
  none)) (
  none)) (
  none)) (
  some (x2))
noncomputable def lB (N : Nat) : Nat → Fq → Option E8
  | 0, _ => none
  | k + 1, x => Bc N (lB N k) x
theorem Kc (N : Nat) (k : Nat) : ap Tryz.prog Tryz.f95 [] 58 (FE.cut (lB N k)) :=
  FE.loopT ah aB (BB N) Tryz.f95 [] (cuts := []) trivial (by decide +kernel) (by kernel_rfl) (Bc N) (lB N) (fun _ => rfl) (fun _ _ => rfl) (fun f x => by kernel_rfl) k
@[reducible] def w95 : List SP := [⟨[.sl 0], [.row y3 137]⟩]
noncomputable def Xn (N : Nat) : ((List (Int × ((List Int) × Unit)))) → Option ((List (Int × ((List Int) × Unit))))
  | x0 =>
  Option.bind (lB N N ((0 : Int), x0, [])) fun y0 =>
  some (y0)
noncomputable def YC (N : Nat) : Pk → Tr Pk := tn Ml (aj s95 w95 (Xn N))
theorem Tx (N : Nat) : aO Tryz.prog 95 (YC N) :=
  kI zn (ag ah aB (BB N) Tryz.func95 s95 w95 [] (cuts := [(58, FE.cut (lB N N))]) ⟨Kc N N, trivial⟩ (fun _ => by kernel_rfl) (by kernel_rfl) (Xn N) (fun x => by kernel_rfl))
@[reducible] def s56 : SP := ⟨[.ro (.int .i64), .int .i64], []⟩
noncomputable def Vu (N : Nat) : au := [(93, YD N), (95, YC N), (94, X0 N)]
theorem nT (N : Nat) : ai Tryz.prog (Vu N) := ⟨Tz N, Tx N, Nk N, trivial⟩
@[reducible] def ly : LD := ⟨4090, [9, 61, 60, 8, 6], [(.ret, [4, 5]), (.exit 1, [9, 6, 8])], ⟨[.ro y3, .int .i64, .int .i64, .sl 0, .ro y3], [.row (.int .i64) 3]⟩, [(.exit 1, ⟨[.ro y3, .ro y3, .sl 0], [.row (.int .i64) 3]⟩)]⟩
abbrev uT : Type := (List (Int × ((List Int) × Unit))) × Int × Int × (List (Int × ((List Int) × Unit))) × (List Int)
abbrev ux : Type := (List (Int × ((List Int) × Unit))) × (List (Int × ((List Int) × Unit))) × (List Int)
noncomputable def po (N : Nat) (f : uT → Option ux) : uT → Option ux
  | (x0, x1, x2, x3, x4) =>
  ac (decide (x1 < x2)) (
  Option.bind (Xn N x0) fun y0 =>
  Option.bind (UL N (x3, y0)) fun y1 =>
  Option.bind (f (y1, IntKind.wrap .i64 (x1 + 1), x2, x3, x4)) fun r => some r) (
  some ((x0, x3, x4)))
noncomputable def bU (N : Nat) : Nat → uT → Option ux
  | 0, _ => none
  | k + 1, x => po N (bU N k) x
theorem lK (N : Nat) (k : Nat) : ap Tryz.prog Tryz.f56 [] 4090 (ly.cut (bU N k)) :=
  ly.loopT ah aB (nT N) Tryz.f56 [] (cuts := []) trivial (by decide +kernel) (by kernel_rfl) (po N) (bU N) (fun _ => rfl) (fun _ _ => rfl) (fun f x => by kernel_rfl) k
@[reducible] def gZ : LD := ⟨2095718, [82, 81, 73, 74, 75, 80, 8], [(.ret, [4, 5]), (.exit 5, [75, 74, 73, 8]), (.exit 4, [75, 74, 73, 8]), (.exit 3, [8])], ⟨[.int .i64, .int .i64, .ro y3, .int .i64, .int .i64, .ro (.int .i64), .sl 0], [.row (.int .i64) 3]⟩, [(.exit 5, ⟨[.int .i64, .int .i64, .ro y3, .sl 0], [.row (.int .i64) 3]⟩)]⟩
abbrev lr : Type := Int × Int × (List (Int × ((List Int) × Unit))) × Int × Int × (List Int) × (List Int)
abbrev lm : Type := Int × Int × (List (Int × ((List Int) × Unit))) × (List Int)
noncomputable def ik (N : Nat) (f : lr → Option lm) : lr → Option lm
  | (x0, x1, x2, x3, x4, x5, x6) =>
  ac (decide (x0 < x1)) (
  ac (within x0 (List.length x5)) (
  Option.bind (x5[Int.toNat x0]?) fun y0 =>
  ac (within y0 (List.length x6)) (
  Option.bind (x6[Int.toNat y0]?) fun y1 =>
  ac (within y0 (List.length x6)) (
  Option.bind (x6[Int.toNat y0]?) fun y2 =>
  Option.bind (f (IntKind.wrap .i64 (x0 + 1), x1, x2, x3, x4, x5, List.set x6 (Int.toNat y0) (IntKind.wrap .i64 (y1 + 1)))) fun r => some r) (
  none)) (
  none)) (
  none)) (
  some ((x4, x3, x2, x6)))
noncomputable def bV (N : Nat) : Nat → lr → Option lm
  | 0, _ => none
  | k + 1, x => ik N (bV N k) x
theorem lL (N : Nat) (k : Nat) : ap Tryz.prog Tryz.f56 [] 2095718 (gZ.cut (bV N k)) :=
  gZ.loopT ah aB (nT N) Tryz.f56 [] (cuts := [(4090, ly.cut (bU N N))]) ⟨lK N N, trivial⟩ (by decide +kernel) (by kernel_rfl) (ik N) (bV N) (fun _ => rfl) (fun _ _ => rfl) (fun f x => by kernel_rfl) k
@[reducible] def vj : LD := ⟨8186, [74, 73, 75, 8], [(.ret, [4, 5]), (.exit 3, [8])], ⟨[.int .i64, .ro y3, .int .i64, .sl 0], [.row (.int .i64) 3]⟩, [(.exit 3, ⟨[.sl 0], [.row (.int .i64) 3]⟩)]⟩
abbrev uS : Type := Int × (List (Int × ((List Int) × Unit))) × Int × (List Int)
abbrev uw : Type := (List Int)
noncomputable def pn (N : Nat) (f : uS → Option uw) : uS → Option uw
  | (x0, x1, x2, x3) =>
  ac (decide (x2 < x0)) (
  ac (within x2 (List.length x1)) (
  Option.bind (x1[Int.toNat x2]?) fun y0 =>
  Option.bind (bV N N ((0 : Int), (↑(List.length y0.2.1) : Int), x1, x0, x2, y0.2.1, x3)) fun y1 =>
  Option.bind (f (y1.2.1, y1.2.2.1, IntKind.wrap .i64 (y1.1 + 1), y1.2.2.2)) fun r => some r) (
  none)) (
  some (x3))
noncomputable def dc (N : Nat) : Nat → uS → Option uw
  | 0, _ => none
  | k + 1, x => pn N (dc N k) x
theorem DC (N : Nat) (k : Nat) : ap Tryz.prog Tryz.f56 [] 8186 (vj.cut (dc N k)) :=
  vj.loopT ah aB (nT N) Tryz.f56 [] (cuts := [(4090, ly.cut (bU N N)), (2095718, gZ.cut (bV N N))]) ⟨lK N N, lL N N, trivial⟩ (by decide +kernel) (by kernel_rfl) (pn N) (dc N) (fun _ => rfl) (fun _ _ => rfl) (fun f x => by kernel_rfl) k
@[reducible] def w56 : List SP := [⟨[.tup [.sl 0, .int .i64]], [.row (.int .i64) 3]⟩]
noncomputable def UR (N : Nat) : ((List Int) × Int) → Option (Int × (List Int))
  | (x0, x1) =>
  ac (decide ((↑(List.length x0) : Int) > (320 : Int))) (
  some (((1 : Int), []))) (
  ac (decide (x1 < 1)) (
  some (((1 : Int), []))) (
  ac (decide (x1 > 15)) (
  some (((1 : Int), []))) (
  Option.bind (Xo N x0) fun y0 =>
  match y0 with
  | .inl y1 =>
  ac (y1.1 != 0) (
  some ((y1.1, []))) (
  ac (decide (x1 < 0)) (
  none) (
  ac (decide ((↑(List.length y1.2) : Int) > IntKind.wrap .i64 ((1 : Int) * (2 : Int) ^ min (Int.toNat x1) (64 : Nat)))) (
  some (((50 : Int), []))) (
  ac (decide ((0 : Int) ≤ (↑(List.length x0) : Int) ∧ (↑(List.length x0) : Int) ≤ (↑(List.length x0) : Int) ∧ (↑(List.length x0) : Int) * (8 : Int) ≤ (140737488355328 : Int) ∧ (↑(List.length x0) : Int) ≤ (140737488355328 : Int))) (
  ac ((↑(List.length y1.2) : Int) == (1 : Int)) (
  ac (within (0 : Int) (List.length y1.2)) (
  Option.bind (y1.2[(0 : Nat)]?) fun y2 =>
  ac (within (0 : Int) (List.length y2.2.1)) (
  Option.bind (y2.2.1[(0 : Nat)]?) fun y3 =>
  ac (within y3 (List.length (List.replicate (Int.toNat (↑(List.length x0) : Int)) (0 : Int)))) (
  Option.bind ((List.replicate (Int.toNat (↑(List.length x0) : Int)) (0 : Int))[Int.toNat y3]?) fun y4 =>
  ac (decide ((↑(List.length y1.2) : Int) < (2 : Int))) (
  some (((0 : Int), List.set (List.replicate (Int.toNat (↑(List.length x0) : Int)) (0 : Int)) (Int.toNat y3) (1 : Int)))) (
  Option.bind (bU N N (y1.2, (0 : Int), IntKind.wrap .i64 (x1 - 1), y1.2, List.set (List.replicate (Int.toNat (↑(List.length x0) : Int)) (0 : Int)) (Int.toNat y3) (1 : Int))) fun y5 =>
  ac (decide ((0 : Int) ≤ IntKind.wrap .i64 (IntKind.wrap .i64 ((2 : Int) * (↑(List.length y5.2.1) : Int)) - 2) ∧ IntKind.wrap .i64 (IntKind.wrap .i64 ((2 : Int) * (↑(List.length y5.2.1) : Int)) - 2) ≤ (↑(List.length y5.1) : Int))) (
  Option.bind (dc N N ((↑(List.length (List.take (Int.toNat (IntKind.wrap .i64 (IntKind.wrap .i64 ((2 : Int) * (↑(List.length y5.2.1) : Int)) - 2)) - 0) (List.drop (0 : Nat) y5.1))) : Int), List.take (Int.toNat (IntKind.wrap .i64 (IntKind.wrap .i64 ((2 : Int) * (↑(List.length y5.2.1) : Int)) - 2)) - 0) (List.drop (0 : Nat) y5.1), (0 : Int), y5.2.2)) fun y6 =>
  some (((0 : Int), y6))) (
  none))) (
  none)) (
  none)) (
  none)) (
  ac (decide ((↑(List.length y1.2) : Int) < (2 : Int))) (
  some (((0 : Int), List.replicate (Int.toNat (↑(List.length x0) : Int)) (0 : Int)))) (
  Option.bind (bU N N (y1.2, (0 : Int), IntKind.wrap .i64 (x1 - 1), y1.2, List.replicate (Int.toNat (↑(List.length x0) : Int)) (0 : Int))) fun y7 =>
  ac (decide ((0 : Int) ≤ IntKind.wrap .i64 (IntKind.wrap .i64 ((2 : Int) * (↑(List.length y7.2.1) : Int)) - 2) ∧ IntKind.wrap .i64 (IntKind.wrap .i64 ((2 : Int) * (↑(List.length y7.2.1) : Int)) - 2) ≤ (↑(List.length y7.1) : Int))) (
  Option.bind (dc N N ((↑(List.length (List.take (Int.toNat (IntKind.wrap .i64 (IntKind.wrap .i64 ((2 : Int) * (↑(List.length y7.2.1) : Int)) - 2)) - 0) (List.drop (0 : Nat) y7.1))) : Int), List.take (Int.toNat (IntKind.wrap .i64 (IntKind.wrap .i64 ((2 : Int) * (↑(List.length y7.2.1) : Int)) - 2)) - 0) (List.drop (0 : Nat) y7.1), (0 : Int), y7.2.2)) fun y8 =>
  some (((0 : Int), y8))) (
  none)))) (
  none))))
  | .inr y1 =>
  ac (y1.2 != 0) (
  some ((y1.2, []))) (
  ac (decide (x1 < 0)) (
  none) (
  ac (decide ((↑(List.length y1.1) : Int) > IntKind.wrap .i64 ((1 : Int) * (2 : Int) ^ min (Int.toNat x1) (64 : Nat)))) (
  some (((50 : Int), []))) (
  ac (decide ((0 : Int) ≤ (↑(List.length x0) : Int) ∧ (↑(List.length x0) : Int) ≤ (↑(List.length x0) : Int) ∧ (↑(List.length x0) : Int) * (8 : Int) ≤ (140737488355328 : Int) ∧ (↑(List.length x0) : Int) ≤ (140737488355328 : Int))) (
  ac ((↑(List.length y1.1) : Int) == (1 : Int)) (
  ac (within (0 : Int) (List.length y1.1)) (
  Option.bind (y1.1[(0 : Nat)]?) fun y9 =>
  ac (within (0 : Int) (List.length y9.2.1)) (
  Option.bind (y9.2.1[(0 : Nat)]?) fun y10 =>
  ac (within y10 (List.length (List.replicate (Int.toNat (↑(List.length x0) : Int)) (0 : Int)))) (
  Option.bind ((List.replicate (Int.toNat (↑(List.length x0) : Int)) (0 : Int))[Int.toNat y10]?) fun y11 =>
  ac (decide ((↑(List.length y1.1) : Int) < (2 : Int))) (
  some (((0 : Int), List.set (List.replicate (Int.toNat (↑(List.length x0) : Int)) (0 : Int)) (Int.toNat y10) (1 : Int)))) (
  Option.bind (bU N N (y1.1, (0 : Int), IntKind.wrap .i64 (x1 - 1), y1.1, List.set (List.replicate (Int.toNat (↑(List.length x0) : Int)) (0 : Int)) (Int.toNat y10) (1 : Int))) fun y12 =>
  ac (decide ((0 : Int) ≤ IntKind.wrap .i64 (IntKind.wrap .i64 ((2 : Int) * (↑(List.length y12.2.1) : Int)) - 2) ∧ IntKind.wrap .i64 (IntKind.wrap .i64 ((2 : Int) * (↑(List.length y12.2.1) : Int)) - 2) ≤ (↑(List.length y12.1) : Int))) (
  Option.bind (dc N N ((↑(List.length (List.take (Int.toNat (IntKind.wrap .i64 (IntKind.wrap .i64 ((2 : Int) * (↑(List.length y12.2.1) : Int)) - 2)) - 0) (List.drop (0 : Nat) y12.1))) : Int), List.take (Int.toNat (IntKind.wrap .i64 (IntKind.wrap .i64 ((2 : Int) * (↑(List.length y12.2.1) : Int)) - 2)) - 0) (List.drop (0 : Nat) y12.1), (0 : Int), y12.2.2)) fun y13 =>
  some (((0 : Int), y13))) (
  none))) (
  none)) (
  none)) (
  none)) (
  ac (decide ((↑(List.length y1.1) : Int) < (2 : Int))) (
  some (((0 : Int), List.replicate (Int.toNat (↑(List.length x0) : Int)) (0 : Int)))) (
  Option.bind (bU N N (y1.1, (0 : Int), IntKind.wrap .i64 (x1 - 1), y1.1, List.replicate (Int.toNat (↑(List.length x0) : Int)) (0 : Int))) fun y14 =>
  ac (decide ((0 : Int) ≤ IntKind.wrap .i64 (IntKind.wrap .i64 ((2 : Int) * (↑(List.length y14.2.1) : Int)) - 2) ∧ IntKind.wrap .i64 (IntKind.wrap .i64 ((2 : Int) * (↑(List.length y14.2.1) : Int)) - 2) ≤ (↑(List.length y14.1) : Int))) (
  Option.bind (dc N N ((↑(List.length (List.take (Int.toNat (IntKind.wrap .i64 (IntKind.wrap .i64 ((2 : Int) * (↑(List.length y14.2.1) : Int)) - 2)) - 0) (List.drop (0 : Nat) y14.1))) : Int), List.take (Int.toNat (IntKind.wrap .i64 (IntKind.wrap .i64 ((2 : Int) * (↑(List.length y14.2.1) : Int)) - 2)) - 0) (List.drop (0 : Nat) y14.1), (0 : Int), y14.2.2)) fun y15 =>
  some (((0 : Int), y15))) (
  none)))) (
  none)))))))
noncomputable def Yg (N : Nat) : Pk → Tr Pk := aj s56 w56 (UR N)
theorem Ny (N : Nat) : aO Tryz.prog 56 (Yg N) :=
  (ag ah aB (nT N) Tryz.func56 s56 w56 [] (cuts := [(4090, ly.cut (bU N N)), (2095718, gZ.cut (bV N N)), (8186, vj.cut (dc N N))]) ⟨lK N N, lL N N, DC N N, trivial⟩ (fun _ => by kernel_rfl) (by kernel_rfl) (UR N) (fun x => by kernel_rfl))
@[reducible] def s68 : SP := ⟨[.ro (.int .i64)], []⟩
noncomputable def Vm (N : Nat) : au := [(56, Yg N)]
theorem K4 (N : Nat) : ai Tryz.prog (Vm N) := ⟨Ny N, trivial⟩
@[reducible] def w68 : List SP := [⟨[.sl 0], [.row (.int .i64) 3]⟩]
noncomputable def RD (N : Nat) : ((List Int)) → Option ((List Int))
  | x0 =>
  Option.bind (UR N (x0, (15 : Int))) fun y0 =>
  some y0.2
noncomputable def YL (N : Nat) : Pk → Tr Pk := aj s68 w68 (RD N)
theorem TI (N : Nat) : aO Tryz.prog 68 (YL N) :=
  (ag ah aB (K4 N) Tryz.func68 s68 w68 [] (cuts := []) trivial (fun _ => by kernel_rfl) (by kernel_rfl) (RD N) (fun x => by kernel_rfl))
@[reducible] def s67 : SP := ⟨[.ro (.int .i64), .int .i64], []⟩
noncomputable def Vn (N : Nat) : au := []
theorem BF (N : Nat) : ai Tryz.prog (Vn N) := trivial
@[reducible] def FJ : LD := ⟨28, [5, 1, 0], [(.ret, [4]), (.exit 0, [0, 5])], ⟨[.int .i64, .int .i64, .ro (.int .i64)], []⟩, [(.exit 0, ⟨[.ro (.int .i64), .int .i64], []⟩)]⟩
abbrev Fv : Type := Int × Int × (List Int)
abbrev Fc : Type := (List Int) × Int
noncomputable def Bf (N : Nat) (f : Fv → Option Fc) : Fv → Option Fc
  | (x0, x1, x2) =>
  ac (decide (x0 > x1)) (
  ac (within (IntKind.wrap .i64 (x0 - 1)) (List.length x2)) (
  Option.bind (x2[Int.toNat (IntKind.wrap .i64 (x0 - 1))]?) fun y0 =>
  ac (y0 == 0) (
  Option.bind (f (IntKind.wrap .i64 (x0 - 1), x1, x2)) fun r => some r) (
  some ((x2, x0)))) (
  none)) (
  some ((x2, x0)))
noncomputable def lC (N : Nat) : Nat → Fv → Option Fc
  | 0, _ => none
  | k + 1, x => Bf N (lC N k) x
theorem Kh (N : Nat) (k : Nat) : ap Tryz.prog Tryz.f67 [] 28 (FJ.cut (lC N k)) :=
  FJ.loopT ah aB (BF N) Tryz.f67 [] (cuts := []) trivial (by decide +kernel) (by kernel_rfl) (Bf N) (lC N) (fun _ => rfl) (fun _ _ => rfl) (fun f x => by kernel_rfl) k
@[reducible] def w67 : List SP := [⟨[.ro (.int .i64)], []⟩]
noncomputable def RE (N : Nat) : ((List Int) × Int) → Option ((List Int))
  | (x0, x1) =>
  Option.bind (lC N N ((↑(List.length x0) : Int), x1, x0)) fun y0 =>
  ac (decide ((0 : Int) ≤ y0.2 ∧ y0.2 ≤ (↑(List.length y0.1) : Int))) (
  some (List.take (Int.toNat y0.2 - 0) (List.drop (0 : Nat) y0.1))) (
  none)
noncomputable def YM (N : Nat) : Pk → Tr Pk := aj s67 w67 (RE N)
theorem TJ (N : Nat) : aO Tryz.prog 67 (YM N) :=
  (ag ah aB (BF N) Tryz.func67 s67 w67 [] (cuts := [(28, FJ.cut (lC N N))]) ⟨Kh N N, trivial⟩ (fun _ => by kernel_rfl) (by kernel_rfl) (RE N) (fun x => by kernel_rfl))
@[reducible] def s52 : SP := ⟨[.int .i64], []⟩
noncomputable def Vx (N : Nat) : au := []
theorem K7 (N : Nat) : ai Tryz.prog (Vx N) := trivial
@[reducible] def w52 : List SP := [⟨[.bool], []⟩]
noncomputable def Xu (N : Nat) : (Int) → Option (Bool)
  | x0 =>
  ac (decide (x0 < 0)) (
  some (true)) (
  some (decide (x0 > 15)))
noncomputable def Yi (N : Nat) : Pk → Tr Pk := aj s52 w52 (Xu N)
theorem NA (N : Nat) : aO Tryz.prog 52 (Yi N) :=
  (ag ah aB (K7 N) Tryz.func52 s52 w52 [] (cuts := []) trivial (fun _ => by kernel_rfl) (by kernel_rfl) (Xu N) (fun x => by kernel_rfl))
@[reducible] def s90a : SP := ⟨[.ro (.int .i64), .fn 52], []⟩
noncomputable def RQ (N : Nat) : au := [(52, Yi N)]
theorem xe (N : Nat) : ai Tryz.prog (RQ N) := ⟨NA N, trivial⟩
@[reducible] def AL : LD := ⟨26, [7, 1, 0, 8], [(.ret, [4]), (.exit 0, [])], ⟨[.int .i64, .fn 52, .ro (.int .i64), .int .i64], []⟩, [(.ret, ⟨[.int .i64], []⟩), (.exit 0, ⟨[], []⟩)]⟩
abbrev An : Type := Int × (List Int) × Int
abbrev zR : Type := ((Int) ⊕ (Unit))
noncomputable def sd (N : Nat) (f : An → Option zR) : An → Option zR
  | (x0, x1, x2) =>
  ac (decide (x2 < x0)) (
  ac (within x2 (List.length x1)) (
  Option.bind (x1[Int.toNat x2]?) fun y0 =>
  Option.bind (Xu N y0) fun y1 =>
  ac (y1) (
  some (.inl (x2))) (
  Option.bind (f (x0, x1, IntKind.wrap .i64 (x2 + 1))) fun r => match r with | .inl y => some (.inl y) | .inr y => some (.inr y))) (
  none)) (
  some (.inr (())))
noncomputable def fP (N : Nat) : Nat → An → Option zR
  | 0, _ => none
  | k + 1, x => sd N (fP N k) x
theorem Gn (N : Nat) (k : Nat) : ap Tryz.prog Tryz.f90 [] 26 (AL.cut (fP N k)) :=
  AL.loopT ah aB (xe N) Tryz.f90 [] (cuts := []) trivial (by decide +kernel) (by kernel_rfl) (sd N) (fP N) (fun _ => rfl) (fun _ _ => rfl) (fun f x => by kernel_rfl) k
@[reducible] def w90a : List SP := [⟨[.int .i64], []⟩]
noncomputable def QI (N : Nat) : ((List Int)) → Option (Int)
  | x0 =>
  Option.bind (fP N N ((↑(List.length x0) : Int), x0, (0 : Int))) fun y0 =>
  match y0 with
  | .inl y1 =>
  some (y1)
  | .inr y1 =>
  some ((-1 : Int))
noncomputable def Wv (N : Nat) : Pk → Tr Pk := aj s90a w90a (QI N)
theorem PF (N : Nat) : aO Tryz.prog 90 (Wv N) :=
  (ag ah aB (xe N) Tryz.func90 s90a w90a [] (cuts := [(26, AL.cut (fP N N))]) ⟨Gn N N, trivial⟩ (fun _ => by kernel_rfl) (by kernel_rfl) (QI N) (fun x => by kernel_rfl))
noncomputable def YG (N : Nat) : Pk → Tr Pk := (Wv N)
theorem TD (N : Nat) : aO Tryz.prog 90 (YG N) := (PF N)
@[reducible] def s53a : SP := ⟨[.ro (.int .i64), .fn 52], []⟩
noncomputable def RR (N : Nat) : au := [(90, YG N), (52, Yi N)]
theorem HY (N : Nat) : ai Tryz.prog (RR N) := ⟨TD N, NA N, trivial⟩
@[reducible] def w53a : List SP := [⟨[.bool], []⟩]
noncomputable def Jx (N : Nat) : ((List Int)) → Option (Bool)
  | x0 =>
  Option.bind (QI N x0) fun y0 =>
  some (decide (y0 ≥ 0))
noncomputable def Ww (N : Nat) : Pk → Tr Pk := aj s53a w53a (Jx N)
theorem PG (N : Nat) : aO Tryz.prog 53 (Ww N) :=
  (ag ah aB (HY N) Tryz.func53 s53a w53a [] (cuts := []) trivial (fun _ => by kernel_rfl) (by kernel_rfl) (Jx N) (fun x => by kernel_rfl))
noncomputable def YP (N : Nat) : Pk → Tr Pk := (Ww N)
theorem TM (N : Nat) : aO Tryz.prog 53 (YP N) := (PG N)
@[reducible] def s91 : SP := ⟨[.ro (.int .i64), .int .i64, .int .i64], []⟩
noncomputable def U7 (N : Nat) : au := []
theorem BD (N : Nat) : ai Tryz.prog (U7 N) := trivial
@[reducible] def FG : LD := ⟨28, [7, 2, 0, 1], [(.ret, [6]), (.exit 0, [7])], ⟨[.int .i64, .int .i64, .ro (.int .i64), .int .i64], []⟩, [(.exit 0, ⟨[.int .i64], []⟩)]⟩
abbrev Ft : Type := Int × Int × (List Int) × Int
abbrev Fa : Type := Int
noncomputable def GD (N : Nat) (f : Ft → Option Fa) : Ft → Option Fa
  | (x0, x1, x2, x3) =>
  ac (decide (x0 < x1)) (
  ac (decide (IntKind.wrap .i64 (x3 + x0) < (↑(List.length x2) : Int))) (
  ac (within (IntKind.wrap .i64 (x3 + x0)) (List.length x2)) (
  Option.bind (x2[Int.toNat (IntKind.wrap .i64 (x3 + x0))]?) fun y0 =>
  ac (within x3 (List.length x2)) (
  Option.bind (x2[Int.toNat x3]?) fun y1 =>
  ac (y0 == y1) (
  Option.bind (f (IntKind.wrap .i64 (x0 + 1), x1, x2, x3)) fun r => some r) (
  some (x0))) (
  none)) (
  none)) (
  some (x0))) (
  some (x0))
noncomputable def nJ (N : Nat) : Nat → Ft → Option Fa
  | 0, _ => none
  | k + 1, x => GD N (nJ N k) x
theorem Ke (N : Nat) (k : Nat) : ap Tryz.prog Tryz.f91 [] 28 (FG.cut (nJ N k)) :=
  FG.loopT ah aB (BD N) Tryz.f91 [] (cuts := []) trivial (by decide +kernel) (by kernel_rfl) (GD N) (nJ N) (fun _ => rfl) (fun _ _ => rfl) (fun f x => by kernel_rfl) k
@[reducible] def w91 : List SP := [⟨[.int .i64], []⟩]
noncomputable def Xp (N : Nat) : ((List Int) × Int × Int) → Option (Int)
  | (x0, x1, x2) =>
  Option.bind (nJ N N ((1 : Int), x2, x0, x1)) fun y0 =>
  some (y0)
noncomputable def YF (N : Nat) : Pk → Tr Pk := aj s91 w91 (Xp N)
theorem TC (N : Nat) : aO Tryz.prog 91 (YF N) :=
  (ag ah aB (BD N) Tryz.func91 s91 w91 [] (cuts := [(28, FG.cut (nJ N N))]) ⟨Ke N N, trivial⟩ (fun _ => by kernel_rfl) (by kernel_rfl) (Xp N) (fun x => by kernel_rfl))
@[reducible] def s54 : SP := ⟨[.ro (.int .i64)], []⟩
noncomputable def Vw (N : Nat) : au := [(91, YF N)]
theorem nU (N : Nat) : ai Tryz.prog (Vw N) := ⟨TC N, trivial⟩
@[reducible] def i7 : LD := ⟨29863, [37, 3, 4, 5, 0], [(.ret, [2]), (.exit 2, [4, 5, 3, 0]), (.exit 1, [3, 4, 0]), (.exit 0, [3]), (.normal, [4, 5, 3, 0])], ⟨[.bool, .sl 0, .int .i64, .int .i64, .ro (.int .i64)], [.row y0 96]⟩, [(.normal, ⟨[.int .i64, .int .i64, .sl 0, .ro (.int .i64)], [.row y0 96]⟩)]⟩
noncomputable def dl (N : Nat) : (Bool × Int × Int × (List Int) × (List (Int × (Int × (Int × Unit))))) → Option (Int × Int × (List Int) × (List (Int × (Int × (Int × Unit)))))
  | (x0, x1, x2, x3, x4) =>
  ac (x0) (
  ac (decide ((List.length x4 + List.length [((17 : Int), (3 : Int), IntKind.wrap .i64 (x2 - 3), ())]) * 24 ≤ (140737488355328 : Nat) ∧ List.length x4 + List.length [((17 : Int), (3 : Int), IntKind.wrap .i64 (x2 - 3), ())] ≤ 140737488355328)) (
  some ((x1, x2, x3, x4 ++ [((17 : Int), (3 : Int), IntKind.wrap .i64 (x2 - 3), ())]))) (
  none)) (
  ac (decide (x1 > 0)) (
  ac (within x1 (List.length x3)) (
  Option.bind (x3[Int.toNat x1]?) fun y0 =>
  ac (within (IntKind.wrap .i64 (x1 - 1)) (List.length x3)) (
  Option.bind (x3[Int.toNat (IntKind.wrap .i64 (x1 - 1))]?) fun y1 =>
  ac (y0 == y1) (
  ac (decide (x2 > 2)) (
  ac (decide ((List.length x4 + List.length [((16 : Int), (2 : Int), IntKind.wrap .i64 ((if (6 : Int) < x2 then (6 : Int) else x2) - 3), ())]) * 24 ≤ (140737488355328 : Nat) ∧ List.length x4 + List.length [((16 : Int), (2 : Int), IntKind.wrap .i64 ((if (6 : Int) < x2 then (6 : Int) else x2) - 3), ())] ≤ 140737488355328)) (
  some ((x1, if (6 : Int) < x2 then (6 : Int) else x2, x3, x4 ++ [((16 : Int), (2 : Int), IntKind.wrap .i64 ((if (6 : Int) < x2 then (6 : Int) else x2) - 3), ())]))) (
  none)) (
  ac (within x1 (List.length x3)) (
  Option.bind (x3[Int.toNat x1]?) fun y2 =>
  ac (decide ((List.length x4 + List.length [(y2, (0 : Int), (0 : Int), ())]) * 24 ≤ (140737488355328 : Nat) ∧ List.length x4 + List.length [(y2, (0 : Int), (0 : Int), ())] ≤ 140737488355328)) (
  some ((x1, (1 : Int), x3, x4 ++ [(y2, (0 : Int), (0 : Int), ())]))) (
  none)) (
  none))) (
  ac (within x1 (List.length x3)) (
  Option.bind (x3[Int.toNat x1]?) fun y3 =>
  ac (decide ((List.length x4 + List.length [(y3, (0 : Int), (0 : Int), ())]) * 24 ≤ (140737488355328 : Nat) ∧ List.length x4 + List.length [(y3, (0 : Int), (0 : Int), ())] ≤ 140737488355328)) (
  some ((x1, (1 : Int), x3, x4 ++ [(y3, (0 : Int), (0 : Int), ())]))) (
  none)) (
  none))) (
  none)) (
  none)) (
  ac (within x1 (List.length x3)) (
  Option.bind (x3[Int.toNat x1]?) fun y4 =>
  ac (decide ((List.length x4 + List.length [(y4, (0 : Int), (0 : Int), ())]) * 24 ≤ (140737488355328 : Nat) ∧ List.length x4 + List.length [(y4, (0 : Int), (0 : Int), ())] ≤ 140737488355328)) (
  some ((x1, (1 : Int), x3, x4 ++ [(y4, (0 : Int), (0 : Int), ())]))) (
  none)) (
  none)))
theorem jT (N : Nat) (k : Nat) : ap Tryz.prog Tryz.f54 [] 29863 (i7.cut (dl N)) :=
  i7.pieceT ah aB (nU N) Tryz.f54 [] (cuts := []) trivial (by decide +kernel) (by kernel_rfl) (dl N) (fun x => by kernel_rfl)
@[reducible] def oW : LD := ⟨7465, [21, 3, 4, 5, 0], [(.ret, [2]), (.exit 2, [4, 5, 3, 0]), (.exit 1, [3, 4, 0]), (.exit 0, [3]), (.normal, [4, 5, 3, 0])], ⟨[.bool, .sl 0, .int .i64, .int .i64, .ro (.int .i64)], [.row y0 96]⟩, [(.normal, ⟨[.int .i64, .int .i64, .sl 0, .ro (.int .i64)], [.row y0 96]⟩)]⟩
noncomputable def d6 (N : Nat) : (Bool × Int × Int × (List Int) × (List (Int × (Int × (Int × Unit))))) → Option (Int × Int × (List Int) × (List (Int × (Int × (Int × Unit)))))
  | (x0, x1, x2, x3, x4) =>
  ac (x0) (
  ac (decide ((List.length x4 + List.length [((18 : Int), (7 : Int), IntKind.wrap .i64 (x2 - 11), ())]) * 24 ≤ (140737488355328 : Nat) ∧ List.length x4 + List.length [((18 : Int), (7 : Int), IntKind.wrap .i64 (x2 - 11), ())] ≤ 140737488355328)) (
  some ((x1, x2, x3, x4 ++ [((18 : Int), (7 : Int), IntKind.wrap .i64 (x2 - 11), ())]))) (
  none)) (
  ac (within x1 (List.length x3)) (
  Option.bind (x3[Int.toNat x1]?) fun y0 =>
  ac (y0 == 0) (
  Option.bind (dl N (decide (x2 > 2), x1, x2, x3, x4)) fun y1 =>
  some ((y1.1, y1.2.1, y1.2.2.1, y1.2.2.2))) (
  Option.bind (dl N (false, x1, x2, x3, x4)) fun y2 =>
  some ((y2.1, y2.2.1, y2.2.2.1, y2.2.2.2)))) (
  none))
theorem rF (N : Nat) (k : Nat) : ap Tryz.prog Tryz.f54 [] 7465 (oW.cut (d6 N)) :=
  oW.pieceT ah aB (nU N) Tryz.f54 [] (cuts := [(29863, i7.cut (dl N))]) ⟨jT N N, trivial⟩ (by decide +kernel) (by kernel_rfl) (d6 N) (fun x => by kernel_rfl)
@[reducible] def FL : LD := ⟨58, [3, 4, 0], [(.ret, [2]), (.exit 0, [3])], ⟨[.sl 0, .int .i64, .ro (.int .i64)], [.row y0 96]⟩, [(.exit 0, ⟨[.sl 0], [.row y0 96]⟩)]⟩
abbrev FA : Type := Int × (List Int) × (List (Int × (Int × (Int × Unit))))
abbrev Fh : Type := (List (Int × (Int × (Int × Unit))))
noncomputable def Bi (N : Nat) (f : FA → Option Fh) : FA → Option Fh
  | (x0, x1, x2) =>
  ac (decide (x0 < (↑(List.length x1) : Int))) (
  Option.bind (Xp N (x1, x0, (138 : Int))) fun y0 =>
  ac (within x0 (List.length x1)) (
  Option.bind (x1[Int.toNat x0]?) fun y1 =>
  ac (y1 == 0) (
  Option.bind (d6 N (decide (y0 > 10), x0, y0, x1, x2)) fun y2 =>
  Option.bind (f (IntKind.wrap .i64 (y2.1 + y2.2.1), y2.2.2.1, y2.2.2.2)) fun r => some r) (
  Option.bind (d6 N (false, x0, y0, x1, x2)) fun y3 =>
  Option.bind (f (IntKind.wrap .i64 (y3.1 + y3.2.1), y3.2.2.1, y3.2.2.2)) fun r => some r)) (
  none)) (
  some (x2))
noncomputable def iy (N : Nat) : Nat → FA → Option Fh
  | 0, _ => none
  | k + 1, x => Bi N (iy N k) x
theorem Kj (N : Nat) (k : Nat) : ap Tryz.prog Tryz.f54 [] 58 (FL.cut (iy N k)) :=
  FL.loopT ah aB (nU N) Tryz.f54 [] (cuts := [(29863, i7.cut (dl N)), (7465, oW.cut (d6 N))]) ⟨jT N N, rF N N, trivial⟩ (by decide +kernel) (by kernel_rfl) (Bi N) (iy N) (fun _ => rfl) (fun _ _ => rfl) (fun f x => by kernel_rfl) k
@[reducible] def w54 : List SP := [⟨[.sl 0], [.row y0 96]⟩]
noncomputable def Xt (N : Nat) : ((List Int)) → Option ((List (Int × (Int × (Int × Unit)))))
  | x0 =>
  Option.bind (iy N N ((0 : Int), x0, [])) fun y0 =>
  some (y0)
noncomputable def YO (N : Nat) : Pk → Tr Pk := aj s54 w54 (Xt N)
theorem TL (N : Nat) : aO Tryz.prog 54 (YO N) :=
  (ag ah aB (nU N) Tryz.func54 s54 w54 [] (cuts := [(29863, i7.cut (dl N)), (7465, oW.cut (d6 N)), (58, FL.cut (iy N N))]) ⟨jT N N, rF N N, Kj N N, trivial⟩ (fun _ => by kernel_rfl) (by kernel_rfl) (Xt N) (fun x => by kernel_rfl))
@[reducible] def s58 : SP := ⟨[], []⟩
noncomputable def Vs (N : Nat) : au := []
theorem BH (N : Nat) : ai Tryz.prog (Vs N) := trivial
@[reducible] def FK : LD := ⟨58, [1, 2], [(.ret, [0]), (.exit 0, [1])], ⟨[.sl 0, .int .i64], [.row (.int .i64) 3]⟩, [(.exit 0, ⟨[.sl 0], [.row (.int .i64) 3]⟩)]⟩
abbrev Fx : Type := Int × (List Int)
abbrev Ff : Type := (List Int)
noncomputable def OE (N : Nat) (f : Fx → Option Ff) : Fx → Option Ff
  | (x0, x1) =>
  ac (decide (x0 < 8)) (
  ac (decide ((List.length x1 + List.length [IntKind.wrap .i64 ((7 : Int) + x0), IntKind.wrap .i64 ((8 : Int) - x0)]) * 8 ≤ (140737488355328 : Nat) ∧ List.length x1 + List.length [IntKind.wrap .i64 ((7 : Int) + x0), IntKind.wrap .i64 ((8 : Int) - x0)] ≤ 140737488355328)) (
  Option.bind (f (IntKind.wrap .i64 (x0 + 1), x1 ++ [IntKind.wrap .i64 ((7 : Int) + x0), IntKind.wrap .i64 ((8 : Int) - x0)])) fun r => some r) (
  none)) (
  some (x1))
noncomputable def vL (N : Nat) : Nat → Fx → Option Ff
  | 0, _ => none
  | k + 1, x => OE N (vL N k) x
theorem Ki (N : Nat) (k : Nat) : ap Tryz.prog Tryz.f58 [] 58 (FK.cut (vL N k)) :=
  FK.loopT ah aB (BH N) Tryz.f58 [] (cuts := []) trivial (by decide +kernel) (by kernel_rfl) (OE N) (vL N) (fun _ => rfl) (fun _ _ => rfl) (fun f x => by kernel_rfl) k
@[reducible] def w58 : List SP := [⟨[.sl 0], [.row (.int .i64) 3]⟩]
noncomputable def Xr (N : Nat) : (Unit) → Option ((List Int))
  | () =>
  Option.bind (vL N N ((1 : Int), [(16 : Int), (17 : Int), (18 : Int), (0 : Int)])) fun y0 =>
  ac (decide ((List.length y0 + 1) * 8 ≤ (140737488355328 : Nat) ∧ List.length y0 + 1 ≤ (140737488355328 : Nat))) (
  some (y0 ++ [(15 : Int)])) (
  none)
noncomputable def Ye (N : Nat) : Pk → Tr Pk := aj s58 w58 (Xr N)
theorem Nw (N : Nat) : aO Tryz.prog 58 (Ye N) :=
  (ag ah aB (BH N) Tryz.func58 s58 w58 [] (cuts := [(58, FK.cut (vL N N))]) ⟨Ki N N, trivial⟩ (fun _ => by kernel_rfl) (by kernel_rfl) (Xr N) (fun x => by kernel_rfl))
@[reducible] def s21 : SP := ⟨[.adr 0 [], .ro (.int .i64), .ro (.int .i64)], [.var (.agg [.sl 1, .int .i64, .int .i64]), .row (.int .u8) 5]⟩
noncomputable def VO (N : Nat) : au := [(53, YP N), (55, Yh N), (54, YO N), (56, Yg N), (57, Yf N), (58, Ye N), (14, Ue N), (59, Yd N)]
theorem iE (N : Nat) : ai Tryz.prog (VO N) := ⟨TM N, Nz N, TL N, Ny N, Nx N, Nw N, qi N, Nv N, trivial⟩
@[reducible] def jK : LD := ⟨506, [58, 57, 1, 2, 8, 0, 56, 9], [(.ret, [6]), (.exit 0, [9, 0, 8, 2, 1])], ⟨[.int .i64, .int .i64, .ro (.int .i64), .ro (.int .i64), .sl 1, .adr 0 [], .sl 1, .sl 2], [.var (.agg [.sl 3, .int .i64, .int .i64]), .row y0 96, .row (.int .i64) 3, .row (.int .u8) 5]⟩, [(.exit 0, ⟨[.sl 1, .adr 0 [], .sl 2, .ro (.int .i64), .ro (.int .i64)], [.var (.agg [.sl 3, .int .i64, .int .i64]), .row (.int .i64) 3, .row y0 96, .row (.int .u8) 5]⟩)]⟩
abbrev Au : Type := Int × Int × (List Int) × (List Int) × Int × Int × (List (Int × (Int × (Int × Unit)))) × (List Int) × (List Int)
abbrev zX : Type := (List Int) × (List Int) × Int × Int × (List Int) × (List (Int × (Int × (Int × Unit)))) × (List Int)
noncomputable def si (N : Nat) (f : Au → Option zX) : Au → Option zX
  | (x0, x1, x2, x3, x4, x5, x6, x7, x8) =>
  ac (decide (x0 < x1)) (
  ac (within x0 (List.length x6)) (
  Option.bind (x6[Int.toNat x0]?) fun y0 =>
  ac (within y0.1 (List.length x7)) (
  Option.bind (x7[Int.toNat y0.1]?) fun y1 =>
  ac (within y0.1 (List.length x7)) (
  Option.bind (x7[Int.toNat y0.1]?) fun y2 =>
  Option.bind (f (IntKind.wrap .i64 (x0 + 1), x1, x2, x3, x4, x5, x6, List.set x7 (Int.toNat y0.1) (IntKind.wrap .i64 (y1 + 1)), x8)) fun r => some r) (
  none)) (
  none)) (
  none)) (
  some ((x3, x2, x4, x5, x7, x6, x8)))
noncomputable def dm (N : Nat) : Nat → Au → Option zX
  | 0, _ => none
  | k + 1, x => si N (dm N k) x
theorem gN (N : Nat) (k : Nat) : ap Tryz.prog Tryz.f21 [0] 506 (jK.cut (dm N k)) :=
  jK.loopT ah aB (iE N) Tryz.f21 [0] (cuts := []) trivial (by decide +kernel) (by kernel_rfl) (si N) (dm N) (fun _ => rfl) (fun _ _ => rfl) (fun f x => by kernel_rfl) k
@[reducible] def ja : LD := ⟨8188, [17, 12, 0, 8, 14, 16, 2, 1], [(.ret, [6]), (.exit 2, [1, 2, 16, 17, 14, 8, 0, 12])], ⟨[.int .i64, .sl 1, .adr 0 [], .sl 2, .sl 3, .sl 4, .ro (.int .i64), .ro (.int .i64)], [.var (.agg [.sl 5, .int .i64, .int .i64]), .row (.int .i64) 3, .row y0 96, .row y2 105, .row (.int .i64) 3, .row (.int .u8) 5]⟩, [(.exit 2, ⟨[.ro (.int .i64), .ro (.int .i64), .sl 1, .int .i64, .sl 2, .sl 3, .adr 0 [], .sl 4], [.var (.agg [.sl 5, .int .i64, .int .i64]), .row (.int .i64) 3, .row y2 105, .row y0 96, .row (.int .i64) 3, .row (.int .u8) 5]⟩)]⟩
abbrev uU : Type := Int × (List Int) × (List Int) × Int × Int × (List Int) × (List (Int × (Int × (Int × Unit)))) × (List (Int × (Int × Unit))) × (List Int) × (List Int)
abbrev uy : Type := (List Int) × (List Int) × Int × Int × Int × (List Int) × (List (Int × (Int × Unit))) × (List (Int × (Int × (Int × Unit)))) × (List Int) × (List Int)
noncomputable def v8 (N : Nat) (f : uU → Option uy) : uU → Option uy
  | (x0, x1, x2, x3, x4, x5, x6, x7, x8, x9) =>
  ac (decide (x0 > 4)) (
  ac (within (IntKind.wrap .i64 (x0 - 1)) (List.length x8)) (
  Option.bind (x8[Int.toNat (IntKind.wrap .i64 (x0 - 1))]?) fun y0 =>
  ac (within y0 (List.length x5)) (
  Option.bind (x5[Int.toNat y0]?) fun y1 =>
  ac (y1 == 0) (
  Option.bind (f (IntKind.wrap .i64 (x0 - 1), x1, x2, x3, x4, x5, x6, x7, x8, x9)) fun r => some r) (
  some ((x2, x1, x0, x3, x4, x8, x7, x6, x5, x9)))) (
  none)) (
  none)) (
  some ((x2, x1, x0, x3, x4, x8, x7, x6, x5, x9)))
noncomputable def dw (N : Nat) : Nat → uU → Option uy
  | 0, _ => none
  | k + 1, x => v8 N (dw N k) x
theorem ii (N : Nat) (k : Nat) : ap Tryz.prog Tryz.f21 [0] 8188 (ja.cut (dw N k)) :=
  ja.loopT ah aB (iE N) Tryz.f21 [0] (cuts := [(506, jK.cut (dm N N))]) ⟨gN N N, trivial⟩ (by decide +kernel) (by kernel_rfl) (v8 N) (dw N) (fun _ => rfl) (fun _ _ => rfl) (fun f x => by kernel_rfl) k
@[reducible] def gF : LD := ⟨262138, [116, 115, 14, 8, 114, 0, 12], [(.ret, [6]), (.exit 4, [8, 14, 0])], ⟨[.int .i64, .int .i64, .sl 1, .sl 2, .slp 3 (.c 0) .h, .adr 0 [], .sl 4], [.var (.agg [.sl 5, .int .i64, .int .i64]), .row y2 105, .row y0 96, .row (.int .i64) 3, .row (.int .i64) 3, .row (.int .u8) 5]⟩, [(.exit 4, ⟨[.sl 1, .sl 2, .adr 0 []], [.var (.agg [.sl 3, .int .i64, .int .i64]), .row y0 96, .row y2 105, .row (.int .u8) 5]⟩)]⟩
abbrev nC : Type := Int × Int × Nat × Int × Int × (List (Int × (Int × Unit))) × (List (Int × (Int × (Int × Unit)))) × (List Int) × (List Int) × (List Int)
abbrev nu : Type := Int × Int × (List (Int × (Int × (Int × Unit)))) × (List (Int × (Int × Unit))) × (List Int)
noncomputable def jX (N : Nat) (f : nC → Option nu) : nC → Option nu
  | (x0, x1, x2, x3, x4, x5, x6, x7, x8, x9) =>
  ac (decide (x0 < x1)) (
  ac (within x0 x2) (
  Option.bind (x7[(0 : Nat) + Int.toNat x0]?) fun y0 =>
  ac (within y0 (List.length x8)) (
  Option.bind (x8[Int.toNat y0]?) fun y1 =>
  Option.bind (vU N ((3 : Int), y1, x3, x4, x9)) fun y2 =>
  Option.bind (f (IntKind.wrap .i64 (x0 + 1), x1, x2, y2.1, y2.2.1, x5, x6, x7, x8, y2.2.2)) fun r => some r) (
  none)) (
  none)) (
  some ((x3, x4, x6, x5, x9)))
noncomputable def bL (N : Nat) : Nat → nC → Option nu
  | 0, _ => none
  | k + 1, x => jX N (bL N k) x
theorem iz (N : Nat) (k : Nat) : ap Tryz.prog Tryz.f21 [0] 262138 (gF.cut (bL N k)) :=
  gF.loopT ah aB (iE N) Tryz.f21 [0] (cuts := [(506, jK.cut (dm N N)), (8188, ja.cut (dw N N))]) ⟨gN N N, ii N N, trivial⟩ (by decide +kernel) (by kernel_rfl) (jX N) (bL N) (fun _ => rfl) (fun _ _ => rfl) (fun f x => by kernel_rfl) k
@[reducible] def jJ : LD := ⟨524282, [129, 128, 127, 14, 0], [(.ret, [6]), (.exit 6, [])], ⟨[.int .i64, .int .i64, .sl 1, .sl 2, .adr 0 []], [.var (.agg [.sl 3, .int .i64, .int .i64]), .row y0 96, .row y2 105, .row (.int .u8) 5]⟩, [(.exit 6, ⟨[], [.var (.agg [.sl 1, .int .i64, .int .i64]), .row (.int .u8) 5]⟩)]⟩
abbrev nB : Type := Int × Int × Int × Int × (List (Int × (Int × (Int × Unit)))) × (List (Int × (Int × Unit))) × (List Int)
abbrev nt : Type := Int × Int × (List Int)
noncomputable def jW (N : Nat) (f : nB → Option nt) : nB → Option nt
  | (x0, x1, x2, x3, x4, x5, x6) =>
  ac (decide (x0 < x1)) (
  ac (within x0 (List.length x4)) (
  Option.bind (x4[Int.toNat x0]?) fun y0 =>
  ac (within y0.1 (List.length x5)) (
  Option.bind (x5[Int.toNat y0.1]?) fun y1 =>
  Option.bind (QR N (y1.1, y1.2.1, x2, x3, x6)) fun y2 =>
  Option.bind (vU N (y0.2.1, y0.2.2.1, y2.1, y2.2.1, y2.2.2)) fun y3 =>
  Option.bind (f (IntKind.wrap .i64 (x0 + 1), x1, y3.1, y3.2.1, x4, x5, y3.2.2)) fun r => some r) (
  none)) (
  none)) (
  some ((x2, x3, x6)))
noncomputable def cq (N : Nat) : Nat → nB → Option nt
  | 0, _ => none
  | k + 1, x => jW N (cq N k) x
theorem mR (N : Nat) (k : Nat) : ap Tryz.prog Tryz.f21 [0] 524282 (jJ.cut (cq N k)) :=
  jJ.loopT ah aB (iE N) Tryz.f21 [0] (cuts := [(506, jK.cut (dm N N)), (8188, ja.cut (dw N N)), (262138, gF.cut (bL N N))]) ⟨gN N N, ii N N, iz N N, trivial⟩ (by decide +kernel) (by kernel_rfl) (jW N) (cq N) (fun _ => rfl) (fun _ _ => rfl) (fun f x => by kernel_rfl) k
@[reducible] def FN : LD := ⟨15, [1, 2, 0], [(.ret, [6]), (.normal, [6])], ⟨[.ro (.int .i64), .ro (.int .i64), .adr 0 []], [.var (.agg [.sl 1, .int .i64, .int .i64]), .row (.int .u8) 5]⟩, [(.ret, ⟨[.int .i64], [.var (.agg [.sl 1, .int .i64, .int .i64]), .row (.int .u8) 5]⟩)]⟩
noncomputable def qM (N : Nat) : ((List Int) × (List Int) × Int × Int × (List Int)) → Option (Int × Int × Int × (List Int))
  | (x0, x1, x2, x3, x4) =>
  Option.bind (US N [x0, x1]) fun y0 =>
  Option.bind (Xt N y0) fun y1 =>
  Option.bind (dm N N ((0 : Int), (↑(List.length y1) : Int), x0, x1, x2, x3, y1, List.replicate (19 : Nat) (0 : Int), x4)) fun y2 =>
  Option.bind (UR N (y2.2.2.2.2.1, (7 : Int))) fun y3 =>
  Option.bind (RF N y3.2) fun y4 =>
  Option.bind (Xr N ()) fun y5 =>
  Option.bind (dw N N ((↑(List.length y5) : Int), y2.1, y2.2.1, y2.2.2.1, y2.2.2.2.1, y3.2, y2.2.2.2.2.2.1, y4.2, y5, y2.2.2.2.2.2.2)) fun y6 =>
  Option.bind (vU N ((5 : Int), IntKind.wrap .i64 ((↑(List.length y6.1) : Int) - (257 : Int)), y6.2.2.2.1, y6.2.2.2.2.1, y6.2.2.2.2.2.2.2.2.2)) fun y7 =>
  Option.bind (vU N ((5 : Int), IntKind.wrap .i64 ((↑(List.length y6.2.1) : Int) - (1 : Int)), y7.1, y7.2.1, y7.2.2)) fun y8 =>
  Option.bind (vU N ((4 : Int), IntKind.wrap .i64 (y6.2.2.1 - 4), y8.1, y8.2.1, y8.2.2)) fun y9 =>
  ac (decide ((0 : Int) ≤ y6.2.2.1 ∧ y6.2.2.1 ≤ (↑(List.length y6.2.2.2.2.2.1) : Int))) (
  Option.bind (bL N N ((0 : Int), (↑(Int.toNat y6.2.2.1 - 0) : Int), Int.toNat y6.2.2.1 - 0, y9.1, y9.2.1, y6.2.2.2.2.2.2.1, y6.2.2.2.2.2.2.2.1, y6.2.2.2.2.2.1, y6.2.2.2.2.2.2.2.2.1, y9.2.2)) fun y10 =>
  Option.bind (cq N N ((0 : Int), (↑(List.length y10.2.2.1) : Int), y10.1, y10.2.1, y10.2.2.1, y10.2.2.2.1, y10.2.2.2.2)) fun y11 =>
  some (((0 : Int), y11.1, y11.2.1, y11.2.2))) (
  none)
theorem Kl (N : Nat) (k : Nat) : ap Tryz.prog Tryz.f21 [0] 15 (FN.cut (qM N)) :=
  FN.pieceT ah aB (iE N) Tryz.f21 [0] (cuts := [(506, jK.cut (dm N N)), (8188, ja.cut (dw N N)), (262138, gF.cut (bL N N)), (524282, jJ.cut (cq N N))]) ⟨gN N N, ii N N, iz N N, mR N N, trivial⟩ (by decide +kernel) (by kernel_rfl) (qM N) (fun x => by kernel_rfl)
@[reducible] def w21 : List SP := [⟨[.int .i64], [.var (.agg [.sl 1, .int .i64, .int .i64]), .row (.int .u8) 5]⟩]
noncomputable def Xx (N : Nat) : ((List Int) × (List Int) × Int × Int × (List Int)) → Option (Int × Int × Int × (List Int))
  | (x0, x1, x2, x3, x4) =>
  ac (decide ((↑(List.length x0) : Int) < (257 : Int))) (
  some (((1 : Int), x2, x3, x4))) (
  ac (decide ((↑(List.length x0) : Int) > (286 : Int))) (
  some (((1 : Int), x2, x3, x4))) (
  ac (decide ((↑(List.length x1) : Int) < (1 : Int))) (
  some (((1 : Int), x2, x3, x4))) (
  ac (decide ((↑(List.length x1) : Int) > (30 : Int))) (
  some (((1 : Int), x2, x3, x4))) (
  Option.bind (Jx N x0) fun y0 =>
  ac (y0) (
  some (((1 : Int), x2, x3, x4))) (
  Option.bind (Jx N x1) fun y1 =>
  ac (y1) (
  some (((1 : Int), x2, x3, x4))) (
  Option.bind (qM N (x0, x1, x2, x3, x4)) fun y2 =>
  some ((y2.1, y2.2.1, y2.2.2.1, y2.2.2.2))))))))
noncomputable def YX (N : Nat) : Pk → Tr Pk := aj s21 w21 (Xx N)
theorem TU (N : Nat) : aO Tryz.prog 21 (YX N) :=
  (ag ah aB (iE N) Tryz.func21 s21 w21 [0] (cuts := [(506, jK.cut (dm N N)), (8188, ja.cut (dw N N)), (262138, gF.cut (bL N N)), (524282, jJ.cut (cq N N)), (15, FN.cut (qM N))]) ⟨gN N N, ii N N, iz N N, mR N N, Kl N N, trivial⟩ (fun _ => by kernel_rfl) (by kernel_rfl) (Xx N) (fun x => by kernel_rfl))
@[reducible] def s26 : SP := ⟨[.adr 0 [], .ro y0, .bool, .bool], [.var (.agg [.sl 1, .int .i64, .int .i64]), .row (.int .u8) 5]⟩
noncomputable def VN (N : Nat) : au := [(27, Wx N), (46, Yk N), (64, Yc N), (65, YN N), (66, Yb N), (68, YL N), (67, YM N), (21, YX N)]
theorem BJ (N : Nat) : ai Tryz.prog (VN N) := ⟨zL N, NC N, Nu N, TK N, Nt N, TI N, TJ N, TU N, trivial⟩
@[reducible] def FM : LD := ⟨26, [19, 1, 0, 3, 2, 18, 20], [(.ret, [8]), (.exit 0, [2, 3, 0, 1])], ⟨[.int .i64, .ro y0, .adr 0 [], .bool, .bool, .ro y0, .int .i64], [.var (.agg [.sl 1, .int .i64, .int .i64]), .row (.int .u8) 5]⟩, [(.ret, ⟨[.int .i64], [.var (.agg [.sl 1, .int .i64, .int .i64]), .row (.int .u8) 5]⟩), (.exit 0, ⟨[.bool, .bool, .adr 0 [], .ro y0], [.var (.agg [.sl 1, .int .i64, .int .i64]), .row (.int .u8) 5]⟩)]⟩
abbrev FB : Type := Int × (List (Int × (Int × (Int × Unit)))) × Bool × Bool × (List (Int × (Int × (Int × Unit)))) × Int × Int × Int × (List Int)
abbrev Fi : Type := ((Int × Int × Int × (List Int)) ⊕ (Bool × Bool × (List (Int × (Int × (Int × Unit)))) × Int × Int × (List Int)))
noncomputable def Bj (N : Nat) (f : FB → Option Fi) : FB → Option Fi
  | (x0, x1, x2, x3, x4, x5, x6, x7, x8) =>
  ac (decide (x5 < x0)) (
  ac (within x5 (List.length x4)) (
  Option.bind (x4[Int.toNat x5]?) fun y0 =>
  Option.bind (RN N (y0.1, y0.2.1, y0.2.2.1)) fun y1 =>
  ac (!y1) (
  some (.inl (((1 : Int), x6, x7, x8)))) (
  Option.bind (f (x0, x1, x2, x3, x4, IntKind.wrap .i64 (x5 + 1), x6, x7, x8)) fun r => match r with | .inl y => some (.inl y) | .inr y => some (.inr y))) (
  none)) (
  some (.inr ((x3, x2, x1, x6, x7, x8))))
noncomputable def jP (N : Nat) : Nat → FB → Option Fi
  | 0, _ => none
  | k + 1, x => Bj N (jP N k) x
theorem Kk (N : Nat) (k : Nat) : ap Tryz.prog Tryz.f26 [0] 26 (FM.cut (jP N k)) :=
  FM.loopT ah aB (BJ N) Tryz.f26 [0] (cuts := []) trivial (by decide +kernel) (by kernel_rfl) (Bj N) (jP N) (fun _ => rfl) (fun _ _ => rfl) (fun f x => by kernel_rfl) k
@[reducible] def w26 : List SP := [⟨[.int .i64], [.var (.agg [.sl 1, .int .i64, .int .i64]), .row (.int .u8) 5]⟩]
noncomputable def RO (N : Nat) : ((List (Int × (Int × (Int × Unit)))) × Bool × Bool × Int × Int × (List Int)) → Option (Int × Int × Int × (List Int))
  | (x0, x1, x2, x3, x4, x5) =>
  Option.bind (jP N N ((↑(List.length x0) : Int), x0, x2, x1, x0, (0 : Int), x3, x4, x5)) fun y0 =>
  match y0 with
  | .inl y1 =>
  some ((y1.1, y1.2.1, y1.2.2.1, y1.2.2.2))
  | .inr y1 =>
  ac (!y1.1) (
  Option.bind (N1 N (y1.2.1, (1 : Int), y1.2.2.2.1, y1.2.2.2.2.1, y1.2.2.2.2.2)) fun y2 =>
  Option.bind (Xq N ()) fun y3 =>
  Option.bind (UQ N (y3.1, y3.2, y1.2.2.1, y2.1, y2.2.1, y2.2.2)) fun y4 =>
  some ((y4.1, y4.2.1, y4.2.2.1, y4.2.2.2))) (
  Option.bind (QQ N y1.2.2.1) fun y5 =>
  Option.bind (RD N y5.1) fun y6 =>
  Option.bind (RE N (y6, (257 : Int))) fun y7 =>
  Option.bind (RD N y5.2) fun y8 =>
  Option.bind (RE N (y8, (1 : Int))) fun y9 =>
  Option.bind (N1 N (y1.2.1, (2 : Int), y1.2.2.2.1, y1.2.2.2.2.1, y1.2.2.2.2.2)) fun y10 =>
  Option.bind (Xx N (y7, y9, y10.1, y10.2.1, y10.2.2)) fun y11 =>
  ac (y11.1 != 0) (
  some ((y11.1, y11.2.1, y11.2.2.1, y11.2.2.2))) (
  Option.bind (UQ N (y7, y9, y1.2.2.1, y11.2.1, y11.2.2.1, y11.2.2.2)) fun y12 =>
  some ((y12.1, y12.2.1, y12.2.2.1, y12.2.2.2))))
noncomputable def YW (N : Nat) : Pk → Tr Pk := aj s26 w26 (RO N)
theorem TT (N : Nat) : aO Tryz.prog 26 (YW N) :=
  (ag ah aB (BJ N) Tryz.func26 s26 w26 [0] (cuts := [(26, FM.cut (jP N N))]) ⟨Kk N N, trivial⟩ (fun _ => by kernel_rfl) (by kernel_rfl) (RO N) (fun x => by kernel_rfl))
noncomputable def D8 (N : Nat) : au := [(26, YW N)]
theorem H4 (N : Nat) : ai Tryz.prog (D8 N) := ⟨TT N, trivial⟩
noncomputable def TZ (N : Nat) : Pk → Tr Pk := EF (wn Tryz.prog ah (D8 N) []) Tryz.f160
theorem Hm (N : Nat) : aO Tryz.prog 160 (TZ N) :=
  tO (E := wn Tryz.prog ah (D8 N) []) (jA aB (H4 N)) Tryz.func160 (show Tryz.f160.body = some (rv Tryz.f160) by kernel_rfl) (by decide +kernel) (fun _ => dj trivial)
noncomputable def D9 (N : Nat) : au := [(18, YY N), (160, TZ N)]
theorem Ij (N : Nat) : ai Tryz.prog (D9 N) := ⟨TW N, Hm N, trivial⟩
noncomputable def W0 (N : Nat) : Pk → Tr Pk := EF (wn Tryz.prog ah (D9 N) []) Tryz.f138
theorem Qk (N : Nat) : aO Tryz.prog 138 (W0 N) :=
  tO (E := wn Tryz.prog ah (D9 N) []) (jA aB (Ij N)) Tryz.func138 (show Tryz.f138.body = some (rv Tryz.f138) by kernel_rfl) (by decide +kernel) (fun _ => dj trivial)
noncomputable def Ea (N : Nat) : au := []
theorem Ik (N : Nat) : ai Tryz.prog (Ea N) := trivial
noncomputable def W1 (N : Nat) : Pk → Tr Pk := EF (wn Tryz.prog ah (Ea N) []) Tryz.f137
theorem Ql (N : Nat) : aO Tryz.prog 137 (W1 N) :=
  tO (E := wn Tryz.prog ah (Ea N) []) (jA aB (Ik N)) Tryz.func137 (show Tryz.f137.body = some (rv Tryz.f137) by kernel_rfl) (by decide +kernel) (fun _ => dj trivial)
noncomputable def Eb (N : Nat) : au := [(15, Yq N)]
theorem Il (N : Nat) : ai Tryz.prog (Eb N) := ⟨NJ N, trivial⟩
noncomputable def W2 (N : Nat) : Pk → Tr Pk := EF (wn Tryz.prog ah (Eb N) []) Tryz.f136
theorem Qm (N : Nat) : aO Tryz.prog 136 (W2 N) :=
  tO (E := wn Tryz.prog ah (Eb N) []) (jA aB (Il N)) Tryz.func136 (show Tryz.f136.body = some (rv Tryz.f136) by kernel_rfl) (by decide +kernel) (fun _ => dj trivial)
@[reducible] def s111 : SP := ⟨[.adr 0 [], .ro y0, .str, .bool], [.var (.agg [.sl 1, .int .i64, .int .i64]), .row (.int .u8) 5]⟩
noncomputable def SU (N : Nat) : au := [(138, W0 N), (137, W1 N), (136, W2 N), (160, TZ N)]
theorem Iy (N : Nat) : ai Tryz.prog (SU N) := ⟨Qk N, Ql N, Qm N, Hm N, trivial⟩
@[reducible] def w111 : List SP := [⟨[.tup []], [.var (.agg [.sl 1, .int .i64, .int .i64]), .row (.int .u8) 5]⟩]
noncomputable def rR (N : Nat) : ((List (Int × (Int × (Int × Unit)))) × ByteArray × Bool × Int × Int × (List Int)) → Option (Int × Int × (List Int))
  | (x0, x1, x2, x3, x4, x5) =>
  Option.bind (RO N (x0, false, x2, (0 : Int), (0 : Int), [])) fun y0 =>
  Option.bind (UV N (y0.2.2.2, y0.2.1, y0.2.2.1, ())) fun y1 =>
  Option.bind (RO N (x0, true, x2, (0 : Int), (0 : Int), [])) fun y2 =>
  Option.bind (UV N (y2.2.2.2, y2.2.1, y2.2.2.1, ())) fun y3 =>
  ac (decide (y3 < y1)) (
  ac (decide (y3 < IntKind.wrap .i64 (IntKind.wrap .i64 ((8 : Int) * (↑(ByteArray.size x1) : Int)) + IntKind.wrap .i64 ((40 : Int) * IntKind.wrap .i64 ((1 : Int) + IntKind.wrap .i64 (Int.tdiv (↑(ByteArray.size x1) : Int) (65535 : Int))))))) (
  Option.bind (RO N (x0, true, x2, x3, x4, x5)) fun y4 =>
  some ((y4.2.1, y4.2.2.1, y4.2.2.2))) (
  Option.bind (RP N (x1, x2, x3, x4, x5)) fun y5 =>
  some ((y5.1, y5.2.1, y5.2.2)))) (
  ac (decide (y1 < IntKind.wrap .i64 (IntKind.wrap .i64 ((8 : Int) * (↑(ByteArray.size x1) : Int)) + IntKind.wrap .i64 ((40 : Int) * IntKind.wrap .i64 ((1 : Int) + IntKind.wrap .i64 (Int.tdiv (↑(ByteArray.size x1) : Int) (65535 : Int))))))) (
  Option.bind (RO N (x0, false, x2, x3, x4, x5)) fun y6 =>
  some ((y6.2.1, y6.2.2.1, y6.2.2.2))) (
  Option.bind (RP N (x1, x2, x3, x4, x5)) fun y7 =>
  some ((y7.1, y7.2.1, y7.2.2))))
noncomputable def Xg (N : Nat) : Pk → Tr Pk := aj s111 w111 (rR N)
theorem QA (N : Nat) : aO Tryz.prog 111 (Xg N) :=
  (ag ah aB (Iy N) Tryz.func111 s111 w111 [0] (cuts := []) trivial (fun _ => by kernel_rfl) (by kernel_rfl) (rR N) (fun x => by kernel_rfl))
end Go.Proofs.YteddgkplkjldcaaGreat.Am
