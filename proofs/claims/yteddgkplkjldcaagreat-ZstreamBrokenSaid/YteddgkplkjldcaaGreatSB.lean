/- The seat's Go functions come to the Lean functions written here, wherever these give an answer (part B). -/
import Derived.Test.YteddgkplkjldcaaGreatSA
set_option linter.unusedSimpArgs false
set_option linter.unusedVariables false
set_option maxRecDepth 100000
namespace Go.Proofs.YteddgkplkjldcaaGreat.Am
open Go.Am
@[reducible] def s75 : SP := ⟨[.adr 0 [], .str, .str, .bool], [.var (.agg [.sl 1, .int .i64, .int .i64]), .row (.int .u8) 5]⟩
noncomputable def Vk (N : Nat) : au := [(110, Xh N), (111, Xg N)]
theorem kq (N : Nat) : ai Tryz.prog (Vk N) := ⟨QB N, QA N, trivial⟩
@[reducible] def dX : LD := ⟨7322, [11, 30, 29, 0, 3, 2, 10, 8, 28], [(.ret, []), (.exit 2, [8, 10, 2, 11, 3, 0]), (.exit 1, [3, 0, 2, 8]), (.exit 0, [])], ⟨[.int .i64, .int .i64, .int .i64, .adr 0 [], .bool, .str, .int .i64, .sl 1, .slp 1 (.c 0) .h], [.var (.agg [.sl 2, .int .i64, .int .i64]), .row y0 52, .row (.int .u8) 5]⟩, [(.exit 2, ⟨[.sl 1, .int .i64, .str, .int .i64, .bool, .adr 0 []], [.var (.agg [.sl 2, .int .i64, .int .i64]), .row y0 52, .row (.int .u8) 5]⟩)]⟩
abbrev uP : Type := Int × Int × Int × Bool × ByteArray × Int × Nat × Int × Int × (List (Int × (Int × (Int × Unit)))) × (List Int)
abbrev ut : Type := Int × ByteArray × Int × Bool × Int × Int × (List (Int × (Int × (Int × Unit)))) × (List Int)
noncomputable def pf (N : Nat) (f : uP → Option ut) : uP → Option ut
  | (x0, x1, x2, x3, x4, x5, x6, x7, x8, x9, x10) =>
  ac (decide (x1 < x2)) (
  ac (within x1 x6) (
  Option.bind (x9[(0 : Nat) + Int.toNat x1]?) fun y0 =>
  Option.bind (f (IntKind.wrap .i64 (x0 + if (1 : Int) > y0.2.1 then (1 : Int) else y0.2.1), IntKind.wrap .i64 (x1 + 1), x2, x3, x4, x5, x6, x7, x8, x9, x10)) fun r => some r) (
  none)) (
  some ((x5, x4, x0, x3, x7, x8, x9, x10)))
noncomputable def cH (N : Nat) : Nat → uP → Option ut
  | 0, _ => none
  | k + 1, x => pf N (cH N k) x
theorem ig (N : Nat) (k : Nat) : ap Tryz.prog Tryz.f75 [0] 7322 (dX.cut (cH N k)) :=
  dX.loopT ah aB (kq N) Tryz.f75 [0] (cuts := []) trivial (by decide +kernel) (by kernel_rfl) (pf N) (cH N) (fun _ => rfl) (fun _ _ => rfl) (fun f x => by kernel_rfl) k
@[reducible] def i6 : LD := ⟨7322, [11, 30, 29, 0, 3, 2, 10, 8, 28], [(.ret, []), (.exit 2, [8, 10, 2, 11, 3, 0]), (.exit 1, [3, 0, 2, 8]), (.exit 0, [])], ⟨[.int .i64, .int .i64, .int .i64, .adr 0 [], .bool, .str, .int .i64, .slp 1 .h .h, .slp 1 .h .h], [.var (.agg [.sl 2, .int .i64, .int .i64]), .row y0 52, .row (.int .u8) 5]⟩, [(.exit 2, ⟨[.slp 1 .h .h, .int .i64, .str, .int .i64, .bool, .adr 0 []], [.var (.agg [.sl 2, .int .i64, .int .i64]), .row y0 52, .row (.int .u8) 5]⟩)]⟩
abbrev qv : Type := Int × Int × Int × Bool × ByteArray × Int × Nat × Nat × Nat × Nat × Int × Int × (List (Int × (Int × (Int × Unit)))) × (List Int)
abbrev qj : Type := Nat × Nat × Int × ByteArray × Int × Bool × Int × Int × (List (Int × (Int × (Int × Unit)))) × (List Int)
noncomputable def yB (N : Nat) (f : qv → Option qj) : qv → Option qj
  | (x0, x1, x2, x3, x4, x5, x6, x7, x8, x9, x10, x11, x12, x13) =>
  ac (decide (x1 < x2)) (
  ac (within x1 x9) (
  Option.bind (x12[x8 + Int.toNat x1]?) fun y0 =>
  Option.bind (f (IntKind.wrap .i64 (x0 + if (1 : Int) > y0.2.1 then (1 : Int) else y0.2.1), IntKind.wrap .i64 (x1 + 1), x2, x3, x4, x5, x6, x7, x8, x9, x10, x11, x12, x13)) fun r => some r) (
  none)) (
  some ((x6, x7, x5, x4, x0, x3, x10, x11, x12, x13)))
noncomputable def dL (N : Nat) : Nat → qv → Option qj
  | 0, _ => none
  | k + 1, x => yB N (dL N k) x
theorem jS (N : Nat) (k : Nat) : ap Tryz.prog Tryz.f75 [0] 7322 (i6.cut (dL N k)) :=
  i6.loopT ah aB (kq N) Tryz.f75 [0] (cuts := [(7322, dX.cut (cH N N))]) ⟨ig N N, trivial⟩ (by decide +kernel) (by kernel_rfl) (yB N) (dL N) (fun _ => rfl) (fun _ _ => rfl) (fun f x => by kernel_rfl) k
@[reducible] def fM : LD := ⟨14, [9, 3, 0, 2, 8], [(.ret, []), (.exit 0, [])], ⟨[.bool, .bool, .adr 0 [], .str, .slp 1 .h .h], [.var (.agg [.sl 2, .int .i64, .int .i64]), .row y0 52, .row (.int .u8) 5]⟩, [(.exit 0, ⟨[], [.var (.agg [.sl 1, .int .i64, .int .i64]), .row (.int .u8) 5]⟩)]⟩
abbrev Ao : Type := Bool × Bool × ByteArray × Nat × Nat × Int × Int × (List (Int × (Int × (Int × Unit)))) × (List Int)
abbrev zS : Type := Int × Int × (List Int)
noncomputable def pg (N : Nat) (f : Ao → Option zS) : Ao → Option zS
  | (x0, x1, x2, x3, x4, x5, x6, x7, x8) =>
  ac (x0) (
  ac (decide (((0 : Int) ≤ if (8192 : Int) < (↑x4 : Int) then (8192 : Int) else (↑x4 : Int)) ∧ (if (8192 : Int) < (↑x4 : Int) then (8192 : Int) else (↑x4 : Int)) ≤ (↑x4 : Int))) (
  Option.bind (dL N N ((0 : Int), (0 : Int), (↑(Int.toNat (if (8192 : Int) < (↑x4 : Int) then (8192 : Int) else (↑x4 : Int)) - 0) : Int), x1, x2, if (8192 : Int) < (↑x4 : Int) then (8192 : Int) else (↑x4 : Int), x3, x4, x3 + 0, Int.toNat (if (8192 : Int) < (↑x4 : Int) then (8192 : Int) else (↑x4 : Int)) - 0, x5, x6, x7, x8)) fun y0 =>
  ac (decide ((0 : Int) ≤ y0.2.2.1 ∧ y0.2.2.1 ≤ (↑y0.2.1 : Int))) (
  ac (decide ((0 : Int) ≤ y0.2.2.2.2.1 ∧ y0.2.2.2.2.1 ≤ (↑(ByteArray.size y0.2.2.2.1) : Int))) (
  ac y0.2.2.2.2.2.1 (
  Option.bind (rR N (List.take (Int.toNat y0.2.2.1 - 0) (List.drop (y0.1 + 0) y0.2.2.2.2.2.2.2.2.1), ByteArray.extract y0.2.2.2.1 (0 : Nat) (Int.toNat y0.2.2.2.2.1), y0.2.2.1 == (↑y0.2.1 : Int), y0.2.2.2.2.2.2.1, y0.2.2.2.2.2.2.2.1, y0.2.2.2.2.2.2.2.2.2)) fun y1 =>
  ac (decide ((0 : Int) ≤ y0.2.2.1 ∧ y0.2.2.1 ≤ (↑y0.2.1 : Int))) (
  ac (decide ((0 : Int) ≤ y0.2.2.2.2.1 ∧ y0.2.2.2.2.1 ≤ (↑(ByteArray.size y0.2.2.2.1) : Int))) (
  Option.bind (f (false, y0.2.2.2.2.2.1, ByteArray.extract y0.2.2.2.1 (Int.toNat y0.2.2.2.2.1) (ByteArray.size y0.2.2.2.1), y0.1 + Int.toNat y0.2.2.1, y0.2.1 - Int.toNat y0.2.2.1, y1.1, y1.2.1, y0.2.2.2.2.2.2.2.2.1, y1.2.2)) fun r => some r) (
  none)) (
  none)) (
  Option.bind (rR N (List.take (Int.toNat y0.2.2.1 - 0) (List.drop (y0.1 + 0) y0.2.2.2.2.2.2.2.2.1), ByteArray.extract y0.2.2.2.1 (0 : Nat) (Int.toNat y0.2.2.2.2.1), false, y0.2.2.2.2.2.2.1, y0.2.2.2.2.2.2.2.1, y0.2.2.2.2.2.2.2.2.2)) fun y2 =>
  ac (decide ((0 : Int) ≤ y0.2.2.1 ∧ y0.2.2.1 ≤ (↑y0.2.1 : Int))) (
  ac (decide ((0 : Int) ≤ y0.2.2.2.2.1 ∧ y0.2.2.2.2.1 ≤ (↑(ByteArray.size y0.2.2.2.1) : Int))) (
  Option.bind (f (false, y0.2.2.2.2.2.1, ByteArray.extract y0.2.2.2.1 (Int.toNat y0.2.2.2.2.1) (ByteArray.size y0.2.2.2.1), y0.1 + Int.toNat y0.2.2.1, y0.2.1 - Int.toNat y0.2.2.1, y2.1, y2.2.1, y0.2.2.2.2.2.2.2.2.1, y2.2.2)) fun r => some r) (
  none)) (
  none))) (
  none)) (
  none)) (
  none)) (
  ac (decide ((↑x4 : Int) > (0 : Int))) (
  ac (decide (((0 : Int) ≤ if (8192 : Int) < (↑x4 : Int) then (8192 : Int) else (↑x4 : Int)) ∧ (if (8192 : Int) < (↑x4 : Int) then (8192 : Int) else (↑x4 : Int)) ≤ (↑x4 : Int))) (
  Option.bind (dL N N ((0 : Int), (0 : Int), (↑(Int.toNat (if (8192 : Int) < (↑x4 : Int) then (8192 : Int) else (↑x4 : Int)) - 0) : Int), x1, x2, if (8192 : Int) < (↑x4 : Int) then (8192 : Int) else (↑x4 : Int), x3, x4, x3 + 0, Int.toNat (if (8192 : Int) < (↑x4 : Int) then (8192 : Int) else (↑x4 : Int)) - 0, x5, x6, x7, x8)) fun y3 =>
  ac (decide ((0 : Int) ≤ y3.2.2.1 ∧ y3.2.2.1 ≤ (↑y3.2.1 : Int))) (
  ac (decide ((0 : Int) ≤ y3.2.2.2.2.1 ∧ y3.2.2.2.2.1 ≤ (↑(ByteArray.size y3.2.2.2.1) : Int))) (
  ac y3.2.2.2.2.2.1 (
  Option.bind (rR N (List.take (Int.toNat y3.2.2.1 - 0) (List.drop (y3.1 + 0) y3.2.2.2.2.2.2.2.2.1), ByteArray.extract y3.2.2.2.1 (0 : Nat) (Int.toNat y3.2.2.2.2.1), y3.2.2.1 == (↑y3.2.1 : Int), y3.2.2.2.2.2.2.1, y3.2.2.2.2.2.2.2.1, y3.2.2.2.2.2.2.2.2.2)) fun y4 =>
  ac (decide ((0 : Int) ≤ y3.2.2.1 ∧ y3.2.2.1 ≤ (↑y3.2.1 : Int))) (
  ac (decide ((0 : Int) ≤ y3.2.2.2.2.1 ∧ y3.2.2.2.2.1 ≤ (↑(ByteArray.size y3.2.2.2.1) : Int))) (
  Option.bind (f (false, y3.2.2.2.2.2.1, ByteArray.extract y3.2.2.2.1 (Int.toNat y3.2.2.2.2.1) (ByteArray.size y3.2.2.2.1), y3.1 + Int.toNat y3.2.2.1, y3.2.1 - Int.toNat y3.2.2.1, y4.1, y4.2.1, y3.2.2.2.2.2.2.2.2.1, y4.2.2)) fun r => some r) (
  none)) (
  none)) (
  Option.bind (rR N (List.take (Int.toNat y3.2.2.1 - 0) (List.drop (y3.1 + 0) y3.2.2.2.2.2.2.2.2.1), ByteArray.extract y3.2.2.2.1 (0 : Nat) (Int.toNat y3.2.2.2.2.1), false, y3.2.2.2.2.2.2.1, y3.2.2.2.2.2.2.2.1, y3.2.2.2.2.2.2.2.2.2)) fun y5 =>
  ac (decide ((0 : Int) ≤ y3.2.2.1 ∧ y3.2.2.1 ≤ (↑y3.2.1 : Int))) (
  ac (decide ((0 : Int) ≤ y3.2.2.2.2.1 ∧ y3.2.2.2.2.1 ≤ (↑(ByteArray.size y3.2.2.2.1) : Int))) (
  Option.bind (f (false, y3.2.2.2.2.2.1, ByteArray.extract y3.2.2.2.1 (Int.toNat y3.2.2.2.2.1) (ByteArray.size y3.2.2.2.1), y3.1 + Int.toNat y3.2.2.1, y3.2.1 - Int.toNat y3.2.2.1, y5.1, y5.2.1, y3.2.2.2.2.2.2.2.2.1, y5.2.2)) fun r => some r) (
  none)) (
  none))) (
  none)) (
  none)) (
  none)) (
  some ((x5, x6, x8))))
noncomputable def d5 (N : Nat) : Nat → Ao → Option zS
  | 0, _ => none
  | k + 1, x => pg N (d5 N k) x
theorem vY (N : Nat) (k : Nat) : ap Tryz.prog Tryz.f75 [0] 14 (fM.cut (d5 N k)) :=
  fM.loopT ah aB (kq N) Tryz.f75 [0] (cuts := [(7322, IX dX.s.I (dX.cut (cH N N)) (i6.cut (dL N N)))]) ⟨fun c' h => gu (ig N N c' h) (jS N N c' h) rfl rfl, trivial⟩ (by decide +kernel) (by kernel_rfl) (pg N) (d5 N) (fun _ => rfl) (fun _ _ => rfl) (fun f x => by kernel_rfl) k
@[reducible] def FI : LD := ⟨14, fM.live, fM.out, ⟨[.bool, .bool, .adr 0 [], .str, .sl 1], [.var (.agg [.sl 2, .int .i64, .int .i64]), .row y0 52, .row (.int .u8) 5]⟩, fM.w⟩
noncomputable def Be (N : Nat) (f : (Bool × Bool × ByteArray × Nat × Nat × Int × Int × (List (Int × (Int × (Int × Unit)))) × (List Int)) → Option (Int × Int × (List Int))) : (Bool × Bool × ByteArray × Int × Int × (List (Int × (Int × (Int × Unit)))) × (List Int)) → Option (Int × Int × (List Int))
  | (x0, x1, x2, x3, x4, x5, x6) =>
  ac (x0) (
  ac (decide (((0 : Int) ≤ if (8192 : Int) < (↑(List.length x5) : Int) then (8192 : Int) else (↑(List.length x5) : Int)) ∧ (if (8192 : Int) < (↑(List.length x5) : Int) then (8192 : Int) else (↑(List.length x5) : Int)) ≤ (↑(List.length x5) : Int))) (
  Option.bind (cH N N ((0 : Int), (0 : Int), (↑(Int.toNat (if (8192 : Int) < (↑(List.length x5) : Int) then (8192 : Int) else (↑(List.length x5) : Int)) - 0) : Int), x1, x2, if (8192 : Int) < (↑(List.length x5) : Int) then (8192 : Int) else (↑(List.length x5) : Int), Int.toNat (if (8192 : Int) < (↑(List.length x5) : Int) then (8192 : Int) else (↑(List.length x5) : Int)) - 0, x3, x4, x5, x6)) fun y0 =>
  ac (decide ((0 : Int) ≤ y0.1 ∧ y0.1 ≤ (↑(List.length y0.2.2.2.2.2.2.1) : Int))) (
  ac (decide ((0 : Int) ≤ y0.2.2.1 ∧ y0.2.2.1 ≤ (↑(ByteArray.size y0.2.1) : Int))) (
  ac y0.2.2.2.1 (
  Option.bind (rR N (List.take (Int.toNat y0.1 - 0) (List.drop (0 : Nat) y0.2.2.2.2.2.2.1), ByteArray.extract y0.2.1 (0 : Nat) (Int.toNat y0.2.2.1), y0.1 == (↑(List.length y0.2.2.2.2.2.2.1) : Int), y0.2.2.2.2.1, y0.2.2.2.2.2.1, y0.2.2.2.2.2.2.2)) fun y1 =>
  ac (decide ((0 : Int) ≤ y0.1 ∧ y0.1 ≤ (↑(List.length y0.2.2.2.2.2.2.1) : Int))) (
  ac (decide ((0 : Int) ≤ y0.2.2.1 ∧ y0.2.2.1 ≤ (↑(ByteArray.size y0.2.1) : Int))) (
  Option.bind (f (false, y0.2.2.2.1, ByteArray.extract y0.2.1 (Int.toNat y0.2.2.1) (ByteArray.size y0.2.1), Int.toNat y0.1, List.length y0.2.2.2.2.2.2.1 - Int.toNat y0.1, y1.1, y1.2.1, y0.2.2.2.2.2.2.1, y1.2.2)) fun r => some r) (
  none)) (
  none)) (
  Option.bind (rR N (List.take (Int.toNat y0.1 - 0) (List.drop (0 : Nat) y0.2.2.2.2.2.2.1), ByteArray.extract y0.2.1 (0 : Nat) (Int.toNat y0.2.2.1), false, y0.2.2.2.2.1, y0.2.2.2.2.2.1, y0.2.2.2.2.2.2.2)) fun y2 =>
  ac (decide ((0 : Int) ≤ y0.1 ∧ y0.1 ≤ (↑(List.length y0.2.2.2.2.2.2.1) : Int))) (
  ac (decide ((0 : Int) ≤ y0.2.2.1 ∧ y0.2.2.1 ≤ (↑(ByteArray.size y0.2.1) : Int))) (
  Option.bind (f (false, y0.2.2.2.1, ByteArray.extract y0.2.1 (Int.toNat y0.2.2.1) (ByteArray.size y0.2.1), Int.toNat y0.1, List.length y0.2.2.2.2.2.2.1 - Int.toNat y0.1, y2.1, y2.2.1, y0.2.2.2.2.2.2.1, y2.2.2)) fun r => some r) (
  none)) (
  none))) (
  none)) (
  none)) (
  none)) (
  ac (decide ((↑(List.length x5) : Int) > (0 : Int))) (
  ac (decide (((0 : Int) ≤ if (8192 : Int) < (↑(List.length x5) : Int) then (8192 : Int) else (↑(List.length x5) : Int)) ∧ (if (8192 : Int) < (↑(List.length x5) : Int) then (8192 : Int) else (↑(List.length x5) : Int)) ≤ (↑(List.length x5) : Int))) (
  Option.bind (cH N N ((0 : Int), (0 : Int), (↑(Int.toNat (if (8192 : Int) < (↑(List.length x5) : Int) then (8192 : Int) else (↑(List.length x5) : Int)) - 0) : Int), x1, x2, if (8192 : Int) < (↑(List.length x5) : Int) then (8192 : Int) else (↑(List.length x5) : Int), Int.toNat (if (8192 : Int) < (↑(List.length x5) : Int) then (8192 : Int) else (↑(List.length x5) : Int)) - 0, x3, x4, x5, x6)) fun y3 =>
  ac (decide ((0 : Int) ≤ y3.1 ∧ y3.1 ≤ (↑(List.length y3.2.2.2.2.2.2.1) : Int))) (
  ac (decide ((0 : Int) ≤ y3.2.2.1 ∧ y3.2.2.1 ≤ (↑(ByteArray.size y3.2.1) : Int))) (
  ac y3.2.2.2.1 (
  Option.bind (rR N (List.take (Int.toNat y3.1 - 0) (List.drop (0 : Nat) y3.2.2.2.2.2.2.1), ByteArray.extract y3.2.1 (0 : Nat) (Int.toNat y3.2.2.1), y3.1 == (↑(List.length y3.2.2.2.2.2.2.1) : Int), y3.2.2.2.2.1, y3.2.2.2.2.2.1, y3.2.2.2.2.2.2.2)) fun y4 =>
  ac (decide ((0 : Int) ≤ y3.1 ∧ y3.1 ≤ (↑(List.length y3.2.2.2.2.2.2.1) : Int))) (
  ac (decide ((0 : Int) ≤ y3.2.2.1 ∧ y3.2.2.1 ≤ (↑(ByteArray.size y3.2.1) : Int))) (
  Option.bind (f (false, y3.2.2.2.1, ByteArray.extract y3.2.1 (Int.toNat y3.2.2.1) (ByteArray.size y3.2.1), Int.toNat y3.1, List.length y3.2.2.2.2.2.2.1 - Int.toNat y3.1, y4.1, y4.2.1, y3.2.2.2.2.2.2.1, y4.2.2)) fun r => some r) (
  none)) (
  none)) (
  Option.bind (rR N (List.take (Int.toNat y3.1 - 0) (List.drop (0 : Nat) y3.2.2.2.2.2.2.1), ByteArray.extract y3.2.1 (0 : Nat) (Int.toNat y3.2.2.1), false, y3.2.2.2.2.1, y3.2.2.2.2.2.1, y3.2.2.2.2.2.2.2)) fun y5 =>
  ac (decide ((0 : Int) ≤ y3.1 ∧ y3.1 ≤ (↑(List.length y3.2.2.2.2.2.2.1) : Int))) (
  ac (decide ((0 : Int) ≤ y3.2.2.1 ∧ y3.2.2.1 ≤ (↑(ByteArray.size y3.2.1) : Int))) (
  Option.bind (f (false, y3.2.2.2.1, ByteArray.extract y3.2.1 (Int.toNat y3.2.2.1) (ByteArray.size y3.2.1), Int.toNat y3.1, List.length y3.2.2.2.2.2.2.1 - Int.toNat y3.1, y5.1, y5.2.1, y3.2.2.2.2.2.2.1, y5.2.2)) fun r => some r) (
  none)) (
  none))) (
  none)) (
  none)) (
  none)) (
  some ((x3, x4, x6))))
noncomputable def A3 (N : Nat) (k : Nat) : (Bool × Bool × ByteArray × Int × Int × (List (Int × (Int × (Int × Unit)))) × (List Int)) → Option (Int × Int × (List Int)) := Be N (d5 N k)
theorem Kg (N : Nat) (k : Nat) : ap Tryz.prog Tryz.f75 [0] 14 (FI.cut (A3 N k)) :=
  FI.loop2T ah aB (kq N) fM.s Tryz.f75 [0] (cuts := [(7322, IX dX.s.I (dX.cut (cH N N)) (i6.cut (dL N N))), (14, fM.cut (d5 N N))]) ⟨fun c' h => gu (ig N N c' h) (jS N N c' h) rfl rfl, vY N N, trivial⟩ (by decide +kernel) (by kernel_rfl) (Be N) (pg N) (d5 N) (fun _ => rfl) (fun _ _ => rfl) (fun f g x => by kernel_rfl) (fun f g x => by kernel_rfl) k
@[reducible] def w75 : List SP := [⟨[.tup []], [.var (.agg [.sl 1, .int .i64, .int .i64]), .row (.int .u8) 5]⟩]
noncomputable def UP (N : Nat) : (ByteArray × ByteArray × Bool × Int × Int × (List Int)) → Option (Int × Int × (List Int))
  | (x0, x1, x2, x3, x4, x5) =>
  Option.bind (Oz N (x0, x1)) fun y0 =>
  Option.bind (A3 N N (true, x2, x1, x3, x4, y0, x5)) fun y1 =>
  some ((y1.1, y1.2.1, y1.2.2))
noncomputable def Ya (N : Nat) : Pk → Tr Pk := aj s75 w75 (UP N)
theorem Ns (N : Nat) : aO Tryz.prog 75 (Ya N) :=
  (ag ah aB (kq N) Tryz.func75 s75 w75 [0] (cuts := [(7322, IX dX.s.I (dX.cut (cH N N)) (i6.cut (dL N N))), (14, IX fM.s.I (fM.cut (d5 N N)) (FI.cut (A3 N N)))]) ⟨fun c' h => gu (ig N N c' h) (jS N N c' h) rfl rfl, fun c' h => gu (vY N N c' h) (Kg N N c' h) rfl rfl, trivial⟩ (fun _ => by kernel_rfl) (by kernel_rfl) (UP N) (fun x => by kernel_rfl))
@[reducible] def s19 : SP := ⟨[.radr y1 [.i 0 3]], []⟩
noncomputable def VP (N : Nat) : au := []
theorem Lp (N : Nat) : ai Tryz.prog (VP N) := trivial
@[reducible] def w19 : List SP := [⟨[.str], []⟩]
noncomputable def Ut (N : Nat) : (((List Int) × (Int × (Int × Unit)))) → Option (ByteArray)
  | x0 =>
  ac (decide (x0.2.2.1 > 0)) (
  ac (decide ((↑(ByteArray.size (aN x0.1) + ByteArray.size (aN [IntKind.wrap .u8 x0.2.1])) : Int) > (9223372036854775807 : Int))) (
  none) (
  some (aN x0.1 ++ aN [IntKind.wrap .u8 x0.2.1]))) (
  some (aN x0.1))
noncomputable def Yp (N : Nat) : Pk → Tr Pk := aj s19 w19 (Ut N)
theorem NI (N : Nat) : aO Tryz.prog 19 (Yp N) :=
  (ag ah aB (Lp N) Tryz.func19 s19 w19 [] (cuts := []) trivial (fun _ => by kernel_rfl) (by kernel_rfl) (Ut N) (fun x => by kernel_rfl))
@[reducible] def s30 : SP := ⟨[.str, .str], []⟩
noncomputable def VL (N : Nat) : au := [(75, Ya N), (19, Yp N)]
theorem Lm (N : Nat) : ai Tryz.prog (VL N) := ⟨Ns N, NI N, trivial⟩
@[reducible] def w30 : List SP := [⟨[.str], []⟩]
noncomputable def Yv (N : Nat) : (ByteArray × ByteArray) → Option (ByteArray)
  | (x0, x1) =>
  Option.bind (UP N (x0, x1, true, (0 : Int), (0 : Int), [])) fun y0 =>
  Option.bind (Ut N (y0.2.2, y0.1, y0.2.1, ())) fun y1 =>
  some (y1)
noncomputable def YV (N : Nat) : Pk → Tr Pk := aj s30 w30 (Yv N)
theorem TS (N : Nat) : aO Tryz.prog 30 (YV N) :=
  (ag ah aB (Lm N) Tryz.func30 s30 w30 [] (cuts := []) trivial (fun _ => by kernel_rfl) (by kernel_rfl) (Yv N) (fun x => by kernel_rfl))
@[reducible] def y5 : Ty := (.cons (.sl .bool) (.cons (.int .i64) (.cons (.int .i64) .unit)))
abbrev Fp : Type := Int × Int × Int
abbrev E7 : Type := Int
noncomputable def GC (N : Nat) (f : Fp → Option E7) : Fp → Option E7
  | (x0, x1, x2) =>
  ac (decide (x1 < x2)) (
  Option.bind (f (IntKind.wrap .i64 (x0 * 2), IntKind.wrap .i64 (x1 + 1), x2)) fun r => some r) (
  some (x0))
noncomputable def vE (N : Nat) : Nat → Fp → Option E7
  | 0, _ => none
  | k + 1, x => GC N (vE N k) x
noncomputable def Yt (N : Nat) : (Int) → Option (Int)
  | x0 =>
  Option.bind (vE N N ((1 : Int), (0 : Int), x0)) fun y0 =>
  some (y0)
noncomputable def Uu (N : Nat) : (Int × Int × Int) → Option (Bool)
  | (x0, x1, x2) =>
  Option.bind (Yt N (IntKind.wrap .i64 (IntKind.wrap .i64 (x1 - 1) - x2))) fun y0 =>
  ac (decide (y0 = (0 : Int))) (
  none) (
  some (Int.tmod (IntKind.wrap .i64 (Int.tdiv x0 y0)) (2 : Int) == (1 : Int)))
abbrev AC : Type := (List Bool) × Int × Int × Int
abbrev Ae : Type := ((Bool) ⊕ (Unit))
noncomputable def Bm (N : Nat) (f : AC → Option Ae) : AC → Option Ae
  | (x0, x1, x2, x3) =>
  ac (decide (x1 < (↑(List.length x0) : Int))) (
  Option.bind (Uu N (x2, x3, x1)) fun y0 =>
  ac (within x1 (List.length x0)) (
  Option.bind (x0[Int.toNat x1]?) fun y1 =>
  ac (!y0 == y1) (
  some (.inl (false))) (
  Option.bind (f (x0, IntKind.wrap .i64 (x1 + 1), x2, x3)) fun r => match r with | .inl y => some (.inl y) | .inr y => some (.inr y))) (
  none)) (
  some (.inr (())))
noncomputable def mo (N : Nat) : Nat → AC → Option Ae
  | 0, _ => none
  | k + 1, x => Bm N (mo N k) x
noncomputable def Uy (N : Nat) : (Int × Int × (List Bool)) → Option (Bool)
  | (x0, x1, x2) =>
  ac (decide (x1 < (↑(List.length x2) : Int))) (
  some (false)) (
  Option.bind (mo N N (x2, (0 : Int), x0, x1)) fun y0 =>
  match y0 with
  | .inl y1 =>
  some (y1)
  | .inr y1 =>
  some (true))
abbrev AH : Type := Int × Int × (List Bool) × (List (Int × (Int × Unit)))
abbrev Aj : Type := ((Int) ⊕ (Int))
noncomputable def Bo (N : Nat) (f : AH → Option Aj) : AH → Option Aj
  | (x0, x1, x2, x3) =>
  ac (decide (x0 < (↑(List.length x3) : Int))) (
  ac (within x0 (List.length x3)) (
  Option.bind (x3[Int.toNat x0]?) fun y0 =>
  ac (y0.2.1 == 0) (
  Option.bind (f (IntKind.wrap .i64 (x0 + 1), x1, x2, x3)) fun r => match r with | .inl y => some (.inl y) | .inr y => some (.inr y)) (
  ac (within x0 (List.length x3)) (
  Option.bind (x3[Int.toNat x0]?) fun y1 =>
  Option.bind (Uy N (y1.1, y1.2.1, x2)) fun y2 =>
  ac (y2) (
  ac (within x0 (List.length x3)) (
  Option.bind (x3[Int.toNat x0]?) fun y3 =>
  ac (y3.2.1 == (↑(List.length x2) : Int)) (
  some (.inl (x0))) (
  ac (y2) (
  Option.bind (f (IntKind.wrap .i64 (x0 + 1), (-1 : Int), x2, x3)) fun r => match r with | .inl y => some (.inl y) | .inr y => some (.inr y)) (
  Option.bind (f (IntKind.wrap .i64 (x0 + 1), x1, x2, x3)) fun r => match r with | .inl y => some (.inl y) | .inr y => some (.inr y)))) (
  none)) (
  ac (y2) (
  Option.bind (f (IntKind.wrap .i64 (x0 + 1), (-1 : Int), x2, x3)) fun r => match r with | .inl y => some (.inl y) | .inr y => some (.inr y)) (
  Option.bind (f (IntKind.wrap .i64 (x0 + 1), x1, x2, x3)) fun r => match r with | .inl y => some (.inl y) | .inr y => some (.inr y)))) (
  none))) (
  none)) (
  some (.inr (x1)))
noncomputable def mq (N : Nat) : Nat → AH → Option Aj
  | 0, _ => none
  | k + 1, x => Bo N (mq N k) x
noncomputable def UE (N : Nat) : ((List (Int × (Int × Unit))) × (List Bool)) → Option (Int)
  | (x0, x1) =>
  Option.bind (mq N N ((0 : Int), (-2 : Int), x1, x0)) fun y0 =>
  match y0 with
  | .inl y1 =>
  some (y1)
  | .inr y1 =>
  some (y1)
@[reducible] def s31 : SP := ⟨[.str, .str], []⟩
noncomputable def VK (N : Nat) : au := [(75, Ya N), (15, Yq N), (19, Yp N)]
theorem Ll (N : Nat) : ai Tryz.prog (VK N) := ⟨Ns N, NJ N, NI N, trivial⟩
@[reducible] def w31 : List SP := [⟨[.str], []⟩]
noncomputable def Xw (N : Nat) : (ByteArray × ByteArray) → Option (ByteArray)
  | (x0, x1) =>
  ac (!ByteArray.toList x1 == []) (
  Option.bind (UP N (x0, x1, false, (0 : Int), (0 : Int), [])) fun y0 =>
  Option.bind (RP N (ByteArray.mk #[], false, y0.1, y0.2.1, y0.2.2)) fun y1 =>
  Option.bind (Ut N (y1.2.2, y1.1, y1.2.1, ())) fun y2 =>
  some (y2)) (
  Option.bind (RP N (ByteArray.mk #[], false, (0 : Int), (0 : Int), [])) fun y3 =>
  Option.bind (Ut N (y3.2.2, y3.1, y3.2.1, ())) fun y4 =>
  some (y4))
noncomputable def YU (N : Nat) : Pk → Tr Pk := aj s31 w31 (Xw N)
theorem TR (N : Nat) : aO Tryz.prog 31 (YU N) :=
  (ag ah aB (Ll N) Tryz.func31 s31 w31 [] (cuts := []) trivial (fun _ => by kernel_rfl) (by kernel_rfl) (Xw N) (fun x => by kernel_rfl))
@[reducible] def s3 : SP := ⟨[.int .i64, .str, .bool], []⟩
@[reducible] def w3 : List SP := [⟨[.bool], []⟩]
@[reducible] def s4 : SP := ⟨[.int .i64, .ro (.int .i64), .ro (.int .i64)], []⟩
@[reducible] def w4 : List SP := [⟨[.bool], []⟩]
@[reducible] def s5 : SP := ⟨[.str, .ro y0, .bool, .bool, .int .i64], []⟩
@[reducible] def w5 : List SP := [⟨[.bool], []⟩]
@[reducible] def w6 : List SP := [⟨[.bool], []⟩]
@[reducible] def s77 : SP := ⟨[.str], []⟩
noncomputable def Vi (N : Nat) : au := []
theorem K1 (N : Nat) : ai Tryz.prog (Vi N) := trivial
@[reducible] def w77 : List SP := [⟨[.adr 0 []], [.var (.agg [.str, .int .i64, .int .i64])]⟩]
noncomputable def Un (N : Nat) : (ByteArray) → Option (ByteArray × Int × Int)
  | x0 =>
  some ((x0, (0 : Int), (0 : Int)))
noncomputable def X9 (N : Nat) : Pk → Tr Pk := aj s77 w77 (Un N)
theorem Nr (N : Nat) : aO Tryz.prog 77 (X9 N) :=
  (ag ah aB (K1 N) Tryz.func77 s77 w77 [] (cuts := []) trivial (fun _ => by kernel_rfl) (by kernel_rfl) (Un N) (fun x => by kernel_rfl))
@[reducible] def s141 : SP := ⟨[.int .i64], []⟩
noncomputable def Sw (N : Nat) : au := []
theorem Ig (N : Nat) : ai Tryz.prog (Sw N) := trivial
@[reducible] def w141 : List SP := [⟨[.bool], []⟩]
noncomputable def JW (N : Nat) : (Int) → Option (Bool)
  | x0 =>
  ac (x0 == 1) (
  some (true)) (
  ac (x0 == 2) (
  some (true)) (
  some (x0 == 4)))
noncomputable def Ud (N : Nat) : Pk → Tr Pk := aj s141 w141 (JW N)
theorem Hq (N : Nat) : aO Tryz.prog 141 (Ud N) :=
  (ag ah aB (Ig N) Tryz.func141 s141 w141 [] (cuts := []) trivial (fun _ => by kernel_rfl) (by kernel_rfl) (JW N) (fun x => by kernel_rfl))
@[reducible] def s142 : SP := ⟨[.adr 0 [], .int .i64], [.var (.agg [.str, .int .i64, .int .i64])]⟩
noncomputable def Sv (N : Nat) : au := []
theorem If (N : Nat) : ai Tryz.prog (Sv N) := trivial
@[reducible] def w142 : List SP := [⟨[.tup []], [.var (.agg [.str, .int .i64, .int .i64])]⟩]
noncomputable def JV (N : Nat) : (Int × ByteArray × Int × Int) → Option (ByteArray × Int × Int)
  | (x0, x1, x2, x3) =>
  ac (x3 == 0) (
  some ((x1, x2, x0))) (
  some ((x1, x2, x3)))
noncomputable def Uc (N : Nat) : Pk → Tr Pk := aj s142 w142 (JV N)
theorem Hp (N : Nat) : aO Tryz.prog 142 (Uc N) :=
  (ag ah aB (If N) Tryz.func142 s142 w142 [0] (cuts := []) trivial (fun _ => by kernel_rfl) (by kernel_rfl) (JV N) (fun x => by kernel_rfl))
@[reducible] def y6 : Ty := (.cons .str (.cons (.int .i64) (.cons (.int .i64) .unit)))
@[reducible] def s161 : SP := ⟨[.radr y6 [.i 0 3]], []⟩
noncomputable def Sc (N : Nat) : au := []
theorem H3 (N : Nat) : ai Tryz.prog (Sc N) := trivial
@[reducible] def w161 : List SP := [⟨[.int .i64], []⟩]
noncomputable def Oc (N : Nat) : ((ByteArray × (Int × (Int × Unit)))) → Option (Int)
  | x0 =>
  some (IntKind.wrap .i64 ((↑(ByteArray.size x0.1) : Int) - x0.2.1))
noncomputable def WJ (N : Nat) : Pk → Tr Pk := aj s161 w161 (Oc N)
theorem PT (N : Nat) : aO Tryz.prog 161 (WJ N) :=
  (ag ah aB (H3 N) Tryz.func161 s161 w161 [] (cuts := []) trivial (fun _ => by kernel_rfl) (by kernel_rfl) (Oc N) (fun x => by kernel_rfl))
@[reducible] def s143 : SP := ⟨[.adr 0 [], .int .i64], [.var (.agg [.str, .int .i64, .int .i64])]⟩
noncomputable def Su (N : Nat) : au := [(142, Uc N), (161, WJ N)]
theorem Ie (N : Nat) : ai Tryz.prog (Su N) := ⟨Hp N, PT N, trivial⟩
@[reducible] def w143 : List SP := [⟨[.str], [.var (.agg [.str, .int .i64, .int .i64])]⟩]
noncomputable def Do (N : Nat) : (Int × ByteArray × Int × Int) → Option (ByteArray × ByteArray × Int × Int)
  | (x0, x1, x2, x3) =>
  ac (decide (x0 < 0)) (
  Option.bind (JV N ((1 : Int), x1, x2, x3)) fun y0 =>
  ac (y0.2.2 != 0) (
  some ((ByteArray.mk #[], y0.1, y0.2.1, y0.2.2))) (
  ac (decide ((0 : Int) ≤ IntKind.wrap .i64 (y0.2.1 + x0) ∧ IntKind.wrap .i64 (y0.2.1 + x0) ≤ (↑(ByteArray.size y0.1) : Int))) (
  ac (decide ((0 : Int) ≤ IntKind.wrap .i64 (IntKind.wrap .i64 (y0.2.1 + x0) - x0) ∧ IntKind.wrap .i64 (IntKind.wrap .i64 (y0.2.1 + x0) - x0) ≤ (↑(Int.toNat (IntKind.wrap .i64 (y0.2.1 + x0))) : Int))) (
  some ((ByteArray.extract y0.1 (Int.toNat (IntKind.wrap .i64 (IntKind.wrap .i64 (y0.2.1 + x0) - x0))) (Int.toNat (IntKind.wrap .i64 (y0.2.1 + x0))), y0.1, IntKind.wrap .i64 (y0.2.1 + x0), y0.2.2))) (
  none)) (
  none))) (
  Option.bind (Oc N (x1, x2, x3, ())) fun y1 =>
  ac (decide (x0 > y1)) (
  Option.bind (JV N ((2 : Int), x1, x2, x3)) fun y2 =>
  ac (y2.2.2 != 0) (
  some ((ByteArray.mk #[], y2.1, y2.2.1, y2.2.2))) (
  ac (decide ((0 : Int) ≤ IntKind.wrap .i64 (y2.2.1 + x0) ∧ IntKind.wrap .i64 (y2.2.1 + x0) ≤ (↑(ByteArray.size y2.1) : Int))) (
  ac (decide ((0 : Int) ≤ IntKind.wrap .i64 (IntKind.wrap .i64 (y2.2.1 + x0) - x0) ∧ IntKind.wrap .i64 (IntKind.wrap .i64 (y2.2.1 + x0) - x0) ≤ (↑(Int.toNat (IntKind.wrap .i64 (y2.2.1 + x0))) : Int))) (
  some ((ByteArray.extract y2.1 (Int.toNat (IntKind.wrap .i64 (IntKind.wrap .i64 (y2.2.1 + x0) - x0))) (Int.toNat (IntKind.wrap .i64 (y2.2.1 + x0))), y2.1, IntKind.wrap .i64 (y2.2.1 + x0), y2.2.2))) (
  none)) (
  none))) (
  ac (x3 != 0) (
  some ((ByteArray.mk #[], x1, x2, x3))) (
  ac (decide ((0 : Int) ≤ IntKind.wrap .i64 (x2 + x0) ∧ IntKind.wrap .i64 (x2 + x0) ≤ (↑(ByteArray.size x1) : Int))) (
  ac (decide ((0 : Int) ≤ IntKind.wrap .i64 (IntKind.wrap .i64 (x2 + x0) - x0) ∧ IntKind.wrap .i64 (IntKind.wrap .i64 (x2 + x0) - x0) ≤ (↑(Int.toNat (IntKind.wrap .i64 (x2 + x0))) : Int))) (
  some ((ByteArray.extract x1 (Int.toNat (IntKind.wrap .i64 (IntKind.wrap .i64 (x2 + x0) - x0))) (Int.toNat (IntKind.wrap .i64 (x2 + x0))), x1, IntKind.wrap .i64 (x2 + x0), x3))) (
  none)) (
  none))))
noncomputable def WX (N : Nat) : Pk → Tr Pk := aj s143 w143 (Do N)
theorem Qh (N : Nat) : aO Tryz.prog 143 (WX N) :=
  (ag ah aB (Ie N) Tryz.func143 s143 w143 [0] (cuts := []) trivial (fun _ => by kernel_rfl) (by kernel_rfl) (Do N) (fun x => by kernel_rfl))
@[reducible] def s144 : SP := ⟨[.slp 0 .h .h], [.row (.int .u8) 5]⟩
noncomputable def Ss (N : Nat) : au := []
theorem xk (N : Nat) : ai Tryz.prog (Ss N) := trivial
@[reducible] def FP : LD := ⟨6, [2, 3, 0], [(.ret, []), (.exit 0, [])], ⟨[.int .i64, .int .i64, .slp 0 .h .h], [.row (.int .u8) 5]⟩, [(.exit 0, ⟨[], [.row (.int .u8) 5]⟩)]⟩
abbrev FD : Type := Int × Int × Nat × Nat × (List Int)
abbrev Fl : Type := (List Int)
noncomputable def qP (N : Nat) (f : FD → Option Fl) : FD → Option Fl
  | (x0, x1, x2, x3, x4) =>
  ac (decide (x0 < x1)) (
  ac (within x1 x3) (
  Option.bind (x4[x2 + Int.toNat x1]?) fun y0 =>
  ac (within x0 x3) (
  Option.bind (x4[x2 + Int.toNat x0]?) fun y1 =>
  ac (within x0 x3) (
  Option.bind (x4[x2 + Int.toNat x0]?) fun y2 =>
  ac (within x1 x3) (
  Option.bind ((List.set x4 (x2 + Int.toNat x0) y0)[x2 + Int.toNat x1]?) fun y3 =>
  Option.bind (f (IntKind.wrap .i64 (x0 + 1), IntKind.wrap .i64 (x1 - 1), x2, x3, List.set (List.set x4 (x2 + Int.toNat x0) y0) (x2 + Int.toNat x1) y1)) fun r => some r) (
  none)) (
  none)) (
  none)) (
  none)) (
  some (x4))
noncomputable def jR (N : Nat) : Nat → FD → Option Fl
  | 0, _ => none
  | k + 1, x => qP N (jR N k) x
theorem Kn (N : Nat) (k : Nat) : ap Tryz.prog Tryz.f144 [0] 6 (FP.cut (jR N k)) :=
  FP.loopT ah aB (xk N) Tryz.f144 [0] (cuts := []) trivial (by decide +kernel) (by kernel_rfl) (qP N) (jR N) (fun _ => rfl) (fun _ _ => rfl) (fun f x => by kernel_rfl) k
@[reducible] def w144 : List SP := [⟨[.tup []], [.row (.int .u8) 5]⟩]
noncomputable def Om (N : Nat) : (Nat × Nat × (List Int)) → Option ((List Int))
  | (x0, x1, x2) =>
  Option.bind (jR N N ((0 : Int), IntKind.wrap .i64 ((↑x1 : Int) - (1 : Int)), x0, x1, x2)) fun y0 =>
  some (y0)
noncomputable def WW (N : Nat) : Pk → Tr Pk := aj s144 w144 (Om N)
theorem Qg (N : Nat) : aO Tryz.prog 144 (WW N) :=
  (ag ah aB (xk N) Tryz.func144 s144 w144 [0] (cuts := [(6, FP.cut (jR N N))]) ⟨Kn N N, trivial⟩ (fun _ => by kernel_rfl) (by kernel_rfl) (Om N) (fun x => by kernel_rfl))
@[reducible] def s115 : SP := ⟨[.str], []⟩
noncomputable def SQ (N : Nat) : au := [(144, WW N)]
theorem Iw (N : Nat) : ai Tryz.prog (SQ N) := ⟨Qg N, trivial⟩
@[reducible] def w115 : List SP := [⟨[.str], []⟩]
noncomputable def A8 (N : Nat) : (ByteArray) → Option (ByteArray)
  | x0 =>
  ac (decide (ByteArray.size x0 ≤ 140737488355328)) (
  Option.bind (Om N ((0 : Nat), List.length (bytesOf x0), bytesOf x0)) fun y0 =>
  some (aN y0)) (
  none)
noncomputable def Uj (N : Nat) : Pk → Tr Pk := aj s115 w115 (A8 N)
theorem Hu (N : Nat) : aO Tryz.prog 115 (Uj N) :=
  (ag ah aB (Iw N) Tryz.func115 s115 w115 [] (cuts := []) trivial (fun _ => by kernel_rfl) (by kernel_rfl) (A8 N) (fun x => by kernel_rfl))
@[reducible] def s114a : SP := ⟨[.adr 0 [], .int .i64, .fn 115], [.var (.agg [.str, .int .i64, .int .i64])]⟩
noncomputable def OZ (N : Nat) : au := [(141, Ud N), (142, Uc N), (143, WX N), (115, Uj N)]
theorem sH (N : Nat) : ai Tryz.prog (OZ N) := ⟨Hq N, Hp N, Qh N, Hu N, trivial⟩
@[reducible] def qI : LD := ⟨122, [7, 22, 21, 20], [(.ret, [6]), (.exit 0, [7])], ⟨[.int .i64, .int .i64, .int .i64, .sl 1], [.var (.agg [.str, .int .i64, .int .i64]), .row (.int .u8) 5]⟩, [(.exit 0, ⟨[.int .i64], [.var (.agg [.str, .int .i64, .int .i64])]⟩)]⟩
abbrev qF : Type := Int × Int × Int × ByteArray × Int × Int × (List Int)
abbrev qu : Type := Int × ByteArray × Int × Int
noncomputable def dP (N : Nat) (f : qF → Option qu) : qF → Option qu
  | (x0, x1, x2, x3, x4, x5, x6) =>
  ac (decide (x1 < x2)) (
  ac (within x1 (List.length x6)) (
  Option.bind (x6[Int.toNat x1]?) fun y0 =>
  ac (decide (IntKind.wrap .i64 ((8 : Int) * x1) < 0)) (
  none) (
  Option.bind (f (IntKind.wrap .i64 (↑(BitVec.toNat (BitVec.ofInt (64 : Nat) x0 ||| BitVec.ofInt (64 : Nat) (IntKind.wrap .i64 (IntKind.wrap .i64 y0 * 2 ^ min (Int.toNat (IntKind.wrap .i64 ((8 : Int) * x1))) (64 : Nat))))) : Int), IntKind.wrap .i64 (x1 + 1), x2, x3, x4, x5, x6)) fun r => some r)) (
  none)) (
  some ((x0, x3, x4, x5)))
noncomputable def bz (N : Nat) : Nat → qF → Option qu
  | 0, _ => none
  | k + 1, x => dP N (bz N k) x
theorem Bb (N : Nat) (k : Nat) : ap Tryz.prog Tryz.f114 [0] 122 (qI.cut (bz N k)) :=
  qI.loopT ah aB (sH N) Tryz.f114 [0] (cuts := []) trivial (by decide +kernel) (by kernel_rfl) (dP N) (bz N) (fun _ => rfl) (fun _ _ => rfl) (fun f x => by kernel_rfl) k
@[reducible] def w114a : List SP := [⟨[.int .i64], [.var (.agg [.str, .int .i64, .int .i64])]⟩]
noncomputable def Du (N : Nat) : (Int × ByteArray × Int × Int) → Option (Int × ByteArray × Int × Int)
  | (x0, x1, x2, x3) =>
  Option.bind (JW N x0) fun y0 =>
  ac (!y0) (
  Option.bind (JV N ((1 : Int), x1, x2, x3)) fun y1 =>
  Option.bind (Do N (x0, y1.1, y1.2.1, y1.2.2)) fun y2 =>
  Option.bind (A8 N y2.1) fun y3 =>
  ac (decide (ByteArray.size y3 ≤ 140737488355328)) (
  Option.bind (bz N N ((0 : Int), (0 : Int), (↑(List.length (bytesOf y3)) : Int), y2.2.1, y2.2.2.1, y2.2.2.2, bytesOf y3)) fun y4 =>
  some ((y4.1, y4.2.1, y4.2.2.1, y4.2.2.2))) (
  none)) (
  Option.bind (Do N (x0, x1, x2, x3)) fun y5 =>
  Option.bind (A8 N y5.1) fun y6 =>
  ac (decide (ByteArray.size y6 ≤ 140737488355328)) (
  Option.bind (bz N N ((0 : Int), (0 : Int), (↑(List.length (bytesOf y6)) : Int), y5.2.1, y5.2.2.1, y5.2.2.2, bytesOf y6)) fun y7 =>
  some ((y7.1, y7.2.1, y7.2.2.1, y7.2.2.2))) (
  none))
noncomputable def RB (N : Nat) : Pk → Tr Pk := aj s114a w114a (Du N)
theorem Ni (N : Nat) : aO Tryz.prog 114 (RB N) :=
  (ag ah aB (sH N) Tryz.func114 s114a w114a [0] (cuts := [(122, qI.cut (bz N N))]) ⟨Bb N N, trivial⟩ (fun _ => by kernel_rfl) (by kernel_rfl) (Du N) (fun x => by kernel_rfl))
noncomputable def Xd (N : Nat) : Pk → Tr Pk := (RB N)
theorem Qx (N : Nat) : aO Tryz.prog 114 (Xd N) := (Ni N)
@[reducible] def s78 : SP := ⟨[.adr 0 [], .int .i64], [.var (.agg [.str, .int .i64, .int .i64])]⟩
noncomputable def Vh (N : Nat) : au := [(114, Xd N)]
theorem K0 (N : Nat) : ai Tryz.prog (Vh N) := ⟨Qx N, trivial⟩
@[reducible] def w78 : List SP := [⟨[.int .i64], [.var (.agg [.str, .int .i64, .int .i64])]⟩]
noncomputable def QN (N : Nat) : (Int × ByteArray × Int × Int) → Option (Int × ByteArray × Int × Int)
  | (x0, x1, x2, x3) =>
  Option.bind (Du N (x0, x1, x2, x3)) fun y0 =>
  some ((y0.1, y0.2.1, y0.2.2.1, y0.2.2.2))
noncomputable def X8 (N : Nat) : Pk → Tr Pk := aj s78 w78 (QN N)
theorem Nq (N : Nat) : aO Tryz.prog 78 (X8 N) :=
  (ag ah aB (K0 N) Tryz.func78 s78 w78 [0] (cuts := []) trivial (fun _ => by kernel_rfl) (by kernel_rfl) (QN N) (fun x => by kernel_rfl))
@[reducible] def s79 : SP := ⟨[.radr y6 [.i 0 3]], []⟩
noncomputable def Vg (N : Nat) : au := []
theorem KZ (N : Nat) : ai Tryz.prog (Vg N) := trivial
@[reducible] def w79 : List SP := [⟨[.int .i64], []⟩]
noncomputable def QM (N : Nat) : ((ByteArray × (Int × (Int × Unit)))) → Option (Int)
  | x0 =>
  some x0.2.2.1
noncomputable def X7 (N : Nat) : Pk → Tr Pk := aj s79 w79 (QM N)
theorem Np (N : Nat) : aO Tryz.prog 79 (X7 N) :=
  (ag ah aB (KZ N) Tryz.func79 s79 w79 [] (cuts := []) trivial (fun _ => by kernel_rfl) (by kernel_rfl) (QM N) (fun x => by kernel_rfl))
@[reducible] def s35 : SP := ⟨[.str], []⟩
noncomputable def VI (N : Nat) : au := [(77, X9 N), (78, X8 N), (79, X7 N)]
theorem Lj (N : Nat) : ai Tryz.prog (VI N) := ⟨Nr N, Nq N, Np N, trivial⟩
@[reducible] def w35 : List SP := [⟨[.int .i64], []⟩]
noncomputable def FU (N : Nat) : (ByteArray) → Option (Int)
  | x0 =>
  Option.bind (Un N x0) fun y0 =>
  Option.bind (QN N ((1 : Int), y0.1, y0.2.1, y0.2.2)) fun y1 =>
  Option.bind (QN N ((1 : Int), y1.2.1, y1.2.2.1, y1.2.2.2)) fun y2 =>
  Option.bind (QM N (y2.2.1, y2.2.2.1, y2.2.2.2, ())) fun y3 =>
  ac (y3 != 0) (
  Option.bind (QM N (y2.2.1, y2.2.2.1, y2.2.2.2, ())) fun y4 =>
  some (y4)) (
  ac (IntKind.wrap .i64 (↑(BitVec.toNat (BitVec.ofInt (64 : Nat) y1.1 &&& BitVec.ofInt (64 : Nat) (15 : Int))) : Int) != (8 : Int)) (
  some ((100 : Int))) (
  ac (decide (Int.fdiv y1.1 (16 : Int) > (7 : Int))) (
  some ((100 : Int))) (
  ac (IntKind.wrap .i64 (↑(BitVec.toNat (BitVec.ofInt (64 : Nat) y2.1 &&& BitVec.ofInt (64 : Nat) (32 : Int))) : Int) != (0 : Int)) (
  some ((100 : Int))) (
  ac (Int.tmod (IntKind.wrap .i64 (↑(BitVec.toNat (BitVec.ofInt (64 : Nat) (IntKind.wrap .i64 (y1.1 * 256)) ||| BitVec.ofInt (64 : Nat) y2.1)) : Int)) (31 : Int) != (0 : Int)) (
  some ((100 : Int))) (
  some ((0 : Int)))))))
noncomputable def XH (N : Nat) : Pk → Tr Pk := aj s35 w35 (FU N)
theorem E5 (N : Nat) : aO Tryz.prog 35 (XH N) :=
  (ag ah aB (Lj N) Tryz.func35 s35 w35 [] (cuts := []) trivial (fun _ => by kernel_rfl) (by kernel_rfl) (FU N) (fun x => by kernel_rfl))
noncomputable def KY (N : Nat) : au := [(88, UJ N)]
theorem KX (N : Nat) : ai Tryz.prog (KY N) := ⟨uo N, trivial⟩
noncomputable def X6 (N : Nat) : Pk → Tr Pk := EF (wn Tryz.prog ah (KY N) []) Tryz.f80
theorem No (N : Nat) : aO Tryz.prog 80 (X6 N) :=
  tO (E := wn Tryz.prog ah (KY N) []) (jA aB (KX N)) Tryz.func80 (show Tryz.f80.body = some (rv Tryz.f80) by kernel_rfl) (by decide +kernel) (fun _ => dj trivial)
@[reducible] def s37 : SP := ⟨[.adr 0 [], .str], [.var (.agg [.agg [.bool, .str]])]⟩
noncomputable def VH (N : Nat) : au := [(31, YU N), (80, X6 N)]
theorem Li (N : Nat) : ai Tryz.prog (VH N) := ⟨TR N, No N, trivial⟩
@[reducible] def w37 : List SP := [⟨[.str], [.var (.agg [.agg [.bool, .str]])]⟩]
noncomputable def QX (N : Nat) : (ByteArray × Bool × ByteArray) → Option (ByteArray × Bool × ByteArray)
  | (x0, x1, x2) =>
  Option.bind (Xw N (x2, x0)) fun y0 =>
  ac (!x1) (
  ac (decide ((↑((2 : Nat) + ByteArray.size y0) : Int) > (9223372036854775807 : Int))) (
  none) (
  ac (decide ((↑(ByteArray.size x2 + ByteArray.size x0) : Int) > (9223372036854775807 : Int))) (
  none) (
  Option.bind (NX N (x2 ++ x0)) fun y1 =>
  some ((ByteArray.mk #[(120 : UInt8), (156 : UInt8)] ++ y0, true, y1))))) (
  ac (decide ((↑(ByteArray.size x2 + ByteArray.size x0) : Int) > (9223372036854775807 : Int))) (
  none) (
  Option.bind (NX N (x2 ++ x0)) fun y2 =>
  some ((y0, true, y2))))
noncomputable def Yo (N : Nat) : Pk → Tr Pk := aj s37 w37 (QX N)
theorem NG (N : Nat) : aO Tryz.prog 37 (Yo N) :=
  (ag ah aB (Li N) Tryz.func37 s37 w37 [0] (cuts := []) trivial (fun _ => by kernel_rfl) (by kernel_rfl) (QX N) (fun x => by kernel_rfl))
@[reducible] def s85 : SP := ⟨[.str], []⟩
noncomputable def Vd (N : Nat) : au := []
theorem KV (N : Nat) : ai Tryz.prog (Vd N) := trivial
@[reducible] def w85 : List SP := [⟨[.adr 0 []], [.var (.agg [.str, .int .i64, .int .i64])]⟩]
noncomputable def UO (N : Nat) : (ByteArray) → Option (ByteArray × Int × Int)
  | x0 =>
  some ((x0, (0 : Int), (0 : Int)))
noncomputable def X4 (N : Nat) : Pk → Tr Pk := aj s85 w85 (UO N)
theorem Nm (N : Nat) : aO Tryz.prog 85 (X4 N) :=
  (ag ah aB (KV N) Tryz.func85 s85 w85 [] (cuts := []) trivial (fun _ => by kernel_rfl) (by kernel_rfl) (UO N) (fun x => by kernel_rfl))
@[reducible] def s86 : SP := ⟨[.radr y6 [.i 0 3]], []⟩
noncomputable def Vb (N : Nat) : au := []
theorem KU (N : Nat) : ai Tryz.prog (Vb N) := trivial
@[reducible] def w86 : List SP := [⟨[.int .i64], []⟩]
noncomputable def OH (N : Nat) : ((ByteArray × (Int × (Int × Unit)))) → Option (Int)
  | x0 =>
  some (IntKind.wrap .i64 (IntKind.wrap .i64 ((8 : Int) * (↑(ByteArray.size x0.1) : Int)) - x0.2.1))
noncomputable def XF (N : Nat) : Pk → Tr Pk := aj s86 w86 (OH N)
theorem E3 (N : Nat) : aO Tryz.prog 86 (XF N) :=
  (ag ah aB (KU N) Tryz.func86 s86 w86 [] (cuts := []) trivial (fun _ => by kernel_rfl) (by kernel_rfl) (OH N) (fun x => by kernel_rfl))
@[reducible] def s146 : SP := ⟨[.adr 0 [], .int .i64], [.var (.agg [.str, .int .i64, .int .i64])]⟩
noncomputable def Sq (N : Nat) : au := [(86, XF N)]
theorem Ib (N : Nat) : ai Tryz.prog (Sq N) := ⟨E3 N, trivial⟩
@[reducible] def w146 : List SP := [⟨[.bool], [.var (.agg [.str, .int .i64, .int .i64])]⟩]
noncomputable def mH (N : Nat) : (Int × ByteArray × Int × Int) → Option (Bool × ByteArray × Int × Int)
  | (x0, x1, x2, x3) =>
  ac (x3 == 0) (
  Option.bind (OH N (x1, x2, x3, ())) fun y0 =>
  ac (decide (x0 > y0)) (
  some ((false, x1, x2, (2 : Int)))) (
  some ((x3 == 0, x1, x2, x3)))) (
  some ((x3 == 0, x1, x2, x3)))
noncomputable def Ub (N : Nat) : Pk → Tr Pk := aj s146 w146 (mH N)
theorem Ho (N : Nat) : aO Tryz.prog 146 (Ub N) :=
  (ag ah aB (Ib N) Tryz.func146 s146 w146 [0] (cuts := []) trivial (fun _ => by kernel_rfl) (by kernel_rfl) (mH N) (fun x => by kernel_rfl))
end Go.Proofs.YteddgkplkjldcaaGreat.Am
