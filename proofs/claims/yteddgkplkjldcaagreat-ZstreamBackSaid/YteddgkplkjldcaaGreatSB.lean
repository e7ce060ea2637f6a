/- The seat's Go functions come to the Lean functions written here, wherever these give an answer (part B). -/
import Derived.Test.YteddgkplkjldcaaGreatSA
set_option linter.unusedVariables false
set_option maxRecDepth 100000
namespace Go.Proofs.YteddgkplkjldcaaGreat.Am
open Go.Am
@[reducible] def s75 : SP := ⟨[.adr 0 [], .str, .str, .bool], [.var (.agg [.sl 1, .int .i64, .int .i64]), .row (.int .u8) 5]⟩
noncomputable def tab75 (N : Nat) : Tabs := [(110, T110 N), (111, T111 N)]
theorem tab75_ok (N : Nat) : TabOK Tryz.prog (tab75 N) := ⟨T110_ok N, T111_ok N, trivial⟩
@[reducible] def L75_7322 : LD := ⟨7322, [11, 30, 29, 0, 3, 2, 10, 8, 28], [(.ret, []), (.exit 2, [8, 10, 2, 11, 3, 0]), (.exit 1, [3, 0, 2, 8]), (.exit 0, [])], ⟨[.int .i64, .int .i64, .int .i64, .adr 0 [], .bool, .str, .int .i64, .sl 1, .slp 1 (.c 0) .h], [.var (.agg [.sl 2, .int .i64, .int .i64]), .row y0 52, .row (.int .u8) 5]⟩, [(.exit 2, ⟨[.sl 1, .int .i64, .str, .int .i64, .bool, .adr 0 []], [.var (.agg [.sl 2, .int .i64, .int .i64]), .row y0 52, .row (.int .u8) 5]⟩)]⟩
abbrev P75_7322 : Type := Int × Int × Int × Bool × ByteArray × Int × Nat × Int × Int × (List (Int × (Int × (Int × Unit)))) × (List Int)
abbrev R75_7322 : Type := Int × ByteArray × Int × Bool × Int × Int × (List (Int × (Int × (Int × Unit)))) × (List Int)
noncomputable def B75_7322 (N : Nat) (f : P75_7322 → Option R75_7322) : P75_7322 → Option R75_7322
  | (x0, x1, x2, x3, x4, x5, x6, x7, x8, x9, x10) =>
  iteP (decide (x1 < x2)) (
  iteP (within x1 x6) (
  Option.bind (x9[(0 : Nat) + Int.toNat x1]?) fun y0 =>
  Option.bind (f (IntKind.wrap .i64 (x0 + if (1 : Int) > y0.2.1 then (1 : Int) else y0.2.1), IntKind.wrap .i64 (x1 + 1), x2, x3, x4, x5, x6, x7, x8, x9, x10)) fun r => some r) (
  none)) (
  some ((x5, x4, x0, x3, x7, x8, x9, x10)))
noncomputable def F75_7322 (N : Nat) : Nat → P75_7322 → Option R75_7322
  | 0, _ => none
  | k + 1, x => B75_7322 N (F75_7322 N k) x
theorem C75_7322_ok (N : Nat) (k : Nat) : CutAt Tryz.prog Tryz.f75 [0] 7322 (L75_7322.cut (F75_7322 N k)) :=
  L75_7322.loopT ownT mix (tab75_ok N) Tryz.f75 [0] (cuts := []) trivial (by decide +kernel) (by kernel_rfl) (B75_7322 N) (F75_7322 N) (fun _ => rfl) (fun _ _ => rfl) (fun f x => by kernel_rfl) k
@[reducible] def L75_7322b : LD := ⟨7322, [11, 30, 29, 0, 3, 2, 10, 8, 28], [(.ret, []), (.exit 2, [8, 10, 2, 11, 3, 0]), (.exit 1, [3, 0, 2, 8]), (.exit 0, [])], ⟨[.int .i64, .int .i64, .int .i64, .adr 0 [], .bool, .str, .int .i64, .slp 1 .h .h, .slp 1 .h .h], [.var (.agg [.sl 2, .int .i64, .int .i64]), .row y0 52, .row (.int .u8) 5]⟩, [(.exit 2, ⟨[.slp 1 .h .h, .int .i64, .str, .int .i64, .bool, .adr 0 []], [.var (.agg [.sl 2, .int .i64, .int .i64]), .row y0 52, .row (.int .u8) 5]⟩)]⟩
abbrev P75_7322b : Type := Int × Int × Int × Bool × ByteArray × Int × Nat × Nat × Nat × Nat × Int × Int × (List (Int × (Int × (Int × Unit)))) × (List Int)
abbrev R75_7322b : Type := Nat × Nat × Int × ByteArray × Int × Bool × Int × Int × (List (Int × (Int × (Int × Unit)))) × (List Int)
noncomputable def B75_7322b (N : Nat) (f : P75_7322b → Option R75_7322b) : P75_7322b → Option R75_7322b
  | (x0, x1, x2, x3, x4, x5, x6, x7, x8, x9, x10, x11, x12, x13) =>
  iteP (decide (x1 < x2)) (
  iteP (within x1 x9) (
  Option.bind (x12[x8 + Int.toNat x1]?) fun y0 =>
  Option.bind (f (IntKind.wrap .i64 (x0 + if (1 : Int) > y0.2.1 then (1 : Int) else y0.2.1), IntKind.wrap .i64 (x1 + 1), x2, x3, x4, x5, x6, x7, x8, x9, x10, x11, x12, x13)) fun r => some r) (
  none)) (
  some ((x6, x7, x5, x4, x0, x3, x10, x11, x12, x13)))
noncomputable def F75_7322b (N : Nat) : Nat → P75_7322b → Option R75_7322b
  | 0, _ => none
  | k + 1, x => B75_7322b N (F75_7322b N k) x
theorem C75_7322b_ok (N : Nat) (k : Nat) : CutAt Tryz.prog Tryz.f75 [0] 7322 (L75_7322b.cut (F75_7322b N k)) :=
  L75_7322b.loopT ownT mix (tab75_ok N) Tryz.f75 [0] (cuts := [(7322, L75_7322.cut (F75_7322 N N))]) ⟨C75_7322_ok N N, trivial⟩ (by decide +kernel) (by kernel_rfl) (B75_7322b N) (F75_7322b N) (fun _ => rfl) (fun _ _ => rfl) (fun f x => by kernel_rfl) k
@[reducible] def L75_14n : LD := ⟨14, [9, 3, 0, 2, 8], [(.ret, []), (.exit 0, [])], ⟨[.bool, .bool, .adr 0 [], .str, .slp 1 .h .h], [.var (.agg [.sl 2, .int .i64, .int .i64]), .row y0 52, .row (.int .u8) 5]⟩, [(.exit 0, ⟨[], [.var (.agg [.sl 1, .int .i64, .int .i64]), .row (.int .u8) 5]⟩)]⟩
abbrev P75_14n : Type := Bool × Bool × ByteArray × Nat × Nat × Int × Int × (List (Int × (Int × (Int × Unit)))) × (List Int)
abbrev R75_14n : Type := Int × Int × (List Int)
noncomputable def B75_14n (N : Nat) (f : P75_14n → Option R75_14n) : P75_14n → Option R75_14n
  | (x0, x1, x2, x3, x4, x5, x6, x7, x8) =>
  iteP (x0) (
  iteP (decide (((0 : Int) ≤ if (8192 : Int) < (↑x4 : Int) then (8192 : Int) else (↑x4 : Int)) ∧ (if (8192 : Int) < (↑x4 : Int) then (8192 : Int) else (↑x4 : Int)) ≤ (↑x4 : Int))) (
  Option.bind (F75_7322b N N ((0 : Int), (0 : Int), (↑(Int.toNat (if (8192 : Int) < (↑x4 : Int) then (8192 : Int) else (↑x4 : Int)) - 0) : Int), x1, x2, if (8192 : Int) < (↑x4 : Int) then (8192 : Int) else (↑x4 : Int), x3, x4, x3 + 0, Int.toNat (if (8192 : Int) < (↑x4 : Int) then (8192 : Int) else (↑x4 : Int)) - 0, x5, x6, x7, x8)) fun y0 =>
  iteP (decide ((0 : Int) ≤ y0.2.2.1 ∧ y0.2.2.1 ≤ (↑y0.2.1 : Int))) (
  iteP (decide ((0 : Int) ≤ y0.2.2.2.2.1 ∧ y0.2.2.2.2.1 ≤ (↑(ByteArray.size y0.2.2.2.1) : Int))) (
  iteP y0.2.2.2.2.2.1 (
  Option.bind (F111 N (List.take (Int.toNat y0.2.2.1 - 0) (List.drop (y0.1 + 0) y0.2.2.2.2.2.2.2.2.1), ByteArray.extract y0.2.2.2.1 (0 : Nat) (Int.toNat y0.2.2.2.2.1), y0.2.2.1 == (↑y0.2.1 : Int), y0.2.2.2.2.2.2.1, y0.2.2.2.2.2.2.2.1, y0.2.2.2.2.2.2.2.2.2)) fun y1 =>
  iteP (decide ((0 : Int) ≤ y0.2.2.1 ∧ y0.2.2.1 ≤ (↑y0.2.1 : Int))) (
  iteP (decide ((0 : Int) ≤ y0.2.2.2.2.1 ∧ y0.2.2.2.2.1 ≤ (↑(ByteArray.size y0.2.2.2.1) : Int))) (
  Option.bind (f (false, y0.2.2.2.2.2.1, ByteArray.extract y0.2.2.2.1 (Int.toNat y0.2.2.2.2.1) (ByteArray.size y0.2.2.2.1), y0.1 + Int.toNat y0.2.2.1, y0.2.1 - Int.toNat y0.2.2.1, y1.1, y1.2.1, y0.2.2.2.2.2.2.2.2.1, y1.2.2)) fun r => some r) (
  none)) (
  none)) (
  Option.bind (F111 N (List.take (Int.toNat y0.2.2.1 - 0) (List.drop (y0.1 + 0) y0.2.2.2.2.2.2.2.2.1), ByteArray.extract y0.2.2.2.1 (0 : Nat) (Int.toNat y0.2.2.2.2.1), false, y0.2.2.2.2.2.2.1, y0.2.2.2.2.2.2.2.1, y0.2.2.2.2.2.2.2.2.2)) fun y2 =>
  iteP (decide ((0 : Int) ≤ y0.2.2.1 ∧ y0.2.2.1 ≤ (↑y0.2.1 : Int))) (
  iteP (decide ((0 : Int) ≤ y0.2.2.2.2.1 ∧ y0.2.2.2.2.1 ≤ (↑(ByteArray.size y0.2.2.2.1) : Int))) (
  Option.bind (f (false, y0.2.2.2.2.2.1, ByteArray.extract y0.2.2.2.1 (Int.toNat y0.2.2.2.2.1) (ByteArray.size y0.2.2.2.1), y0.1 + Int.toNat y0.2.2.1, y0.2.1 - Int.toNat y0.2.2.1, y2.1, y2.2.1, y0.2.2.2.2.2.2.2.2.1, y2.2.2)) fun r => some r) (
  none)) (
  none))) (
  none)) (
  none)) (
  none)) (
  iteP (decide ((↑x4 : Int) > (0 : Int))) (
  iteP (decide (((0 : Int) ≤ if (8192 : Int) < (↑x4 : Int) then (8192 : Int) else (↑x4 : Int)) ∧ (if (8192 : Int) < (↑x4 : Int) then (8192 : Int) else (↑x4 : Int)) ≤ (↑x4 : Int))) (
  Option.bind (F75_7322b N N ((0 : Int), (0 : Int), (↑(Int.toNat (if (8192 : Int) < (↑x4 : Int) then (8192 : Int) else (↑x4 : Int)) - 0) : Int), x1, x2, if (8192 : Int) < (↑x4 : Int) then (8192 : Int) else (↑x4 : Int), x3, x4, x3 + 0, Int.toNat (if (8192 : Int) < (↑x4 : Int) then (8192 : Int) else (↑x4 : Int)) - 0, x5, x6, x7, x8)) fun y3 =>
  iteP (decide ((0 : Int) ≤ y3.2.2.1 ∧ y3.2.2.1 ≤ (↑y3.2.1 : Int))) (
  iteP (decide ((0 : Int) ≤ y3.2.2.2.2.1 ∧ y3.2.2.2.2.1 ≤ (↑(ByteArray.size y3.2.2.2.1) : Int))) (
  iteP y3.2.2.2.2.2.1 (
  Option.bind (F111 N (List.take (Int.toNat y3.2.2.1 - 0) (List.drop (y3.1 + 0) y3.2.2.2.2.2.2.2.2.1), ByteArray.extract y3.2.2.2.1 (0 : Nat) (Int.toNat y3.2.2.2.2.1), y3.2.2.1 == (↑y3.2.1 : Int), y3.2.2.2.2.2.2.1, y3.2.2.2.2.2.2.2.1, y3.2.2.2.2.2.2.2.2.2)) fun y4 =>
  iteP (decide ((0 : Int) ≤ y3.2.2.1 ∧ y3.2.2.1 ≤ (↑y3.2.1 : Int))) (
  iteP (decide ((0 : Int) ≤ y3.2.2.2.2.1 ∧ y3.2.2.2.2.1 ≤ (↑(ByteArray.size y3.2.2.2.1) : Int))) (
  Option.bind (f (false, y3.2.2.2.2.2.1, ByteArray.extract y3.2.2.2.1 (Int.toNat y3.2.2.2.2.1) (ByteArray.size y3.2.2.2.1), y3.1 + Int.toNat y3.2.2.1, y3.2.1 - Int.toNat y3.2.2.1, y4.1, y4.2.1, y3.2.2.2.2.2.2.2.2.1, y4.2.2)) fun r => some r) (
  none)) (
  none)) (
  Option.bind (F111 N (List.take (Int.toNat y3.2.2.1 - 0) (List.drop (y3.1 + 0) y3.2.2.2.2.2.2.2.2.1), ByteArray.extract y3.2.2.2.1 (0 : Nat) (Int.toNat y3.2.2.2.2.1), false, y3.2.2.2.2.2.2.1, y3.2.2.2.2.2.2.2.1, y3.2.2.2.2.2.2.2.2.2)) fun y5 =>
  iteP (decide ((0 : Int) ≤ y3.2.2.1 ∧ y3.2.2.1 ≤ (↑y3.2.1 : Int))) (
  iteP (decide ((0 : Int) ≤ y3.2.2.2.2.1 ∧ y3.2.2.2.2.1 ≤ (↑(ByteArray.size y3.2.2.2.1) : Int))) (
  Option.bind (f (false, y3.2.2.2.2.2.1, ByteArray.extract y3.2.2.2.1 (Int.toNat y3.2.2.2.2.1) (ByteArray.size y3.2.2.2.1), y3.1 + Int.toNat y3.2.2.1, y3.2.1 - Int.toNat y3.2.2.1, y5.1, y5.2.1, y3.2.2.2.2.2.2.2.2.1, y5.2.2)) fun r => some r) (
  none)) (
  none))) (
  none)) (
  none)) (
  none)) (
  some ((x5, x6, x8))))
noncomputable def F75_14n (N : Nat) : Nat → P75_14n → Option R75_14n
  | 0, _ => none
  | k + 1, x => B75_14n N (F75_14n N k) x
theorem C75_14n_ok (N : Nat) (k : Nat) : CutAt Tryz.prog Tryz.f75 [0] 14 (L75_14n.cut (F75_14n N k)) :=
  L75_14n.loopT ownT mix (tab75_ok N) Tryz.f75 [0] (cuts := [(7322, orC L75_7322.s.I (L75_7322.cut (F75_7322 N N)) (L75_7322b.cut (F75_7322b N N)))]) ⟨fun c' h => orC_ok (C75_7322_ok N N c' h) (C75_7322b_ok N N c' h) rfl rfl, trivial⟩ (by decide +kernel) (by kernel_rfl) (B75_14n N) (F75_14n N) (fun _ => rfl) (fun _ _ => rfl) (fun f x => by kernel_rfl) k
@[reducible] def L75_14 : LD := ⟨14, L75_14n.live, L75_14n.out, ⟨[.bool, .bool, .adr 0 [], .str, .sl 1], [.var (.agg [.sl 2, .int .i64, .int .i64]), .row y0 52, .row (.int .u8) 5]⟩, L75_14n.w⟩
noncomputable def B75_14 (N : Nat) (f : (Bool × Bool × ByteArray × Nat × Nat × Int × Int × (List (Int × (Int × (Int × Unit)))) × (List Int)) → Option (Int × Int × (List Int))) : (Bool × Bool × ByteArray × Int × Int × (List (Int × (Int × (Int × Unit)))) × (List Int)) → Option (Int × Int × (List Int))
  | (x0, x1, x2, x3, x4, x5, x6) =>
  iteP (x0) (
  iteP (decide (((0 : Int) ≤ if (8192 : Int) < (↑(List.length x5) : Int) then (8192 : Int) else (↑(List.length x5) : Int)) ∧ (if (8192 : Int) < (↑(List.length x5) : Int) then (8192 : Int) else (↑(List.length x5) : Int)) ≤ (↑(List.length x5) : Int))) (
  Option.bind (F75_7322 N N ((0 : Int), (0 : Int), (↑(Int.toNat (if (8192 : Int) < (↑(List.length x5) : Int) then (8192 : Int) else (↑(List.length x5) : Int)) - 0) : Int), x1, x2, if (8192 : Int) < (↑(List.length x5) : Int) then (8192 : Int) else (↑(List.length x5) : Int), Int.toNat (if (8192 : Int) < (↑(List.length x5) : Int) then (8192 : Int) else (↑(List.length x5) : Int)) - 0, x3, x4, x5, x6)) fun y0 =>
  iteP (decide ((0 : Int) ≤ y0.1 ∧ y0.1 ≤ (↑(List.length y0.2.2.2.2.2.2.1) : Int))) (
  iteP (decide ((0 : Int) ≤ y0.2.2.1 ∧ y0.2.2.1 ≤ (↑(ByteArray.size y0.2.1) : Int))) (
  iteP y0.2.2.2.1 (
  Option.bind (F111 N (List.take (Int.toNat y0.1 - 0) (List.drop (0 : Nat) y0.2.2.2.2.2.2.1), ByteArray.extract y0.2.1 (0 : Nat) (Int.toNat y0.2.2.1), y0.1 == (↑(List.length y0.2.2.2.2.2.2.1) : Int), y0.2.2.2.2.1, y0.2.2.2.2.2.1, y0.2.2.2.2.2.2.2)) fun y1 =>
  iteP (decide ((0 : Int) ≤ y0.1 ∧ y0.1 ≤ (↑(List.length y0.2.2.2.2.2.2.1) : Int))) (
  iteP (decide ((0 : Int) ≤ y0.2.2.1 ∧ y0.2.2.1 ≤ (↑(ByteArray.size y0.2.1) : Int))) (
  Option.bind (f (false, y0.2.2.2.1, ByteArray.extract y0.2.1 (Int.toNat y0.2.2.1) (ByteArray.size y0.2.1), Int.toNat y0.1, List.length y0.2.2.2.2.2.2.1 - Int.toNat y0.1, y1.1, y1.2.1, y0.2.2.2.2.2.2.1, y1.2.2)) fun r => some r) (
  none)) (
  none)) (
  Option.bind (F111 N (List.take (Int.toNat y0.1 - 0) (List.drop (0 : Nat) y0.2.2.2.2.2.2.1), ByteArray.extract y0.2.1 (0 : Nat) (Int.toNat y0.2.2.1), false, y0.2.2.2.2.1, y0.2.2.2.2.2.1, y0.2.2.2.2.2.2.2)) fun y2 =>
  iteP (decide ((0 : Int) ≤ y0.1 ∧ y0.1 ≤ (↑(List.length y0.2.2.2.2.2.2.1) : Int))) (
  iteP (decide ((0 : Int) ≤ y0.2.2.1 ∧ y0.2.2.1 ≤ (↑(ByteArray.size y0.2.1) : Int))) (
  Option.bind (f (false, y0.2.2.2.1, ByteArray.extract y0.2.1 (Int.toNat y0.2.2.1) (ByteArray.size y0.2.1), Int.toNat y0.1, List.length y0.2.2.2.2.2.2.1 - Int.toNat y0.1, y2.1, y2.2.1, y0.2.2.2.2.2.2.1, y2.2.2)) fun r => some r) (
  none)) (
  none))) (
  none)) (
  none)) (
  none)) (
  iteP (decide ((↑(List.length x5) : Int) > (0 : Int))) (
  iteP (decide (((0 : Int) ≤ if (8192 : Int) < (↑(List.length x5) : Int) then (8192 : Int) else (↑(List.length x5) : Int)) ∧ (if (8192 : Int) < (↑(List.length x5) : Int) then (8192 : Int) else (↑(List.length x5) : Int)) ≤ (↑(List.length x5) : Int))) (
  Option.bind (F75_7322 N N ((0 : Int), (0 : Int), (↑(Int.toNat (if (8192 : Int) < (↑(List.length x5) : Int) then (8192 : Int) else (↑(List.length x5) : Int)) - 0) : Int), x1, x2, if (8192 : Int) < (↑(List.length x5) : Int) then (8192 : Int) else (↑(List.length x5) : Int), Int.toNat (if (8192 : Int) < (↑(List.length x5) : Int) then (8192 : Int) else (↑(List.length x5) : Int)) - 0, x3, x4, x5, x6)) fun y3 =>
  iteP (decide ((0 : Int) ≤ y3.1 ∧ y3.1 ≤ (↑(List.length y3.2.2.2.2.2.2.1) : Int))) (
  iteP (decide ((0 : Int) ≤ y3.2.2.1 ∧ y3.2.2.1 ≤ (↑(ByteArray.size y3.2.1) : Int))) (
  iteP y3.2.2.2.1 (
  Option.bind (F111 N (List.take (Int.toNat y3.1 - 0) (List.drop (0 : Nat) y3.2.2.2.2.2.2.1), ByteArray.extract y3.2.1 (0 : Nat) (Int.toNat y3.2.2.1), y3.1 == (↑(List.length y3.2.2.2.2.2.2.1) : Int), y3.2.2.2.2.1, y3.2.2.2.2.2.1, y3.2.2.2.2.2.2.2)) fun y4 =>
  iteP (decide ((0 : Int) ≤ y3.1 ∧ y3.1 ≤ (↑(List.length y3.2.2.2.2.2.2.1) : Int))) (
  iteP (decide ((0 : Int) ≤ y3.2.2.1 ∧ y3.2.2.1 ≤ (↑(ByteArray.size y3.2.1) : Int))) (
  Option.bind (f (false, y3.2.2.2.1, ByteArray.extract y3.2.1 (Int.toNat y3.2.2.1) (ByteArray.size y3.2.1), Int.toNat y3.1, List.length y3.2.2.2.2.2.2.1 - Int.toNat y3.1, y4.1, y4.2.1, y3.2.2.2.2.2.2.1, y4.2.2)) fun r => some r) (
  none)) (
  none)) (
  Option.bind (F111 N (List.take (Int.toNat y3.1 - 0) (List.drop (0 : Nat) y3.2.2.2.2.2.2.1), ByteArray.extract y3.2.1 (0 : Nat) (Int.toNat y3.2.2.1), false, y3.2.2.2.2.1, y3.2.2.2.2.2.1, y3.2.2.2.2.2.2.2)) fun y5 =>
  iteP (decide ((0 : Int) ≤ y3.1 ∧ y3.1 ≤ (↑(List.length y3.2.2.2.2.2.2.1) : Int))) (
  iteP (decide ((0 : Int) ≤ y3.2.2.1 ∧ y3.2.2.1 ≤ (↑(ByteArray.size y3.2.1) : Int))) (
  Option.bind (f (false, y3.2.2.2.1, ByteArray.extract y3.2.1 (Int.toNat y3.2.2.1) (ByteArray.size y3.2.1), Int.toNat y3.1, List.length y3.2.2.2.2.2.2.1 - Int.toNat y3.1, y5.1, y5.2.1, y3.2.2.2.2.2.2.1, y5.2.2)) fun r => some r) (
  none)) (
  none))) (
  none)) (
  none)) (
  none)) (
  some ((x3, x4, x6))))
noncomputable def F75_14 (N : Nat) (k : Nat) : (Bool × Bool × ByteArray × Int × Int × (List (Int × (Int × (Int × Unit)))) × (List Int)) → Option (Int × Int × (List Int)) := B75_14 N (F75_14n N k)
theorem C75_14_ok (N : Nat) (k : Nat) : CutAt Tryz.prog Tryz.f75 [0] 14 (L75_14.cut (F75_14 N k)) :=
  L75_14.loop2T ownT mix (tab75_ok N) L75_14n.s Tryz.f75 [0] (cuts := [(7322, orC L75_7322.s.I (L75_7322.cut (F75_7322 N N)) (L75_7322b.cut (F75_7322b N N))), (14, L75_14n.cut (F75_14n N N))]) ⟨fun c' h => orC_ok (C75_7322_ok N N c' h) (C75_7322b_ok N N c' h) rfl rfl, C75_14n_ok N N, trivial⟩ (by decide +kernel) (by kernel_rfl) (B75_14 N) (B75_14n N) (F75_14n N) (fun _ => rfl) (fun _ _ => rfl) (fun f g x => by kernel_rfl) (fun f g x => by kernel_rfl) k
@[reducible] def w75 : List SP := [⟨[.tup []], [.var (.agg [.sl 1, .int .i64, .int .i64]), .row (.int .u8) 5]⟩]
noncomputable def F75 (N : Nat) : (ByteArray × ByteArray × Bool × Int × Int × (List Int)) → Option (Int × Int × (List Int))
  | (x0, x1, x2, x3, x4, x5) =>
  Option.bind (F110 N (x0, x1)) fun y0 =>
  Option.bind (F75_14 N N (true, x2, x1, x3, x4, y0, x5)) fun y1 =>
  some ((y1.1, y1.2.1, y1.2.2))
noncomputable def T75 (N : Nat) : Pk → Tr Pk := tellS s75 w75 (F75 N)
theorem T75_ok (N : Nat) : FOK Tryz.prog 75 (T75 N) :=
  (fn_ok2 ownT mix (tab75_ok N) Tryz.func75 s75 w75 [0] (cuts := [(7322, orC L75_7322.s.I (L75_7322.cut (F75_7322 N N)) (L75_7322b.cut (F75_7322b N N))), (14, orC L75_14n.s.I (L75_14n.cut (F75_14n N N)) (L75_14.cut (F75_14 N N)))]) ⟨fun c' h => orC_ok (C75_7322_ok N N c' h) (C75_7322b_ok N N c' h) rfl rfl, fun c' h => orC_ok (C75_14n_ok N N c' h) (C75_14_ok N N c' h) rfl rfl, trivial⟩ (fun _ => by kernel_rfl) (by kernel_rfl) (F75 N) (fun x => by kernel_rfl))
@[reducible] def s19 : SP := ⟨[.radr y1 [.i 0 3]], []⟩
noncomputable def tab19 (N : Nat) : Tabs := []
theorem tab19_ok (N : Nat) : TabOK Tryz.prog (tab19 N) := trivial
@[reducible] def w19 : List SP := [⟨[.str], []⟩]
noncomputable def F19 (N : Nat) : (((List Int) × (Int × (Int × Unit)))) → Option (ByteArray)
  | x0 =>
  iteP (decide (x0.2.2.1 > 0)) (
  iteP (decide ((↑(ByteArray.size (stringOf x0.1) + ByteArray.size (stringOf [IntKind.wrap .u8 x0.2.1])) : Int) > (9223372036854775807 : Int))) (
  none) (
  some (stringOf x0.1 ++ stringOf [IntKind.wrap .u8 x0.2.1]))) (
  some (stringOf x0.1))
noncomputable def T19 (N : Nat) : Pk → Tr Pk := tellS s19 w19 (F19 N)
theorem T19_ok (N : Nat) : FOK Tryz.prog 19 (T19 N) :=
  (fn_ok2 ownT mix (tab19_ok N) Tryz.func19 s19 w19 [] (cuts := []) trivial (fun _ => by kernel_rfl) (by kernel_rfl) (F19 N) (fun x => by kernel_rfl))
@[reducible] def s30 : SP := ⟨[.str, .str], []⟩
noncomputable def tab30 (N : Nat) : Tabs := [(75, T75 N), (19, T19 N)]
theorem tab30_ok (N : Nat) : TabOK Tryz.prog (tab30 N) := ⟨T75_ok N, T19_ok N, trivial⟩
@[reducible] def w30 : List SP := [⟨[.str], []⟩]
noncomputable def F30 (N : Nat) : (ByteArray × ByteArray) → Option (ByteArray)
  | (x0, x1) =>
  Option.bind (F75 N (x0, x1, true, (0 : Int), (0 : Int), [])) fun y0 =>
  Option.bind (F19 N (y0.2.2, y0.1, y0.2.1, ())) fun y1 =>
  some (y1)
noncomputable def T30 (N : Nat) : Pk → Tr Pk := tellS s30 w30 (F30 N)
theorem T30_ok (N : Nat) : FOK Tryz.prog 30 (T30 N) :=
  (fn_ok2 ownT mix (tab30_ok N) Tryz.func30 s30 w30 [] (cuts := []) trivial (fun _ => by kernel_rfl) (by kernel_rfl) (F30 N) (fun x => by kernel_rfl))
@[reducible] def s50 : SP := ⟨[.int .i64], []⟩
noncomputable def tab50 (N : Nat) : Tabs := []
theorem tab50_ok (N : Nat) : TabOK Tryz.prog (tab50 N) := trivial
@[reducible] def w50 : List SP := [⟨[.int .i64], []⟩]
noncomputable def F50 (N : Nat) : (Int) → Option (Int)
  | x0 =>
  some (if (32 : Int) < if (0 : Int) > x0 then (0 : Int) else x0 then (32 : Int) else if (0 : Int) > x0 then (0 : Int) else x0)
noncomputable def T50 (N : Nat) : Pk → Tr Pk := tellS s50 w50 (F50 N)
theorem T50_ok (N : Nat) : FOK Tryz.prog 50 (T50 N) :=
  (fn_ok2 ownT mix (tab50_ok N) Tryz.func50 s50 w50 [] (cuts := []) trivial (fun _ => by kernel_rfl) (by kernel_rfl) (F50 N) (fun x => by kernel_rfl))
@[reducible] def s17 : SP := ⟨[.int .i64, .int .i64], []⟩
noncomputable def tab17 (N : Nat) : Tabs := [(50, T50 N)]
theorem tab17_ok (N : Nat) : TabOK Tryz.prog (tab17 N) := ⟨T50_ok N, trivial⟩
@[reducible] def L17_58 : LD := ⟨58, [5, 1, 6, 0], [(.ret, [4]), (.exit 0, [5])], ⟨[.sl 0, .int .i64, .int .i64, .int .i64], [.row (.bool) 4]⟩, [(.exit 0, ⟨[.sl 0], [.row (.bool) 4]⟩)]⟩
abbrev P17_58 : Type := Int × Int × Int × (List Bool)
abbrev R17_58 : Type := (List Bool)
noncomputable def B17_58 (N : Nat) (f : P17_58 → Option R17_58) : P17_58 → Option R17_58
  | (x0, x1, x2, x3) =>
  Option.bind (F50 N x2) fun y0 =>
  iteP (decide (x1 < y0)) (
  iteP (decide ((List.length x3 + List.length [IntKind.wrap .i64 (↑(BitVec.toNat (BitVec.ofInt (64 : Nat) x0 &&& BitVec.ofInt (64 : Nat) (1 : Int))) : Int) == (1 : Int)]) * 1 ≤ (140737488355328 : Nat) ∧ List.length x3 + List.length [IntKind.wrap .i64 (↑(BitVec.toNat (BitVec.ofInt (64 : Nat) x0 &&& BitVec.ofInt (64 : Nat) (1 : Int))) : Int) == (1 : Int)] ≤ 140737488355328)) (
  Option.bind (f (Int.fdiv x0 (2 : Int), IntKind.wrap .i64 (x1 + 1), x2, x3 ++ [IntKind.wrap .i64 (↑(BitVec.toNat (BitVec.ofInt (64 : Nat) x0 &&& BitVec.ofInt (64 : Nat) (1 : Int))) : Int) == (1 : Int)])) fun r => some r) (
  none)) (
  some (x3))
noncomputable def F17_58 (N : Nat) : Nat → P17_58 → Option R17_58
  | 0, _ => none
  | k + 1, x => B17_58 N (F17_58 N k) x
theorem C17_58_ok (N : Nat) (k : Nat) : CutAt Tryz.prog Tryz.f17 [] 58 (L17_58.cut (F17_58 N k)) :=
  L17_58.loopT ownT mix (tab17_ok N) Tryz.f17 [] (cuts := []) trivial (by decide +kernel) (by kernel_rfl) (B17_58 N) (F17_58 N) (fun _ => rfl) (fun _ _ => rfl) (fun f x => by kernel_rfl) k
@[reducible] def w17 : List SP := [⟨[.sl 0], [.row (.bool) 4]⟩]
noncomputable def F17 (N : Nat) : (Int × Int) → Option ((List Bool))
  | (x0, x1) =>
  Option.bind (F17_58 N N (x1, (0 : Int), x0, [])) fun y0 =>
  some (y0)
noncomputable def T17 (N : Nat) : Pk → Tr Pk := tellS s17 w17 (F17 N)
theorem T17_ok (N : Nat) : FOK Tryz.prog 17 (T17 N) :=
  (fn_ok2 ownT mix (tab17_ok N) Tryz.func17 s17 w17 [] (cuts := [(58, L17_58.cut (F17_58 N N))]) ⟨C17_58_ok N N, trivial⟩ (fun _ => by kernel_rfl) (by kernel_rfl) (F17 N) (fun x => by kernel_rfl))
@[reducible] def s22 : SP := ⟨[.str], []⟩
noncomputable def tab22 (N : Nat) : Tabs := [(17, T17 N)]
theorem tab22_ok (N : Nat) : TabOK Tryz.prog (tab22 N) := ⟨T17_ok N, trivial⟩
@[reducible] def L22_58 : LD := ⟨58, [3, 4, 0], [(.ret, [2]), (.exit 0, [3])], ⟨[.sl 0, .int .i64, .str], [.row (.bool) 4]⟩, [(.exit 0, ⟨[.sl 0], [.row (.bool) 4]⟩)]⟩
abbrev P22_58 : Type := Int × ByteArray × (List Bool)
abbrev R22_58 : Type := (List Bool)
noncomputable def B22_58 (N : Nat) (f : P22_58 → Option R22_58) : P22_58 → Option R22_58
  | (x0, x1, x2) =>
  iteP (decide (x0 < (↑(ByteArray.size x1) : Int))) (
  iteP (decide ((0 : Int) ≤ x0)) (
  Option.bind (x1[Int.toNat x0]?) fun y0 =>
  Option.bind (F17 N ((8 : Int), IntKind.wrap .i64 (↑(UInt8.toNat y0) : Int))) fun y1 =>
  iteP (decide ((List.length x2 + List.length y1) * 1 ≤ (140737488355328 : Nat) ∧ List.length x2 + List.length y1 ≤ 140737488355328)) (
  Option.bind (f (IntKind.wrap .i64 (x0 + 1), x1, x2 ++ y1)) fun r => some r) (
  none)) (
  none)) (
  some (x2))
noncomputable def F22_58 (N : Nat) : Nat → P22_58 → Option R22_58
  | 0, _ => none
  | k + 1, x => B22_58 N (F22_58 N k) x
theorem C22_58_ok (N : Nat) (k : Nat) : CutAt Tryz.prog Tryz.f22 [] 58 (L22_58.cut (F22_58 N k)) :=
  L22_58.loopT ownT mix (tab22_ok N) Tryz.f22 [] (cuts := []) trivial (by decide +kernel) (by kernel_rfl) (B22_58 N) (F22_58 N) (fun _ => rfl) (fun _ _ => rfl) (fun f x => by kernel_rfl) k
@[reducible] def w22 : List SP := [⟨[.sl 0], [.row (.bool) 4]⟩]
noncomputable def F22 (N : Nat) : (ByteArray) → Option ((List Bool))
  | x0 =>
  Option.bind (F22_58 N N ((0 : Int), x0, [])) fun y0 =>
  some (y0)
noncomputable def T22 (N : Nat) : Pk → Tr Pk := tellS s22 w22 (F22 N)
theorem T22_ok (N : Nat) : FOK Tryz.prog 22 (T22 N) :=
  (fn_ok2 ownT mix (tab22_ok N) Tryz.func22 s22 w22 [] (cuts := [(58, L22_58.cut (F22_58 N N))]) ⟨C22_58_ok N N, trivial⟩ (fun _ => by kernel_rfl) (by kernel_rfl) (F22 N) (fun x => by kernel_rfl))
@[reducible] def s51 : SP := ⟨[.ro (.bool)], []⟩
noncomputable def tab51 (N : Nat) : Tabs := []
theorem tab51_ok (N : Nat) : TabOK Tryz.prog (tab51 N) := trivial
@[reducible] def L51_58 : LD := ⟨58, [3, 4, 0], [(.ret, [2]), (.exit 0, [3])], ⟨[.int .i64, .int .i64, .ro (.bool)], []⟩, [(.exit 0, ⟨[.int .i64], []⟩)]⟩
abbrev P51_58 : Type := Int × Int × (List Bool)
abbrev R51_58 : Type := Int
noncomputable def B51_58 (N : Nat) (f : P51_58 → Option R51_58) : P51_58 → Option R51_58
  | (x0, x1, x2) =>
  iteP (decide (x1 ≥ 0)) (
  iteP (within x1 (List.length x2)) (
  Option.bind (x2[Int.toNat x1]?) fun y0 =>
  iteP (y0) (
  Option.bind (f (IntKind.wrap .i64 (IntKind.wrap .i64 (x0 * 2) + 1), IntKind.wrap .i64 (x1 - 1), x2)) fun r => some r) (
  Option.bind (f (IntKind.wrap .i64 (x0 * 2), IntKind.wrap .i64 (x1 - 1), x2)) fun r => some r)) (
  none)) (
  some (x0))
noncomputable def F51_58 (N : Nat) : Nat → P51_58 → Option R51_58
  | 0, _ => none
  | k + 1, x => B51_58 N (F51_58 N k) x
theorem C51_58_ok (N : Nat) (k : Nat) : CutAt Tryz.prog Tryz.f51 [] 58 (L51_58.cut (F51_58 N k)) :=
  L51_58.loopT ownT mix (tab51_ok N) Tryz.f51 [] (cuts := []) trivial (by decide +kernel) (by kernel_rfl) (B51_58 N) (F51_58 N) (fun _ => rfl) (fun _ _ => rfl) (fun f x => by kernel_rfl) k
@[reducible] def w51 : List SP := [⟨[.int .i64], []⟩]
noncomputable def F51 (N : Nat) : ((List Bool)) → Option (Int)
  | x0 =>
  Option.bind (F51_58 N N ((0 : Int), IntKind.wrap .i64 ((↑(List.length x0) : Int) - (1 : Int)), x0)) fun y0 =>
  some (y0)
noncomputable def T51 (N : Nat) : Pk → Tr Pk := tellS s51 w51 (F51 N)
theorem T51_ok (N : Nat) : FOK Tryz.prog 51 (T51 N) :=
  (fn_ok2 ownT mix (tab51_ok N) Tryz.func51 s51 w51 [] (cuts := [(58, L51_58.cut (F51_58 N N))]) ⟨C51_58_ok N N, trivial⟩ (fun _ => by kernel_rfl) (by kernel_rfl) (F51 N) (fun x => by kernel_rfl))
@[reducible] def s23 : SP := ⟨[.adr 0 [], .int .i64], [.var (.agg [.sl 1, .int .i64, .int .i64]), .row (.bool) 4]⟩
noncomputable def tab23 (N : Nat) : Tabs := [(50, T50 N), (51, T51 N)]
theorem tab23_ok (N : Nat) : TabOK Tryz.prog (tab23 N) := ⟨T50_ok N, T51_ok N, trivial⟩
@[reducible] def w23 : List SP := [⟨[.int .i64], [.var (.agg [.sl 1, .int .i64, .int .i64]), .row (.bool) 4]⟩]
noncomputable def F23 (N : Nat) : (Int × Int × Int × (List Bool)) → Option (Int × Int × Int × (List Bool))
  | (x0, x1, x2, x3) =>
  Option.bind (F50 N x0) fun y0 =>
  iteP (x2 == 0) (
  iteP (decide (y0 > IntKind.wrap .i64 ((↑(List.length x3) : Int) - x1))) (
  some (((0 : Int), x1, (2 : Int), x3))) (
  iteP (x2 != 0) (
  some (((0 : Int), x1, x2, x3))) (
  iteP (decide ((0 : Int) ≤ IntKind.wrap .i64 (x1 + y0) ∧ IntKind.wrap .i64 (x1 + y0) ≤ (↑(List.length x3) : Int))) (
  iteP (decide ((0 : Int) ≤ IntKind.wrap .i64 (IntKind.wrap .i64 (x1 + y0) - y0) ∧ IntKind.wrap .i64 (IntKind.wrap .i64 (x1 + y0) - y0) ≤ (↑(Int.toNat (IntKind.wrap .i64 (x1 + y0))) : Int))) (
  Option.bind (F51 N (List.take (Int.toNat (IntKind.wrap .i64 (x1 + y0)) - Int.toNat (IntKind.wrap .i64 (IntKind.wrap .i64 (x1 + y0) - y0))) (List.drop (Int.toNat (IntKind.wrap .i64 (IntKind.wrap .i64 (x1 + y0) - y0))) x3))) fun y1 =>
  some ((y1, IntKind.wrap .i64 (x1 + y0), x2, x3))) (
  none)) (
  none)))) (
  iteP (x2 != 0) (
  some (((0 : Int), x1, x2, x3))) (
  iteP (decide ((0 : Int) ≤ IntKind.wrap .i64 (x1 + y0) ∧ IntKind.wrap .i64 (x1 + y0) ≤ (↑(List.length x3) : Int))) (
  iteP (decide ((0 : Int) ≤ IntKind.wrap .i64 (IntKind.wrap .i64 (x1 + y0) - y0) ∧ IntKind.wrap .i64 (IntKind.wrap .i64 (x1 + y0) - y0) ≤ (↑(Int.toNat (IntKind.wrap .i64 (x1 + y0))) : Int))) (
  Option.bind (F51 N (List.take (Int.toNat (IntKind.wrap .i64 (x1 + y0)) - Int.toNat (IntKind.wrap .i64 (IntKind.wrap .i64 (x1 + y0) - y0))) (List.drop (Int.toNat (IntKind.wrap .i64 (IntKind.wrap .i64 (x1 + y0) - y0))) x3))) fun y2 =>
  some ((y2, IntKind.wrap .i64 (x1 + y0), x2, x3))) (
  none)) (
  none)))
noncomputable def T23 (N : Nat) : Pk → Tr Pk := tellS s23 w23 (F23 N)
theorem T23_ok (N : Nat) : FOK Tryz.prog 23 (T23 N) :=
  (fn_ok2 ownT mix (tab23_ok N) Tryz.func23 s23 w23 [0] (cuts := []) trivial (fun _ => by kernel_rfl) (by kernel_rfl) (F23 N) (fun x => by kernel_rfl))
@[reducible] def y5 : Ty := (.cons (.sl .bool) (.cons (.int .i64) (.cons (.int .i64) .unit)))
@[reducible] def s133 : SP := ⟨[.radr y5 [.i 0 3]], []⟩
noncomputable def tab133 (N : Nat) : Tabs := []
theorem tab133_ok (N : Nat) : TabOK Tryz.prog (tab133 N) := trivial
@[reducible] def w133 : List SP := [⟨[.int .i64], []⟩]
noncomputable def F133 (N : Nat) : (((List Bool) × (Int × (Int × Unit)))) → Option (Int)
  | x0 =>
  some (Int.tmod (IntKind.wrap .i64 ((8 : Int) - Int.tmod x0.2.1 (8 : Int))) (8 : Int))
noncomputable def T133 (N : Nat) : Pk → Tr Pk := tellS s133 w133 (F133 N)
theorem T133_ok (N : Nat) : FOK Tryz.prog 133 (T133 N) :=
  (fn_ok2 ownT mix (tab133_ok N) Tryz.func133 s133 w133 [] (cuts := []) trivial (fun _ => by kernel_rfl) (by kernel_rfl) (F133 N) (fun x => by kernel_rfl))
@[reducible] def s49 : SP := ⟨[.sl 0], [.row (.bool) 4]⟩
noncomputable def tab49 (N : Nat) : Tabs := []
theorem tab49_ok (N : Nat) : TabOK Tryz.prog (tab49 N) := trivial
@[reducible] def L49_12 : LD := ⟨12, [0], [(.ret, [2]), (.exit 0, [0])], ⟨[.sl 0], [.row (.bool) 4]⟩, [(.exit 0, ⟨[.sl 0], [.row (.bool) 4]⟩)]⟩
abbrev P49_12 : Type := (List Bool)
abbrev R49_12 : Type := (List Bool)
noncomputable def B49_12 (N : Nat) (f : P49_12 → Option R49_12) : P49_12 → Option R49_12
  | x0 =>
  iteP (Int.tmod (↑(List.length x0) : Int) (8 : Int) != (0 : Int)) (
  iteP (decide ((List.length x0 + 1) * 1 ≤ (140737488355328 : Nat) ∧ List.length x0 + 1 ≤ (140737488355328 : Nat))) (
  Option.bind (f (x0 ++ [false])) fun r => some r) (
  none)) (
  some (x0))
noncomputable def F49_12 (N : Nat) : Nat → P49_12 → Option R49_12
  | 0, _ => none
  | k + 1, x => B49_12 N (F49_12 N k) x
theorem C49_12_ok (N : Nat) (k : Nat) : CutAt Tryz.prog Tryz.f49 [] 12 (L49_12.cut (F49_12 N k)) :=
  L49_12.loopT ownT mix (tab49_ok N) Tryz.f49 [] (cuts := []) trivial (by decide +kernel) (by kernel_rfl) (B49_12 N) (F49_12 N) (fun _ => rfl) (fun _ _ => rfl) (fun f x => by kernel_rfl) k
@[reducible] def w49 : List SP := [⟨[.sl 0], [.row (.bool) 4]⟩]
noncomputable def F49 (N : Nat) : ((List Bool)) → Option ((List Bool))
  | x0 =>
  Option.bind (F49_12 N N x0) fun y0 =>
  some (y0)
noncomputable def T49 (N : Nat) : Pk → Tr Pk := tellS s49 w49 (F49 N)
theorem T49_ok (N : Nat) : FOK Tryz.prog 49 (T49 N) :=
  (fn_ok2 ownT mix (tab49_ok N) Tryz.func49 s49 w49 [] (cuts := [(12, L49_12.cut (F49_12 N N))]) ⟨C49_12_ok N N, trivial⟩ (fun _ => by kernel_rfl) (by kernel_rfl) (F49 N) (fun x => by kernel_rfl))
@[reducible] def s20 : SP := ⟨[.ro (.bool)], []⟩
noncomputable def tab20 (N : Nat) : Tabs := [(49, T49 N), (51, T51 N)]
theorem tab20_ok (N : Nat) : TabOK Tryz.prog (tab20 N) := ⟨T49_ok N, T51_ok N, trivial⟩
@[reducible] def L20_506 : LD := ⟨506, [4, 5, 3], [(.ret, [2]), (.exit 0, [4])], ⟨[.str, .int .i64, .sl 0], [.row (.bool) 4]⟩, [(.exit 0, ⟨[.str], []⟩)]⟩
abbrev P20_506 : Type := ByteArray × Int × (List Bool)
abbrev R20_506 : Type := ByteArray
noncomputable def B20_506 (N : Nat) (f : P20_506 → Option R20_506) : P20_506 → Option R20_506
  | (x0, x1, x2) =>
  iteP (decide (x1 < (↑(List.length x2) : Int))) (
  iteP (decide ((0 : Int) ≤ IntKind.wrap .i64 (x1 + 8) ∧ IntKind.wrap .i64 (x1 + 8) ≤ (↑(List.length x2) : Int))) (
  iteP (decide ((0 : Int) ≤ x1 ∧ x1 ≤ (↑(Int.toNat (IntKind.wrap .i64 (x1 + 8))) : Int))) (
  Option.bind (F51 N (List.take (Int.toNat (IntKind.wrap .i64 (x1 + 8)) - Int.toNat x1) (List.drop (Int.toNat x1) x2))) fun y0 =>
  iteP (decide ((↑(ByteArray.size x0 + ByteArray.size (stringOf [IntKind.wrap .u8 y0])) : Int) > (9223372036854775807 : Int))) (
  none) (
  Option.bind (f (x0 ++ stringOf [IntKind.wrap .u8 y0], IntKind.wrap .i64 (x1 + 8), x2)) fun r => some r)) (
  none)) (
  none)) (
  some (x0))
noncomputable def F20_506 (N : Nat) : Nat → P20_506 → Option R20_506
  | 0, _ => none
  | k + 1, x => B20_506 N (F20_506 N k) x
theorem C20_506_ok (N : Nat) (k : Nat) : CutAt Tryz.prog Tryz.f20 [] 506 (L20_506.cut (F20_506 N k)) :=
  L20_506.loopT ownT mix (tab20_ok N) Tryz.f20 [] (cuts := []) trivial (by decide +kernel) (by kernel_rfl) (B20_506 N) (F20_506 N) (fun _ => rfl) (fun _ _ => rfl) (fun f x => by kernel_rfl) k
@[reducible] def w20 : List SP := [⟨[.str], []⟩]
noncomputable def F20 (N : Nat) : ((List Bool)) → Option (ByteArray)
  | x0 =>
  iteP (decide (((0 : Nat) + List.length x0) * 1 ≤ (140737488355328 : Nat) ∧ (0 : Nat) + List.length x0 ≤ 140737488355328)) (
  Option.bind (F49 N x0) fun y0 =>
  Option.bind (F20_506 N N (ByteArray.mk #[], (0 : Int), y0)) fun y1 =>
  some (y1)) (
  none)
noncomputable def T20 (N : Nat) : Pk → Tr Pk := tellS s20 w20 (F20 N)
theorem T20_ok (N : Nat) : FOK Tryz.prog 20 (T20 N) :=
  (fn_ok2 ownT mix (tab20_ok N) Tryz.func20 s20 w20 [] (cuts := [(506, L20_506.cut (F20_506 N N))]) ⟨C20_506_ok N N, trivial⟩ (fun _ => by kernel_rfl) (by kernel_rfl) (F20 N) (fun x => by kernel_rfl))
@[reducible] def s105 : SP := ⟨[.adr 0 [], .int .i64], [.var (.agg [.sl 1, .int .i64, .int .i64]), .row (.bool) 4]⟩
noncomputable def tab105 (N : Nat) : Tabs := [(133, T133 N), (20, T20 N)]
theorem tab105_ok (N : Nat) : TabOK Tryz.prog (tab105 N) := ⟨T133_ok N, T20_ok N, trivial⟩
@[reducible] def w105 : List SP := [⟨[.str], [.var (.agg [.sl 1, .int .i64, .int .i64]), .row (.bool) 4]⟩]
noncomputable def F105 (N : Nat) : (Int × Int × Int × (List Bool)) → Option (ByteArray × Int × Int × (List Bool))
  | (x0, x1, x2, x3) =>
  iteP (x2 == 0) (
  Option.bind (F133 N (x3, x1, x2, ())) fun y0 =>
  iteP (decide ((if (0 : Int) > x0 then (0 : Int) else x0) > IntKind.wrap .i64 (Int.tdiv (IntKind.wrap .i64 (IntKind.wrap .i64 ((↑(List.length x3) : Int) - x1) - y0)) (8 : Int)))) (
  some ((ByteArray.mk #[], x1, (2 : Int), x3))) (
  iteP (x2 != 0) (
  some ((ByteArray.mk #[], x1, x2, x3))) (
  Option.bind (F133 N (x3, x1, x2, ())) fun y1 =>
  iteP (decide ((0 : Int) ≤ IntKind.wrap .i64 (IntKind.wrap .i64 (x1 + y1) + IntKind.wrap .i64 ((8 : Int) * if (0 : Int) > x0 then (0 : Int) else x0)) ∧ IntKind.wrap .i64 (IntKind.wrap .i64 (x1 + y1) + IntKind.wrap .i64 ((8 : Int) * if (0 : Int) > x0 then (0 : Int) else x0)) ≤ (↑(List.length x3) : Int))) (
  iteP (decide ((0 : Int) ≤ IntKind.wrap .i64 (IntKind.wrap .i64 (IntKind.wrap .i64 (x1 + y1) + IntKind.wrap .i64 ((8 : Int) * if (0 : Int) > x0 then (0 : Int) else x0)) - IntKind.wrap .i64 ((8 : Int) * if (0 : Int) > x0 then (0 : Int) else x0)) ∧ IntKind.wrap .i64 (IntKind.wrap .i64 (IntKind.wrap .i64 (x1 + y1) + IntKind.wrap .i64 ((8 : Int) * if (0 : Int) > x0 then (0 : Int) else x0)) - IntKind.wrap .i64 ((8 : Int) * if (0 : Int) > x0 then (0 : Int) else x0)) ≤ (↑(Int.toNat (IntKind.wrap .i64 (IntKind.wrap .i64 (x1 + y1) + IntKind.wrap .i64 ((8 : Int) * if (0 : Int) > x0 then (0 : Int) else x0)))) : Int))) (
  Option.bind (F20 N (List.take (Int.toNat (IntKind.wrap .i64 (IntKind.wrap .i64 (x1 + y1) + IntKind.wrap .i64 ((8 : Int) * if (0 : Int) > x0 then (0 : Int) else x0))) - Int.toNat (IntKind.wrap .i64 (IntKind.wrap .i64 (IntKind.wrap .i64 (x1 + y1) + IntKind.wrap .i64 ((8 : Int) * if (0 : Int) > x0 then (0 : Int) else x0)) - IntKind.wrap .i64 ((8 : Int) * if (0 : Int) > x0 then (0 : Int) else x0)))) (List.drop (Int.toNat (IntKind.wrap .i64 (IntKind.wrap .i64 (IntKind.wrap .i64 (x1 + y1) + IntKind.wrap .i64 ((8 : Int) * if (0 : Int) > x0 then (0 : Int) else x0)) - IntKind.wrap .i64 ((8 : Int) * if (0 : Int) > x0 then (0 : Int) else x0)))) x3))) fun y2 =>
  some ((y2, IntKind.wrap .i64 (IntKind.wrap .i64 (x1 + y1) + IntKind.wrap .i64 ((8 : Int) * if (0 : Int) > x0 then (0 : Int) else x0)), x2, x3))) (
  none)) (
  none)))) (
  iteP (x2 != 0) (
  some ((ByteArray.mk #[], x1, x2, x3))) (
  Option.bind (F133 N (x3, x1, x2, ())) fun y3 =>
  iteP (decide ((0 : Int) ≤ IntKind.wrap .i64 (IntKind.wrap .i64 (x1 + y3) + IntKind.wrap .i64 ((8 : Int) * if (0 : Int) > x0 then (0 : Int) else x0)) ∧ IntKind.wrap .i64 (IntKind.wrap .i64 (x1 + y3) + IntKind.wrap .i64 ((8 : Int) * if (0 : Int) > x0 then (0 : Int) else x0)) ≤ (↑(List.length x3) : Int))) (
  iteP (decide ((0 : Int) ≤ IntKind.wrap .i64 (IntKind.wrap .i64 (IntKind.wrap .i64 (x1 + y3) + IntKind.wrap .i64 ((8 : Int) * if (0 : Int) > x0 then (0 : Int) else x0)) - IntKind.wrap .i64 ((8 : Int) * if (0 : Int) > x0 then (0 : Int) else x0)) ∧ IntKind.wrap .i64 (IntKind.wrap .i64 (IntKind.wrap .i64 (x1 + y3) + IntKind.wrap .i64 ((8 : Int) * if (0 : Int) > x0 then (0 : Int) else x0)) - IntKind.wrap .i64 ((8 : Int) * if (0 : Int) > x0 then (0 : Int) else x0)) ≤ (↑(Int.toNat (IntKind.wrap .i64 (IntKind.wrap .i64 (x1 + y3) + IntKind.wrap .i64 ((8 : Int) * if (0 : Int) > x0 then (0 : Int) else x0)))) : Int))) (
  Option.bind (F20 N (List.take (Int.toNat (IntKind.wrap .i64 (IntKind.wrap .i64 (x1 + y3) + IntKind.wrap .i64 ((8 : Int) * if (0 : Int) > x0 then (0 : Int) else x0))) - Int.toNat (IntKind.wrap .i64 (IntKind.wrap .i64 (IntKind.wrap .i64 (x1 + y3) + IntKind.wrap .i64 ((8 : Int) * if (0 : Int) > x0 then (0 : Int) else x0)) - IntKind.wrap .i64 ((8 : Int) * if (0 : Int) > x0 then (0 : Int) else x0)))) (List.drop (Int.toNat (IntKind.wrap .i64 (IntKind.wrap .i64 (IntKind.wrap .i64 (x1 + y3) + IntKind.wrap .i64 ((8 : Int) * if (0 : Int) > x0 then (0 : Int) else x0)) - IntKind.wrap .i64 ((8 : Int) * if (0 : Int) > x0 then (0 : Int) else x0)))) x3))) fun y4 =>
  some ((y4, IntKind.wrap .i64 (IntKind.wrap .i64 (x1 + y3) + IntKind.wrap .i64 ((8 : Int) * if (0 : Int) > x0 then (0 : Int) else x0)), x2, x3))) (
  none)) (
  none)))
noncomputable def T105 (N : Nat) : Pk → Tr Pk := tellS s105 w105 (F105 N)
theorem T105_ok (N : Nat) : FOK Tryz.prog 105 (T105 N) :=
  (fn_ok2 ownT mix (tab105_ok N) Tryz.func105 s105 w105 [0] (cuts := []) trivial (fun _ => by kernel_rfl) (by kernel_rfl) (F105 N) (fun x => by kernel_rfl))
@[reducible] def s72 : SP := ⟨[.adr 0 [], .int .i64], [.var (.agg [.sl 1, .int .i64, .int .i64]), .row (.bool) 4]⟩
noncomputable def tab72 (N : Nat) : Tabs := [(105, T105 N)]
theorem tab72_ok (N : Nat) : TabOK Tryz.prog (tab72 N) := ⟨T105_ok N, trivial⟩
@[reducible] def w72 : List SP := [⟨[.tup [.str, .int .i64]], [.var (.agg [.sl 1, .int .i64, .int .i64]), .row (.bool) 4]⟩]
noncomputable def F72 (N : Nat) : (Int × Int × Int × (List Bool)) → Option (ByteArray × Int × Int × Int × (List Bool))
  | (x0, x1, x2, x3) =>
  Option.bind (F105 N ((4 : Int), x1, x2, x3)) fun y0 =>
  iteP (y0.2.2.1 != 0) (
  some ((ByteArray.mk #[], y0.2.2.1, y0.2.1, y0.2.2.1, y0.2.2.2))) (
  Option.bind (y0.1[(0 : Nat)]?) fun y1 =>
  Option.bind (y0.1[(1 : Nat)]?) fun y2 =>
  Option.bind (y0.1[(2 : Nat)]?) fun y3 =>
  Option.bind (y0.1[(3 : Nat)]?) fun y4 =>
  iteP (IntKind.wrap .i64 (IntKind.wrap .i64 (IntKind.wrap .i64 (↑(UInt8.toNat y1) : Int) + IntKind.wrap .i64 ((256 : Int) * IntKind.wrap .i64 (↑(UInt8.toNat y2) : Int))) + IntKind.wrap .i64 (IntKind.wrap .i64 (↑(UInt8.toNat y3) : Int) + IntKind.wrap .i64 ((256 : Int) * IntKind.wrap .i64 (↑(UInt8.toNat y4) : Int)))) != 65535) (
  some ((ByteArray.mk #[], (80 : Int), y0.2.1, y0.2.2.1, y0.2.2.2))) (
  iteP (IntKind.wrap .i64 (↑(BitVec.toNat (BitVec.ofInt (64 : Nat) (IntKind.wrap .i64 (IntKind.wrap .i64 (↑(UInt8.toNat y1) : Int) + IntKind.wrap .i64 ((256 : Int) * IntKind.wrap .i64 (↑(UInt8.toNat y2) : Int)))) ^^^ BitVec.ofInt (64 : Nat) (IntKind.wrap .i64 (IntKind.wrap .i64 (↑(UInt8.toNat y3) : Int) + IntKind.wrap .i64 ((256 : Int) * IntKind.wrap .i64 (↑(UInt8.toNat y4) : Int)))))) : Int) != (65535 : Int)) (
  some ((ByteArray.mk #[], (80 : Int), y0.2.1, y0.2.2.1, y0.2.2.2))) (
  iteP (decide (IntKind.wrap .i64 (IntKind.wrap .i64 (↑(UInt8.toNat y1) : Int) + IntKind.wrap .i64 ((256 : Int) * IntKind.wrap .i64 (↑(UInt8.toNat y2) : Int))) > x0)) (
  some ((ByteArray.mk #[], (4 : Int), y0.2.1, y0.2.2.1, y0.2.2.2))) (
  Option.bind (F105 N (IntKind.wrap .i64 (IntKind.wrap .i64 (↑(UInt8.toNat y1) : Int) + IntKind.wrap .i64 ((256 : Int) * IntKind.wrap .i64 (↑(UInt8.toNat y2) : Int))), y0.2.1, y0.2.2.1, y0.2.2.2)) fun y5 =>
  some ((y5.1, y5.2.2.1, y5.2.1, y5.2.2.1, y5.2.2.2))))))
noncomputable def T72 (N : Nat) : Pk → Tr Pk := tellS s72 w72 (F72 N)
theorem T72_ok (N : Nat) : FOK Tryz.prog 72 (T72 N) :=
  (fn_ok2 ownT mix (tab72_ok N) Tryz.func72 s72 w72 [0] (cuts := []) trivial (fun _ => by kernel_rfl) (by kernel_rfl) (F72 N) (fun x => by kernel_rfl))
@[reducible] def s73 : SP := ⟨[], []⟩
noncomputable def tab73 (N : Nat) : Tabs := []
theorem tab73_ok (N : Nat) : TabOK Tryz.prog (tab73 N) := trivial
@[reducible] def L73_7827 : LD := ⟨7827, [5, 2, 4, 3], [(.ret, [0, 1]), (.exit 1, [4, 2, 3]), (.exit 0, [3, 2]), (.normal, [4, 2, 3])], ⟨[.int .i64, .sl 0, .int .i64, .sl 1], [.row (.int .i64) 3, .row (.int .i64) 3]⟩, [(.normal, ⟨[.int .i64, .sl 0, .sl 1], [.row (.int .i64) 3, .row (.int .i64) 3]⟩)]⟩
noncomputable def F73_7827 (N : Nat) : (Int × Int × (List Int) × (List Int)) → Option (Int × (List Int) × (List Int))
  | (x0, x1, x2, x3) =>
  iteP (decide (x1 ≥ 256)) (
  iteP (decide (x1 ≤ 279)) (
  iteP (decide ((List.length x2 + 1) * 8 ≤ (140737488355328 : Nat) ∧ List.length x2 + 1 ≤ (140737488355328 : Nat))) (
  some ((x1, x2 ++ [(7 : Int)], x3))) (
  none)) (
  iteP (decide ((List.length x2 + List.length [x0]) * 8 ≤ (140737488355328 : Nat) ∧ List.length x2 + List.length [x0] ≤ 140737488355328)) (
  some ((x1, x2 ++ [x0], x3))) (
  none))) (
  iteP (decide ((List.length x2 + List.length [x0]) * 8 ≤ (140737488355328 : Nat) ∧ List.length x2 + List.length [x0] ≤ 140737488355328)) (
  some ((x1, x2 ++ [x0], x3))) (
  none))
theorem C73_7827_ok (N : Nat) (k : Nat) : CutAt Tryz.prog Tryz.f73 [] 7827 (L73_7827.cut (F73_7827 N)) :=
  L73_7827.pieceT ownT mix (tab73_ok N) Tryz.f73 [] (cuts := []) trivial (by decide +kernel) (by kernel_rfl) (F73_7827 N) (fun x => by kernel_rfl)
@[reducible] def L73_122 : LD := ⟨122, [2, 4, 3], [(.ret, [0, 1]), (.exit 0, [3, 2])], ⟨[.sl 0, .int .i64, .sl 1], [.row (.int .i64) 3, .row (.int .i64) 3]⟩, [(.exit 0, ⟨[.sl 0, .sl 1], [.row (.int .i64) 3, .row (.int .i64) 3]⟩)]⟩
abbrev P73_122 : Type := Int × (List Int) × (List Int)
abbrev R73_122 : Type := (List Int) × (List Int)
noncomputable def B73_122 (N : Nat) (f : P73_122 → Option R73_122) : P73_122 → Option R73_122
  | (x0, x1, x2) =>
  iteP (decide (x0 < 288)) (
  iteP (decide (x0 ≥ 144)) (
  iteP (decide (x0 ≤ 255)) (
  Option.bind (F73_7827 N ((9 : Int), x0, x1, x2)) fun y0 =>
  Option.bind (f (IntKind.wrap .i64 (y0.1 + 1), y0.2.1, y0.2.2)) fun r => some r) (
  Option.bind (F73_7827 N ((8 : Int), x0, x1, x2)) fun y1 =>
  Option.bind (f (IntKind.wrap .i64 (y1.1 + 1), y1.2.1, y1.2.2)) fun r => some r)) (
  Option.bind (F73_7827 N ((8 : Int), x0, x1, x2)) fun y2 =>
  Option.bind (f (IntKind.wrap .i64 (y2.1 + 1), y2.2.1, y2.2.2)) fun r => some r)) (
  some ((x2, x1)))
noncomputable def F73_122 (N : Nat) : Nat → P73_122 → Option R73_122
  | 0, _ => none
  | k + 1, x => B73_122 N (F73_122 N k) x
theorem C73_122_ok (N : Nat) (k : Nat) : CutAt Tryz.prog Tryz.f73 [] 122 (L73_122.cut (F73_122 N k)) :=
  L73_122.loopT ownT mix (tab73_ok N) Tryz.f73 [] (cuts := [(7827, L73_7827.cut (F73_7827 N))]) ⟨C73_7827_ok N N, trivial⟩ (by decide +kernel) (by kernel_rfl) (B73_122 N) (F73_122 N) (fun _ => rfl) (fun _ _ => rfl) (fun f x => by kernel_rfl) k
@[reducible] def L73_250 : LD := ⟨250, [3, 6, 2], [(.ret, [0, 1]), (.exit 2, [2, 3])], ⟨[.sl 0, .int .i64, .sl 1], [.row (.int .i64) 3, .row (.int .i64) 3]⟩, [(.exit 2, ⟨[.sl 0, .sl 1], [.row (.int .i64) 3, .row (.int .i64) 3]⟩)]⟩
abbrev P73_250 : Type := Int × (List Int) × (List Int)
abbrev R73_250 : Type := (List Int) × (List Int)
noncomputable def B73_250 (N : Nat) (f : P73_250 → Option R73_250) : P73_250 → Option R73_250
  | (x0, x1, x2) =>
  iteP (decide (x0 < 30)) (
  iteP (decide ((List.length x1 + 1) * 8 ≤ (140737488355328 : Nat) ∧ List.length x1 + 1 ≤ (140737488355328 : Nat))) (
  Option.bind (f (IntKind.wrap .i64 (x0 + 1), x1 ++ [(5 : Int)], x2)) fun r => some r) (
  none)) (
  some ((x2, x1)))
noncomputable def F73_250 (N : Nat) : Nat → P73_250 → Option R73_250
  | 0, _ => none
  | k + 1, x => B73_250 N (F73_250 N k) x
theorem C73_250_ok (N : Nat) (k : Nat) : CutAt Tryz.prog Tryz.f73 [] 250 (L73_250.cut (F73_250 N k)) :=
  L73_250.loopT ownT mix (tab73_ok N) Tryz.f73 [] (cuts := [(7827, L73_7827.cut (F73_7827 N)), (122, L73_122.cut (F73_122 N N))]) ⟨C73_7827_ok N N, C73_122_ok N N, trivial⟩ (by decide +kernel) (by kernel_rfl) (B73_250 N) (F73_250 N) (fun _ => rfl) (fun _ _ => rfl) (fun f x => by kernel_rfl) k
@[reducible] def w73 : List SP := [⟨[.tup [.sl 0, .sl 1]], [.row (.int .i64) 3, .row (.int .i64) 3]⟩]
noncomputable def F73 (N : Nat) : (Unit) → Option ((List Int) × (List Int))
  | () =>
  Option.bind (F73_122 N N ((0 : Int), [], [])) fun y0 =>
  Option.bind (F73_250 N N ((0 : Int), y0.1, y0.2)) fun y1 =>
  some ((y1.1, y1.2))
noncomputable def T73 (N : Nat) : Pk → Tr Pk := tellS s73 w73 (F73 N)
theorem T73_ok (N : Nat) : FOK Tryz.prog 73 (T73 N) :=
  (fn_ok2 ownT mix (tab73_ok N) Tryz.func73 s73 w73 [] (cuts := [(7827, L73_7827.cut (F73_7827 N)), (122, L73_122.cut (F73_122 N N)), (250, L73_250.cut (F73_250 N N))]) ⟨C73_7827_ok N N, C73_122_ok N N, C73_250_ok N N, trivial⟩ (fun _ => by kernel_rfl) (by kernel_rfl) (F73 N) (fun x => by kernel_rfl))
@[reducible] def s60 : SP := ⟨[], []⟩
noncomputable def tab60 (N : Nat) : Tabs := []
theorem tab60_ok (N : Nat) : TabOK Tryz.prog (tab60 N) := trivial
@[reducible] def w60 : List SP := [⟨[.sl 0], [.row (.int .i64) 3]⟩]
noncomputable def F60 (N : Nat) : (Unit) → Option ((List Int))
  | () =>
  some ([(16 : Int), (17 : Int), (18 : Int), (0 : Int), (8 : Int), (7 : Int), (9 : Int), (6 : Int), (10 : Int), (5 : Int), (11 : Int), (4 : Int), (12 : Int), (3 : Int), (13 : Int), (2 : Int), (14 : Int), (1 : Int), (15 : Int)])
noncomputable def T60 (N : Nat) : Pk → Tr Pk := tellS s60 w60 (F60 N)
theorem T60_ok (N : Nat) : FOK Tryz.prog 60 (T60 N) :=
  (fn_ok2 ownT mix (tab60_ok N) Tryz.func60 s60 w60 [] (cuts := []) trivial (fun _ => by kernel_rfl) (by kernel_rfl) (F60 N) (fun x => by kernel_rfl))
@[reducible] def s99 : SP := ⟨[.int .i64], []⟩
noncomputable def tab99 (N : Nat) : Tabs := []
theorem tab99_ok (N : Nat) : TabOK Tryz.prog (tab99 N) := trivial
@[reducible] def L99_58 : LD := ⟨58, [3, 4, 0], [(.ret, [2]), (.exit 0, [3])], ⟨[.int .i64, .int .i64, .int .i64], []⟩, [(.exit 0, ⟨[.int .i64], []⟩)]⟩
abbrev P99_58 : Type := Int × Int × Int
abbrev R99_58 : Type := Int
noncomputable def B99_58 (N : Nat) (f : P99_58 → Option R99_58) : P99_58 → Option R99_58
  | (x0, x1, x2) =>
  iteP (decide (x1 < x2)) (
  Option.bind (f (IntKind.wrap .i64 (x0 * 2), IntKind.wrap .i64 (x1 + 1), x2)) fun r => some r) (
  some (x0))
noncomputable def F99_58 (N : Nat) : Nat → P99_58 → Option R99_58
  | 0, _ => none
  | k + 1, x => B99_58 N (F99_58 N k) x
theorem C99_58_ok (N : Nat) (k : Nat) : CutAt Tryz.prog Tryz.f99 [] 58 (L99_58.cut (F99_58 N k)) :=
  L99_58.loopT ownT mix (tab99_ok N) Tryz.f99 [] (cuts := []) trivial (by decide +kernel) (by kernel_rfl) (B99_58 N) (F99_58 N) (fun _ => rfl) (fun _ _ => rfl) (fun f x => by kernel_rfl) k
@[reducible] def w99 : List SP := [⟨[.int .i64], []⟩]
noncomputable def F99 (N : Nat) : (Int) → Option (Int)
  | x0 =>
  Option.bind (F99_58 N N ((1 : Int), (0 : Int), x0)) fun y0 =>
  some (y0)
noncomputable def T99 (N : Nat) : Pk → Tr Pk := tellS s99 w99 (F99 N)
theorem T99_ok (N : Nat) : FOK Tryz.prog 99 (T99 N) :=
  (fn_ok2 ownT mix (tab99_ok N) Tryz.func99 s99 w99 [] (cuts := [(58, L99_58.cut (F99_58 N N))]) ⟨C99_58_ok N N, trivial⟩ (fun _ => by kernel_rfl) (by kernel_rfl) (F99 N) (fun x => by kernel_rfl))
@[reducible] def s61 : SP := ⟨[.ro (.int .i64)], []⟩
noncomputable def tab61 (N : Nat) : Tabs := [(99, T99 N)]
theorem tab61_ok (N : Nat) : TabOK Tryz.prog (tab61 N) := ⟨T99_ok N, trivial⟩
@[reducible] def L61_122 : LD := ⟨122, [0, 5, 4], [(.ret, [2, 3]), (.exit 0, [4])], ⟨[.ro (.int .i64), .int .i64, .int .i64], []⟩, [(.ret, ⟨[.int .i64, .int .i64], []⟩), (.exit 0, ⟨[.int .i64], []⟩)]⟩
abbrev P61_122 : Type := (List Int) × Int × Int
abbrev R61_122 : Type := ((Int × Int) ⊕ (Int))
noncomputable def B61_122 (N : Nat) (f : P61_122 → Option R61_122) : P61_122 → Option R61_122
  | (x0, x1, x2) =>
  iteP (decide (x1 < (↑(List.length x0) : Int))) (
  iteP (within x1 (List.length x0)) (
  Option.bind (x0[Int.toNat x1]?) fun y0 =>
  iteP (decide (y0 < 0)) (
  some (.inl (((0 : Int), (50 : Int))))) (
  iteP (within x1 (List.length x0)) (
  Option.bind (x0[Int.toNat x1]?) fun y1 =>
  iteP (decide (y1 > 15)) (
  some (.inl (((0 : Int), (50 : Int))))) (
  iteP (within x1 (List.length x0)) (
  Option.bind (x0[Int.toNat x1]?) fun y2 =>
  iteP (decide (y2 > 0)) (
  iteP (within x1 (List.length x0)) (
  Option.bind (x0[Int.toNat x1]?) fun y3 =>
  Option.bind (F99 N (IntKind.wrap .i64 ((15 : Int) - y3))) fun y4 =>
  Option.bind (f (x0, IntKind.wrap .i64 (x1 + 1), IntKind.wrap .i64 (x2 - y4))) fun r => match r with | .inl y => some (.inl y) | .inr y => some (.inr y)) (
  none)) (
  Option.bind (f (x0, IntKind.wrap .i64 (x1 + 1), x2)) fun r => match r with | .inl y => some (.inl y) | .inr y => some (.inr y))) (
  none))) (
  none))) (
  none)) (
  some (.inr (x2)))
noncomputable def F61_122 (N : Nat) : Nat → P61_122 → Option R61_122
  | 0, _ => none
  | k + 1, x => B61_122 N (F61_122 N k) x
theorem C61_122_ok (N : Nat) (k : Nat) : CutAt Tryz.prog Tryz.f61 [] 122 (L61_122.cut (F61_122 N k)) :=
  L61_122.loopT ownT mix (tab61_ok N) Tryz.f61 [] (cuts := []) trivial (by decide +kernel) (by kernel_rfl) (B61_122 N) (F61_122 N) (fun _ => rfl) (fun _ _ => rfl) (fun f x => by kernel_rfl) k
@[reducible] def w61 : List SP := [⟨[.tup [.int .i64, .int .i64]], []⟩]
noncomputable def F61 (N : Nat) : ((List Int)) → Option (Int × Int)
  | x0 =>
  iteP (decide ((↑(List.length x0) : Int) > (320 : Int))) (
  some (((0 : Int), (50 : Int)))) (
  Option.bind (F61_122 N N (x0, (0 : Int), (32768 : Int))) fun y0 =>
  match y0 with
  | .inl y1 =>
  some ((y1.1, y1.2))
  | .inr y1 =>
  iteP (decide (y1 < 0)) (
  some (((0 : Int), (50 : Int)))) (
  some ((y1, (0 : Int)))))
noncomputable def T61 (N : Nat) : Pk → Tr Pk := tellS s61 w61 (F61 N)
theorem T61_ok (N : Nat) : FOK Tryz.prog 61 (T61 N) :=
  (fn_ok2 ownT mix (tab61_ok N) Tryz.func61 s61 w61 [] (cuts := [(122, L61_122.cut (F61_122 N N))]) ⟨C61_122_ok N N, trivial⟩ (fun _ => by kernel_rfl) (by kernel_rfl) (F61 N) (fun x => by kernel_rfl))
@[reducible] def s62 : SP := ⟨[.ro (.int .i64)], []⟩
noncomputable def tab62 (N : Nat) : Tabs := []
theorem tab62_ok (N : Nat) : TabOK Tryz.prog (tab62 N) := trivial
@[reducible] def L62_15654 : LD := ⟨15654, [4, 6, 0, 3, 5], [(.ret, [2]), (.exit 2, [5, 4, 0, 3]), (.exit 1, [5, 4, 0, 3]), (.exit 0, [3])], ⟨[.int .i64, .int .i64, .ro (.int .i64), .sl 0, .int .i64], [.row y2 105]⟩, [(.exit 2, ⟨[.int .i64, .int .i64, .ro (.int .i64), .sl 0], [.row y2 105]⟩)]⟩
abbrev P62_15654 : Type := Int × Int × (List Int) × Int × (List (Int × (Int × Unit)))
abbrev R62_15654 : Type := Int × Int × (List Int) × (List (Int × (Int × Unit)))
noncomputable def B62_15654 (N : Nat) (f : P62_15654 → Option R62_15654) : P62_15654 → Option R62_15654
  | (x0, x1, x2, x3, x4) =>
  iteP (decide (x1 < (↑(List.length x2) : Int))) (
  iteP (within x1 (List.length x2)) (
  Option.bind (x2[Int.toNat x1]?) fun y0 =>
  iteP (y0 == x3) (
  iteP (within x1 (List.length x4)) (
  Option.bind (x4[Int.toNat x1]?) fun y1 =>
  Option.bind (f (IntKind.wrap .i64 (x0 + 1), IntKind.wrap .i64 (x1 + 1), x2, x3, List.set x4 (Int.toNat x1) (x0, x3, ()))) fun r => some r) (
  none)) (
  Option.bind (f (x0, IntKind.wrap .i64 (x1 + 1), x2, x3, x4)) fun r => some r)) (
  none)) (
  some ((x3, x0, x2, x4)))
noncomputable def F62_15654 (N : Nat) : Nat → P62_15654 → Option R62_15654
  | 0, _ => none
  | k + 1, x => B62_15654 N (F62_15654 N k) x
theorem C62_15654_ok (N : Nat) (k : Nat) : CutAt Tryz.prog Tryz.f62 [] 15654 (L62_15654.cut (F62_15654 N k)) :=
  L62_15654.loopT ownT mix (tab62_ok N) Tryz.f62 [] (cuts := []) trivial (by decide +kernel) (by kernel_rfl) (B62_15654 N) (F62_15654 N) (fun _ => rfl) (fun _ _ => rfl) (fun f x => by kernel_rfl) k
@[reducible] def L62_122 : LD := ⟨122, [4, 0, 3, 5], [(.ret, [2]), (.exit 0, [3])], ⟨[.int .i64, .ro (.int .i64), .sl 0, .int .i64], [.row y2 105]⟩, [(.exit 0, ⟨[.sl 0], [.row y2 105]⟩)]⟩
abbrev P62_122 : Type := Int × (List Int) × Int × (List (Int × (Int × Unit)))
abbrev R62_122 : Type := (List (Int × (Int × Unit)))
noncomputable def B62_122 (N : Nat) (f : P62_122 → Option R62_122) : P62_122 → Option R62_122
  | (x0, x1, x2, x3) =>
  iteP (decide (x2 ≤ 15)) (
  Option.bind (F62_15654 N N (IntKind.wrap .i64 (x0 * 2), (0 : Int), x1, x2, x3)) fun y0 =>
  Option.bind (f (y0.2.1, y0.2.2.1, IntKind.wrap .i64 (y0.1 + 1), y0.2.2.2)) fun r => some r) (
  some (x3))
noncomputable def F62_122 (N : Nat) : Nat → P62_122 → Option R62_122
  | 0, _ => none
  | k + 1, x => B62_122 N (F62_122 N k) x
theorem C62_122_ok (N : Nat) (k : Nat) : CutAt Tryz.prog Tryz.f62 [] 122 (L62_122.cut (F62_122 N k)) :=
  L62_122.loopT ownT mix (tab62_ok N) Tryz.f62 [] (cuts := [(15654, L62_15654.cut (F62_15654 N N))]) ⟨C62_15654_ok N N, trivial⟩ (by decide +kernel) (by kernel_rfl) (B62_122 N) (F62_122 N) (fun _ => rfl) (fun _ _ => rfl) (fun f x => by kernel_rfl) k
@[reducible] def w62 : List SP := [⟨[.sl 0], [.row y2 105]⟩]
noncomputable def F62 (N : Nat) : ((List Int)) → Option ((List (Int × (Int × Unit))))
  | x0 =>
  iteP (decide ((0 : Int) ≤ (↑(List.length x0) : Int) ∧ (↑(List.length x0) : Int) ≤ (↑(List.length x0) : Int) ∧ (↑(List.length x0) : Int) * (16 : Int) ≤ (140737488355328 : Int) ∧ (↑(List.length x0) : Int) ≤ (140737488355328 : Int))) (
  Option.bind (F62_122 N N ((0 : Int), x0, (1 : Int), List.replicate (Int.toNat (↑(List.length x0) : Int)) ((0 : Int), (0 : Int), ()))) fun y0 =>
  some (y0)) (
  none)
noncomputable def T62 (N : Nat) : Pk → Tr Pk := tellS s62 w62 (F62 N)
theorem T62_ok (N : Nat) : FOK Tryz.prog 62 (T62 N) :=
  (fn_ok2 ownT mix (tab62_ok N) Tryz.func62 s62 w62 [] (cuts := [(15654, L62_15654.cut (F62_15654 N N)), (122, L62_122.cut (F62_122 N N))]) ⟨C62_15654_ok N N, C62_122_ok N N, trivial⟩ (fun _ => by kernel_rfl) (by kernel_rfl) (F62 N) (fun x => by kernel_rfl))
@[reducible] def s157 : SP := ⟨[.agg [.int .i64, .int .i64], .int .i64], []⟩
noncomputable def tab157 (N : Nat) : Tabs := [(99, T99 N)]
theorem tab157_ok (N : Nat) : TabOK Tryz.prog (tab157 N) := ⟨T99_ok N, trivial⟩
@[reducible] def w157 : List SP := [⟨[.bool], []⟩]
noncomputable def F157 (N : Nat) : (Int × Int × Int) → Option (Bool)
  | (x0, x1, x2) =>
  Option.bind (F99 N (IntKind.wrap .i64 (IntKind.wrap .i64 (x1 - 1) - x2))) fun y0 =>
  iteP (decide (y0 = (0 : Int))) (
  none) (
  some (Int.tmod (IntKind.wrap .i64 (Int.tdiv x0 y0)) (2 : Int) == (1 : Int)))
noncomputable def T157 (N : Nat) : Pk → Tr Pk := tellS s157 w157 (F157 N)
theorem T157_ok (N : Nat) : FOK Tryz.prog 157 (T157 N) :=
  (fn_ok2 ownT mix (tab157_ok N) Tryz.func157 s157 w157 [] (cuts := []) trivial (fun _ => by kernel_rfl) (by kernel_rfl) (F157 N) (fun x => by kernel_rfl))
@[reducible] def s129 : SP := ⟨[.agg [.int .i64, .int .i64], .ro (.bool)], []⟩
noncomputable def tab129 (N : Nat) : Tabs := [(157, T157 N)]
theorem tab129_ok (N : Nat) : TabOK Tryz.prog (tab129 N) := ⟨T157_ok N, trivial⟩
@[reducible] def L129_58 : LD := ⟨58, [2, 1, 5], [(.ret, [4]), (.exit 0, [])], ⟨[.adr 0 [], .ro (.bool), .int .i64], [.var (.agg [.int .i64, .int .i64])]⟩, [(.ret, ⟨[.bool], []⟩), (.exit 0, ⟨[], []⟩)]⟩
abbrev P129_58 : Type := (List Bool) × Int × Int × Int
abbrev R129_58 : Type := ((Bool) ⊕ (Unit))
noncomputable def B129_58 (N : Nat) (f : P129_58 → Option R129_58) : P129_58 → Option R129_58
  | (x0, x1, x2, x3) =>
  iteP (decide (x1 < (↑(List.length x0) : Int))) (
  Option.bind (F157 N (x2, x3, x1)) fun y0 =>
  iteP (within x1 (List.length x0)) (
  Option.bind (x0[Int.toNat x1]?) fun y1 =>
  iteP (!y0 == y1) (
  some (.inl (false))) (
  Option.bind (f (x0, IntKind.wrap .i64 (x1 + 1), x2, x3)) fun r => match r with | .inl y => some (.inl y) | .inr y => some (.inr y))) (
  none)) (
  some (.inr (())))
noncomputable def F129_58 (N : Nat) : Nat → P129_58 → Option R129_58
  | 0, _ => none
  | k + 1, x => B129_58 N (F129_58 N k) x
theorem C129_58_ok (N : Nat) (k : Nat) : CutAt Tryz.prog Tryz.f129 [] 58 (L129_58.cut (F129_58 N k)) :=
  L129_58.loopT ownT mix (tab129_ok N) Tryz.f129 [] (cuts := []) trivial (by decide +kernel) (by kernel_rfl) (B129_58 N) (F129_58 N) (fun _ => rfl) (fun _ _ => rfl) (fun f x => by kernel_rfl) k
@[reducible] def w129 : List SP := [⟨[.bool], []⟩]
noncomputable def F129 (N : Nat) : (Int × Int × (List Bool)) → Option (Bool)
  | (x0, x1, x2) =>
  iteP (decide (x1 < (↑(List.length x2) : Int))) (
  some (false)) (
  Option.bind (F129_58 N N (x2, (0 : Int), x0, x1)) fun y0 =>
  match y0 with
  | .inl y1 =>
  some (y1)
  | .inr y1 =>
  some (true))
noncomputable def T129 (N : Nat) : Pk → Tr Pk := tellS s129 w129 (F129 N)
theorem T129_ok (N : Nat) : FOK Tryz.prog 129 (T129 N) :=
  (fn_ok2 ownT mix (tab129_ok N) Tryz.func129 s129 w129 [] (cuts := [(58, L129_58.cut (F129_58 N N))]) ⟨C129_58_ok N N, trivial⟩ (fun _ => by kernel_rfl) (by kernel_rfl) (F129 N) (fun x => by kernel_rfl))
@[reducible] def s100 : SP := ⟨[.ro y2, .ro (.bool)], []⟩
noncomputable def tab100 (N : Nat) : Tabs := [(129, T129 N)]
theorem tab100_ok (N : Nat) : TabOK Tryz.prog (tab100 N) := ⟨T129_ok N, trivial⟩
@[reducible] def L100_58 : LD := ⟨58, [6, 5, 1, 0], [(.ret, [4]), (.exit 0, [5])], ⟨[.int .i64, .int .i64, .ro (.bool), .ro y2], []⟩, [(.ret, ⟨[.int .i64], []⟩), (.exit 0, ⟨[.int .i64], []⟩)]⟩
abbrev P100_58 : Type := Int × Int × (List Bool) × (List (Int × (Int × Unit)))
abbrev R100_58 : Type := ((Int) ⊕ (Int))
noncomputable def B100_58 (N : Nat) (f : P100_58 → Option R100_58) : P100_58 → Option R100_58
  | (x0, x1, x2, x3) =>
  iteP (decide (x0 < (↑(List.length x3) : Int))) (
  iteP (within x0 (List.length x3)) (
  Option.bind (x3[Int.toNat x0]?) fun y0 =>
  iteP (y0.2.1 == 0) (
  Option.bind (f (IntKind.wrap .i64 (x0 + 1), x1, x2, x3)) fun r => match r with | .inl y => some (.inl y) | .inr y => some (.inr y)) (
  iteP (within x0 (List.length x3)) (
  Option.bind (x3[Int.toNat x0]?) fun y1 =>
  Option.bind (F129 N (y1.1, y1.2.1, x2)) fun y2 =>
  iteP (y2) (
  iteP (within x0 (List.length x3)) (
  Option.bind (x3[Int.toNat x0]?) fun y3 =>
  iteP (y3.2.1 == (↑(List.length x2) : Int)) (
  some (.inl (x0))) (
  iteP (y2) (
  Option.bind (f (IntKind.wrap .i64 (x0 + 1), (-1 : Int), x2, x3)) fun r => match r with | .inl y => some (.inl y) | .inr y => some (.inr y)) (
  Option.bind (f (IntKind.wrap .i64 (x0 + 1), x1, x2, x3)) fun r => match r with | .inl y => some (.inl y) | .inr y => some (.inr y)))) (
  none)) (
  iteP (y2) (
  Option.bind (f (IntKind.wrap .i64 (x0 + 1), (-1 : Int), x2, x3)) fun r => match r with | .inl y => some (.inl y) | .inr y => some (.inr y)) (
  Option.bind (f (IntKind.wrap .i64 (x0 + 1), x1, x2, x3)) fun r => match r with | .inl y => some (.inl y) | .inr y => some (.inr y)))) (
  none))) (
  none)) (
  some (.inr (x1)))
noncomputable def F100_58 (N : Nat) : Nat → P100_58 → Option R100_58
  | 0, _ => none
  | k + 1, x => B100_58 N (F100_58 N k) x
theorem C100_58_ok (N : Nat) (k : Nat) : CutAt Tryz.prog Tryz.f100 [] 58 (L100_58.cut (F100_58 N k)) :=
  L100_58.loopT ownT mix (tab100_ok N) Tryz.f100 [] (cuts := []) trivial (by decide +kernel) (by kernel_rfl) (B100_58 N) (F100_58 N) (fun _ => rfl) (fun _ _ => rfl) (fun f x => by kernel_rfl) k
@[reducible] def w100 : List SP := [⟨[.int .i64], []⟩]
noncomputable def F100 (N : Nat) : ((List (Int × (Int × Unit))) × (List Bool)) → Option (Int)
  | (x0, x1) =>
  Option.bind (F100_58 N N ((0 : Int), (-2 : Int), x1, x0)) fun y0 =>
  match y0 with
  | .inl y1 =>
  some (y1)
  | .inr y1 =>
  some (y1)
noncomputable def T100 (N : Nat) : Pk → Tr Pk := tellS s100 w100 (F100 N)
theorem T100_ok (N : Nat) : FOK Tryz.prog 100 (T100 N) :=
  (fn_ok2 ownT mix (tab100_ok N) Tryz.func100 s100 w100 [] (cuts := [(58, L100_58.cut (F100_58 N N))]) ⟨C100_58_ok N N, trivial⟩ (fun _ => by kernel_rfl) (by kernel_rfl) (F100 N) (fun x => by kernel_rfl))
@[reducible] def s63 : SP := ⟨[.ro y2, .adr 0 []], [.var (.agg [.sl 1, .int .i64, .int .i64]), .row (.bool) 4]⟩
noncomputable def tab63 (N : Nat) : Tabs := [(100, T100 N), (23, T23 N)]
theorem tab63_ok (N : Nat) : TabOK Tryz.prog (tab63 N) := ⟨T100_ok N, T23_ok N, trivial⟩
@[reducible] def L63_14 : LD := ⟨14, [0, 6, 1], [(.ret, [4, 5]), (.exit 0, [4, 5])], ⟨[.ro y2, .sl 1, .adr 0 []], [.var (.agg [.sl 2, .int .i64, .int .i64]), .row (.bool) 4, .row (.bool) 4]⟩, [(.ret, ⟨[.int .i64, .int .i64], [.var (.agg [.sl 1, .int .i64, .int .i64]), .row (.bool) 4]⟩)]⟩
abbrev P63_14 : Type := (List (Int × (Int × Unit))) × Int × Int × (List Bool) × (List Bool)
abbrev R63_14 : Type := Int × Int × Int × Int × (List Bool)
noncomputable def B63_14 (N : Nat) (f : P63_14 → Option R63_14) : P63_14 → Option R63_14
  | (x0, x1, x2, x3, x4) =>
  Option.bind (F100 N (x0, x3)) fun y0 =>
  iteP (decide (y0 ≥ 0)) (
  some ((y0, (0 : Int), x1, x2, x4))) (
  iteP (y0 == (-2 : Int)) (
  some (((0 : Int), (80 : Int), x1, x2, x4))) (
  Option.bind (F23 N ((1 : Int), x1, x2, x4)) fun y1 =>
  iteP (y1.2.2.1 != 0) (
  some (((0 : Int), y1.2.2.1, y1.2.1, y1.2.2.1, y1.2.2.2))) (
  iteP (decide ((List.length x3 + List.length [y1.1 == 1]) * 1 ≤ (140737488355328 : Nat) ∧ List.length x3 + List.length [y1.1 == 1] ≤ 140737488355328)) (
  Option.bind (f (x0, y1.2.1, y1.2.2.1, x3 ++ [y1.1 == 1], y1.2.2.2)) fun r => some r) (
  none))))
noncomputable def F63_14 (N : Nat) : Nat → P63_14 → Option R63_14
  | 0, _ => none
  | k + 1, x => B63_14 N (F63_14 N k) x
theorem C63_14_ok (N : Nat) (k : Nat) : CutAt Tryz.prog Tryz.f63 [0] 14 (L63_14.cut (F63_14 N k)) :=
  L63_14.loopT ownT mix (tab63_ok N) Tryz.f63 [0] (cuts := []) trivial (by decide +kernel) (by kernel_rfl) (B63_14 N) (F63_14 N) (fun _ => rfl) (fun _ _ => rfl) (fun f x => by kernel_rfl) k
@[reducible] def w63 : List SP := [⟨[.tup [.int .i64, .int .i64]], [.var (.agg [.sl 1, .int .i64, .int .i64]), .row (.bool) 4]⟩]
noncomputable def F63 (N : Nat) : ((List (Int × (Int × Unit))) × Int × Int × (List Bool)) → Option (Int × Int × Int × Int × (List Bool))
  | (x0, x1, x2, x3) =>
  Option.bind (F63_14 N N (x0, x1, x2, [], x3)) fun y0 =>
  some ((y0.1, y0.2.1, y0.2.2.1, y0.2.2.2.1, y0.2.2.2.2))
noncomputable def T63 (N : Nat) : Pk → Tr Pk := tellS s63 w63 (F63 N)
theorem T63_ok (N : Nat) : FOK Tryz.prog 63 (T63 N) :=
  (fn_ok2 ownT mix (tab63_ok N) Tryz.func63 s63 w63 [0] (cuts := [(14, L63_14.cut (F63_14 N N))]) ⟨C63_14_ok N N, trivial⟩ (fun _ => by kernel_rfl) (by kernel_rfl) (F63 N) (fun x => by kernel_rfl))
@[reducible] def s24 : SP := ⟨[.adr 0 []], [.var (.agg [.sl 1, .int .i64, .int .i64]), .row (.bool) 4]⟩
noncomputable def tab24 (N : Nat) : Tabs := [(23, T23 N), (60, T60 N), (61, T61 N), (62, T62 N), (63, T63 N)]
theorem tab24_ok (N : Nat) : TabOK Tryz.prog (tab24 N) := ⟨T23_ok N, T60_ok N, T61_ok N, T62_ok N, T63_ok N, trivial⟩
@[reducible] def L24_4090 : LD := ⟨4090, [10, 7, 6, 5, 8, 9, 0], [(.ret, [2, 3, 4]), (.exit 0, [8, 5, 6, 0])], ⟨[.int .i64, .int .i64, .int .i64, .int .i64, .sl 1, .sl 2, .adr 0 []], [.var (.agg [.sl 3, .int .i64, .int .i64]), .row (.int .i64) 3, .row (.int .i64) 3, .row (.bool) 4]⟩, [(.exit 0, ⟨[.sl 1, .int .i64, .int .i64, .adr 0 []], [.var (.agg [.sl 2, .int .i64, .int .i64]), .row (.int .i64) 3, .row (.bool) 4]⟩)]⟩
abbrev P24_4090 : Type := Int × Int × Int × Int × Int × Int × (List Int) × (List Int) × (List Bool)
abbrev R24_4090 : Type := Int × Int × Int × Int × (List Int) × (List Bool)
noncomputable def B24_4090 (N : Nat) (f : P24_4090 → Option R24_4090) : P24_4090 → Option R24_4090
  | (x0, x1, x2, x3, x4, x5, x6, x7, x8) =>
  iteP (decide (x0 < x1)) (
  iteP (within x0 (List.length x7)) (
  Option.bind (x7[Int.toNat x0]?) fun y0 =>
  Option.bind (F23 N ((3 : Int), x4, x5, x8)) fun y1 =>
  iteP (within y0 (List.length x6)) (
  Option.bind (x6[Int.toNat y0]?) fun y2 =>
  Option.bind (f (IntKind.wrap .i64 (x0 + 1), x1, x2, x3, y1.2.1, y1.2.2.1, List.set x6 (Int.toNat y0) y1.1, x7, y1.2.2.2)) fun r => some r) (
  none)) (
  none)) (
  some ((x3, x2, x4, x5, x6, x8)))
noncomputable def F24_4090 (N : Nat) : Nat → P24_4090 → Option R24_4090
  | 0, _ => none
  | k + 1, x => B24_4090 N (F24_4090 N k) x
theorem C24_4090_ok (N : Nat) (k : Nat) : CutAt Tryz.prog Tryz.f24 [0] 4090 (L24_4090.cut (F24_4090 N k)) :=
  L24_4090.loopT ownT mix (tab24_ok N) Tryz.f24 [0] (cuts := []) trivial (by decide +kernel) (by kernel_rfl) (B24_4090 N) (F24_4090 N) (fun _ => rfl) (fun _ _ => rfl) (fun f x => by kernel_rfl) k
@[reducible] def L24_536856062 : LD := ⟨536856062, [14, 19, 18, 6, 5, 0, 13, 17], [(.ret, [2, 3, 4]), (.exit 5, [13, 0, 5, 6, 14]), (.exit 3, [13, 0, 5, 6, 14]), (.exit 2, [14, 5])], ⟨[.sl 1, .int .i64, .int .i64, .int .i64, .int .i64, .adr 0 [], .sl 2, .int .i64], [.var (.agg [.sl 3, .int .i64, .int .i64]), .row (.int .i64) 3, .row y2 105, .row (.bool) 4]⟩, [(.exit 5, ⟨[.sl 1, .adr 0 [], .int .i64, .int .i64, .sl 2], [.var (.agg [.sl 3, .int .i64, .int .i64]), .row y2 105, .row (.int .i64) 3, .row (.bool) 4]⟩)]⟩
abbrev P24_536856062 : Type := Int × Int × Int × Int × Int × Int × Int × (List Int) × (List (Int × (Int × Unit))) × (List Bool)
abbrev R24_536856062 : Type := Int × Int × Int × Int × (List (Int × (Int × Unit))) × (List Int) × (List Bool)
noncomputable def B24_536856062 (N : Nat) (f : P24_536856062 → Option R24_536856062) : P24_536856062 → Option R24_536856062
  | (x0, x1, x2, x3, x4, x5, x6, x7, x8, x9) =>
  iteP (decide (x0 < x1)) (
  iteP (decide ((List.length x7 + List.length [x4]) * 8 ≤ (140737488355328 : Nat) ∧ List.length x7 + List.length [x4] ≤ 140737488355328)) (
  Option.bind (f (IntKind.wrap .i64 (x0 + 1), x1, x2, x3, x4, x5, x6, x7 ++ [x4], x8, x9)) fun r => some r) (
  none)) (
  some ((x3, x2, x5, x6, x8, x7, x9)))
noncomputable def F24_536856062 (N : Nat) : Nat → P24_536856062 → Option R24_536856062
  | 0, _ => none
  | k + 1, x => B24_536856062 N (F24_536856062 N k) x
theorem C24_536856062_ok (N : Nat) (k : Nat) : CutAt Tryz.prog Tryz.f24 [0] 536856062 (L24_536856062.cut (F24_536856062 N k)) :=
  L24_536856062.loopT ownT mix (tab24_ok N) Tryz.f24 [0] (cuts := [(4090, L24_4090.cut (F24_4090 N N))]) ⟨C24_4090_ok N N, trivial⟩ (by decide +kernel) (by kernel_rfl) (B24_536856062 N) (F24_536856062 N) (fun _ => rfl) (fun _ _ => rfl) (fun f x => by kernel_rfl) k
@[reducible] def L24_33553503 : LD := ⟨33553503, [14, 18, 6, 5, 13, 17, 0], [(.ret, [2, 3, 4]), (.exit 3, [13, 0, 5, 6, 14]), (.exit 2, [14, 5]), (.normal, [13, 0, 5, 6, 14])], ⟨[.sl 1, .int .i64, .int .i64, .int .i64, .sl 2, .int .i64, .adr 0 []], [.var (.agg [.sl 3, .int .i64, .int .i64]), .row (.int .i64) 3, .row y2 105, .row (.bool) 4]⟩, [(.ret, ⟨[.sl 1, .sl 2, .int .i64], [.var (.agg [.sl 3, .int .i64, .int .i64]), .row (.int .i64) 3, .row (.int .i64) 3, .row (.bool) 4]⟩), (.normal, ⟨[.sl 1, .adr 0 [], .int .i64, .int .i64, .sl 2], [.var (.agg [.sl 3, .int .i64, .int .i64]), .row y2 105, .row (.int .i64) 3, .row (.bool) 4]⟩)]⟩
noncomputable def F24_33553503 (N : Nat) : (Int × Int × Int × Int × Int × Int × (List Int) × (List (Int × (Int × Unit))) × (List Bool)) → Option (((Int × Int × Int × (List Int) × (List Int) × (List Bool)) ⊕ (Int × Int × Int × Int × (List (Int × (Int × Unit))) × (List Int) × (List Bool))))
  | (x0, x1, x2, x3, x4, x5, x6, x7, x8) =>
  iteP (x5 != 0) (
  some (.inl ((x5, x4, x5, [], [], x8)))) (
  iteP (decide (IntKind.wrap .i64 ((↑(List.length x6) : Int) + x0) > IntKind.wrap .i64 (x2 + x1))) (
  some (.inl (((80 : Int), x4, x5, [], [], x8)))) (
  Option.bind (F24_536856062 N N ((0 : Int), x0, x1, x2, x3, x4, x5, x6, x7, x8)) fun y0 =>
  some (.inr ((y0.1, y0.2.1, y0.2.2.1, y0.2.2.2.1, y0.2.2.2.2.1, y0.2.2.2.2.2.1, y0.2.2.2.2.2.2)))))
theorem C24_33553503_ok (N : Nat) (k : Nat) : CutAt Tryz.prog Tryz.f24 [0] 33553503 (L24_33553503.cut (F24_33553503 N)) :=
  L24_33553503.pieceT ownT mix (tab24_ok N) Tryz.f24 [0] (cuts := [(4090, L24_4090.cut (F24_4090 N N)), (536856062, L24_536856062.cut (F24_536856062 N N))]) ⟨C24_4090_ok N N, C24_536856062_ok N N, trivial⟩ (by decide +kernel) (by kernel_rfl) (F24_33553503 N) (fun x => by kernel_rfl)
@[reducible] def L24_131068 : LD := ⟨131068, [13, 0, 5, 6, 14], [(.ret, [2, 3, 4]), (.exit 2, [14, 5])], ⟨[.sl 1, .adr 0 [], .int .i64, .int .i64, .sl 2], [.var (.agg [.sl 3, .int .i64, .int .i64]), .row y2 105, .row (.int .i64) 3, .row (.bool) 4]⟩, [(.ret, ⟨[.sl 1, .sl 2, .int .i64], [.var (.agg [.sl 3, .int .i64, .int .i64]), .row (.int .i64) 3, .row (.int .i64) 3, .row (.bool) 4]⟩), (.exit 2, ⟨[.sl 1, .int .i64], [.var (.agg [.sl 2, .int .i64, .int .i64]), .row (.int .i64) 3, .row (.bool) 4]⟩)]⟩
abbrev P24_131068 : Type := Int × Int × Int × Int × (List (Int × (Int × Unit))) × (List Int) × (List Bool)
abbrev R24_131068 : Type := ((Int × Int × Int × (List Int) × (List Int) × (List Bool)) ⊕ (Int × Int × Int × (List Int) × (List Bool)))
noncomputable def B24_131068 (N : Nat) (f : P24_131068 → Option R24_131068) : P24_131068 → Option R24_131068
  | (x0, x1, x2, x3, x4, x5, x6) =>
  iteP (decide ((↑(List.length x5) : Int) < IntKind.wrap .i64 (x0 + x1))) (
    Option.bind (F63 N (x4, x2, x3, x6)) fun y0 =>
    iteP (y0.2.1 != 0) (
      some (.inl ((y0.2.1, y0.2.2.1, y0.2.2.2.1, [], [], y0.2.2.2.2)))) (
      iteP (decide (y0.1 < 16)) (
        iteP (decide ((List.length x5 + List.length [y0.1]) * 8 ≤ (140737488355328 : Nat) ∧ List.length x5 + List.length [y0.1] ≤ 140737488355328)) (
          Option.bind (f (x0, x1, y0.2.2.1, y0.2.2.2.1, x4, x5 ++ [y0.1], y0.2.2.2.2)) fun r => match r with | .inl y => some (.inl y) | .inr y => some (.inr y)) (
          none)) (
        iteP (y0.1 == 16) (
          iteP ((↑(List.length x5) : Int) == (0 : Int)) (
            some (.inl (((80 : Int), y0.2.2.1, y0.2.2.2.1, [], [], y0.2.2.2.2)))) (
            iteP (within (IntKind.wrap .i64 ((↑(List.length x5) : Int) - (1 : Int))) (List.length x5)) (
              Option.bind (x5[Int.toNat (IntKind.wrap .i64 ((↑(List.length x5) : Int) - (1 : Int)))]?) fun y1 =>
              Option.bind (F23 N ((2 : Int), y0.2.2.1, y0.2.2.2.1, y0.2.2.2.2)) fun y2 =>
              Option.bind (F24_33553503 N (IntKind.wrap .i64 ((3 : Int) + y2.1), x1, x0, y1, y2.2.1, y2.2.2.1, x5, x4, y2.2.2.2)) fun y3 =>
              match y3 with
              | .inl y4 =>
                some (.inl ((y4.1, y4.2.1, y4.2.2.1, y4.2.2.2.1, y4.2.2.2.2.1, y4.2.2.2.2.2)))
              | .inr y4 =>
                Option.bind (f (y4.1, y4.2.1, y4.2.2.1, y4.2.2.2.1, y4.2.2.2.2.1, y4.2.2.2.2.2.1, y4.2.2.2.2.2.2)) fun r => match r with | .inl y => some (.inl y) | .inr y => some (.inr y)) (
              none))) (
          iteP (y0.1 == 17) (
            Option.bind (F23 N ((3 : Int), y0.2.2.1, y0.2.2.2.1, y0.2.2.2.2)) fun y5 =>
            Option.bind (F24_33553503 N (IntKind.wrap .i64 ((3 : Int) + y5.1), x1, x0, (0 : Int), y5.2.1, y5.2.2.1, x5, x4, y5.2.2.2)) fun y6 =>
            match y6 with
            | .inl y7 =>
              some (.inl ((y7.1, y7.2.1, y7.2.2.1, y7.2.2.2.1, y7.2.2.2.2.1, y7.2.2.2.2.2)))
            | .inr y7 =>
              Option.bind (f (y7.1, y7.2.1, y7.2.2.1, y7.2.2.2.1, y7.2.2.2.2.1, y7.2.2.2.2.2.1, y7.2.2.2.2.2.2)) fun r => match r with | .inl y => some (.inl y) | .inr y => some (.inr y)) (
            iteP (y0.1 == 18) (
              Option.bind (F23 N ((7 : Int), y0.2.2.1, y0.2.2.2.1, y0.2.2.2.2)) fun y8 =>
              Option.bind (F24_33553503 N (IntKind.wrap .i64 ((11 : Int) + y8.1), x1, x0, (0 : Int), y8.2.1, y8.2.2.1, x5, x4, y8.2.2.2)) fun y9 =>
              match y9 with
              | .inl y10 =>
                some (.inl ((y10.1, y10.2.1, y10.2.2.1, y10.2.2.2.1, y10.2.2.2.2.1, y10.2.2.2.2.2)))
              | .inr y10 =>
                Option.bind (f (y10.1, y10.2.1, y10.2.2.1, y10.2.2.2.1, y10.2.2.2.2.1, y10.2.2.2.2.2.1, y10.2.2.2.2.2.2)) fun r => match r with | .inl y => some (.inl y) | .inr y => some (.inr y)) (
              Option.bind (F24_33553503 N ((0 : Int), x1, x0, (0 : Int), y0.2.2.1, y0.2.2.2.1, x5, x4, y0.2.2.2.2)) fun y11 =>
              match y11 with
              | .inl y12 =>
                some (.inl ((y12.1, y12.2.1, y12.2.2.1, y12.2.2.2.1, y12.2.2.2.2.1, y12.2.2.2.2.2)))
              | .inr y12 =>
                Option.bind (f (y12.1, y12.2.1, y12.2.2.1, y12.2.2.2.1, y12.2.2.2.2.1, y12.2.2.2.2.2.1, y12.2.2.2.2.2.2)) fun r => match r with | .inl y => some (.inl y) | .inr y => some (.inr y))))))) (
    some (.inr ((x0, x2, x3, x5, x6))))
noncomputable def F24_131068 (N : Nat) : Nat → P24_131068 → Option R24_131068
  | 0, _ => none
  | k + 1, x => B24_131068 N (F24_131068 N k) x
theorem C24_131068_ok (N : Nat) (k : Nat) : CutAt Tryz.prog Tryz.f24 [0] 131068 (L24_131068.cut (F24_131068 N k)) :=
  L24_131068.loopT ownT mix (tab24_ok N) Tryz.f24 [0] (cuts := [(4090, L24_4090.cut (F24_4090 N N)), (536856062, L24_536856062.cut (F24_536856062 N N)), (33553503, L24_33553503.cut (F24_33553503 N))]) ⟨C24_4090_ok N N, C24_536856062_ok N N, C24_33553503_ok N N, trivial⟩ (by decide +kernel) (by kernel_rfl) (B24_131068 N) (F24_131068 N) (fun _ => rfl) (fun _ _ => rfl) (fun f x => by kernel_rfl) k
@[reducible] def L24_127 : LD := ⟨127, [7, 6, 5, 0], [(.ret, [2, 3, 4]), (.normal, [2, 3, 4])], ⟨[.int .i64, .int .i64, .int .i64, .adr 0 []], [.var (.agg [.sl 1, .int .i64, .int .i64]), .row (.bool) 4]⟩, [(.ret, ⟨[.sl 1, .sl 2, .int .i64], [.var (.agg [.sl 3, .int .i64, .int .i64]), .row (.int .i64) 3, .row (.int .i64) 3, .row (.bool) 4]⟩), (.ret, ⟨[.slp 1 (.c 0) .h, .slp 1 .h .h, .int .i64], [.var (.agg [.sl 2, .int .i64, .int .i64]), .row (.int .i64) 3, .row (.bool) 4]⟩)]⟩
noncomputable def F24_127 (N : Nat) : (Int × Int × Int × Int × Int × (List Bool)) → Option (((Int × Int × Int × (List Int) × (List Int) × (List Bool)) ⊕ (Nat × Nat × Nat × Int × Int × Int × (List Int) × (List Bool))))
  | (x0, x1, x2, x3, x4, x5) =>
  Option.bind (F60 N ()) fun y0 =>
  Option.bind (F24_4090 N N ((0 : Int), x0, x1, x2, x3, x4, List.replicate (19 : Nat) (0 : Int), y0, x5)) fun y1 =>
  iteP (y1.2.2.2.1 != 0) (
  some (.inl ((y1.2.2.2.1, y1.2.2.1, y1.2.2.2.1, [], [], y1.2.2.2.2.2)))) (
  Option.bind (F61 N y1.2.2.2.2.1) fun y2 =>
  iteP (y2.2 != 0) (
  some (.inl (((80 : Int), y1.2.2.1, y1.2.2.2.1, [], [], y1.2.2.2.2.2)))) (
  Option.bind (F62 N y1.2.2.2.2.1) fun y3 =>
  Option.bind (F24_131068 N N (y1.1, y1.2.1, y1.2.2.1, y1.2.2.2.1, y3, [], y1.2.2.2.2.2)) fun y4 =>
  match y4 with
  | .inl y5 =>
  some (.inl ((y5.1, y5.2.1, y5.2.2.1, y5.2.2.2.1, y5.2.2.2.2.1, y5.2.2.2.2.2)))
  | .inr y5 =>
  iteP (decide ((0 : Int) ≤ y5.1 ∧ y5.1 ≤ (↑(List.length y5.2.2.2.1) : Int))) (
  iteP (decide ((0 : Int) ≤ y5.1 ∧ y5.1 ≤ (↑(List.length y5.2.2.2.1) : Int))) (
  some (.inr ((Int.toNat y5.1 - 0, Int.toNat y5.1, List.length y5.2.2.2.1 - Int.toNat y5.1, (0 : Int), y5.2.1, y5.2.2.1, y5.2.2.2.1, y5.2.2.2.2)))) (
  none)) (
  none)))
theorem C24_127_ok (N : Nat) (k : Nat) : CutAt Tryz.prog Tryz.f24 [0] 127 (L24_127.cut (F24_127 N)) :=
  L24_127.pieceT ownT mix (tab24_ok N) Tryz.f24 [0] (cuts := [(4090, L24_4090.cut (F24_4090 N N)), (536856062, L24_536856062.cut (F24_536856062 N N)), (33553503, L24_33553503.cut (F24_33553503 N)), (131068, L24_131068.cut (F24_131068 N N))]) ⟨C24_4090_ok N N, C24_536856062_ok N N, C24_33553503_ok N N, C24_131068_ok N N, trivial⟩ (by decide +kernel) (by kernel_rfl) (F24_127 N) (fun x => by kernel_rfl)
@[reducible] def w24 : List SP := [⟨[.tup [.sl 1, .sl 2, .int .i64]], [.var (.agg [.sl 3, .int .i64, .int .i64]), .row (.int .i64) 3, .row (.int .i64) 3, .row (.bool) 4]⟩, ⟨[.tup [.slp 1 (.c 0) .h, .slp 1 .h .h, .int .i64]], [.var (.agg [.sl 2, .int .i64, .int .i64]), .row (.int .i64) 3, .row (.bool) 4]⟩]
noncomputable def F24 (N : Nat) : (Int × Int × (List Bool)) → Option (((Int × Int × Int × (List Int) × (List Int) × (List Bool)) ⊕ (Nat × Nat × Nat × Int × Int × Int × (List Int) × (List Bool))))
  | (x0, x1, x2) =>
  Option.bind (F23 N ((5 : Int), x0, x1, x2)) fun y0 =>
  Option.bind (F23 N ((5 : Int), y0.2.1, y0.2.2.1, y0.2.2.2)) fun y1 =>
  Option.bind (F23 N ((4 : Int), y1.2.1, y1.2.2.1, y1.2.2.2)) fun y2 =>
  iteP (y2.2.2.1 != 0) (
  some (.inl ((y2.2.2.1, y2.2.1, y2.2.2.1, [], [], y2.2.2.2)))) (
  iteP (decide (IntKind.wrap .i64 (y0.1 + 257) > 286)) (
  some (.inl (((80 : Int), y2.2.1, y2.2.2.1, [], [], y2.2.2.2)))) (
  iteP (decide (IntKind.wrap .i64 (y1.1 + 1) > 30)) (
  some (.inl (((80 : Int), y2.2.1, y2.2.2.1, [], [], y2.2.2.2)))) (
  Option.bind (F24_127 N (IntKind.wrap .i64 (y2.1 + 4), IntKind.wrap .i64 (y1.1 + 1), IntKind.wrap .i64 (y0.1 + 257), y2.2.1, y2.2.2.1, y2.2.2.2)) fun y3 =>
  match y3 with
  | .inl y4 =>
  some (.inl ((y4.1, y4.2.1, y4.2.2.1, y4.2.2.2.1, y4.2.2.2.2.1, y4.2.2.2.2.2)))
  | .inr y4 =>
  some (.inr ((y4.1, y4.2.1, y4.2.2.1, y4.2.2.2.1, y4.2.2.2.2.1, y4.2.2.2.2.2.1, y4.2.2.2.2.2.2.1, y4.2.2.2.2.2.2.2))))))
noncomputable def T24 (N : Nat) : Pk → Tr Pk := tellS s24 w24 (F24 N)
theorem T24_ok (N : Nat) : FOK Tryz.prog 24 (T24 N) :=
  (fn_ok2 ownT mix (tab24_ok N) Tryz.func24 s24 w24 [0] (cuts := [(4090, L24_4090.cut (F24_4090 N N)), (536856062, L24_536856062.cut (F24_536856062 N N)), (33553503, L24_33553503.cut (F24_33553503 N)), (131068, L24_131068.cut (F24_131068 N N)), (127, L24_127.cut (F24_127 N))]) ⟨C24_4090_ok N N, C24_536856062_ok N N, C24_33553503_ok N N, C24_131068_ok N N, C24_127_ok N N, trivial⟩ (fun _ => by kernel_rfl) (by kernel_rfl) (F24 N) (fun x => by kernel_rfl))
@[reducible] def s106 : SP := ⟨[], []⟩
noncomputable def tab106 (N : Nat) : Tabs := []
theorem tab106_ok (N : Nat) : TabOK Tryz.prog (tab106 N) := trivial
@[reducible] def w106 : List SP := [⟨[.tup [.sl 0, .sl 1]], [.row (.int .i64) 3, .row (.int .i64) 3]⟩]
noncomputable def F106 (N : Nat) : (Unit) → Option ((List Int) × (List Int))
  | () =>
  some (([(3 : Int), (4 : Int), (5 : Int), (6 : Int), (7 : Int), (8 : Int), (9 : Int), (10 : Int), (11 : Int), (13 : Int), (15 : Int), (17 : Int), (19 : Int), (23 : Int), (27 : Int), (31 : Int), (35 : Int), (43 : Int), (51 : Int), (59 : Int), (67 : Int), (83 : Int), (99 : Int), (115 : Int), (131 : Int), (163 : Int), (195 : Int), (227 : Int), (258 : Int)], [(0 : Int), (0 : Int), (0 : Int), (0 : Int), (0 : Int), (0 : Int), (0 : Int), (0 : Int), (1 : Int), (1 : Int), (1 : Int), (1 : Int), (2 : Int), (2 : Int), (2 : Int), (2 : Int), (3 : Int), (3 : Int), (3 : Int), (3 : Int), (4 : Int), (4 : Int), (4 : Int), (4 : Int), (5 : Int), (5 : Int), (5 : Int), (5 : Int), (0 : Int)]))
noncomputable def T106 (N : Nat) : Pk → Tr Pk := tellS s106 w106 (F106 N)
theorem T106_ok (N : Nat) : FOK Tryz.prog 106 (T106 N) :=
  (fn_ok2 ownT mix (tab106_ok N) Tryz.func106 s106 w106 [] (cuts := []) trivial (fun _ => by kernel_rfl) (by kernel_rfl) (F106 N) (fun x => by kernel_rfl))
@[reducible] def s107 : SP := ⟨[], []⟩
noncomputable def tab107 (N : Nat) : Tabs := []
theorem tab107_ok (N : Nat) : TabOK Tryz.prog (tab107 N) := trivial
@[reducible] def w107 : List SP := [⟨[.tup [.sl 0, .sl 1]], [.row (.int .i64) 3, .row (.int .i64) 3]⟩]
noncomputable def F107 (N : Nat) : (Unit) → Option ((List Int) × (List Int))
  | () =>
  some (([(1 : Int), (2 : Int), (3 : Int), (4 : Int), (5 : Int), (7 : Int), (9 : Int), (13 : Int), (17 : Int), (25 : Int), (33 : Int), (49 : Int), (65 : Int), (97 : Int), (129 : Int), (193 : Int), (257 : Int), (385 : Int), (513 : Int), (769 : Int), (1025 : Int), (1537 : Int), (2049 : Int), (3073 : Int), (4097 : Int), (6145 : Int), (8193 : Int), (12289 : Int), (16385 : Int), (24577 : Int)], [(0 : Int), (0 : Int), (0 : Int), (0 : Int), (1 : Int), (1 : Int), (2 : Int), (2 : Int), (3 : Int), (3 : Int), (4 : Int), (4 : Int), (5 : Int), (5 : Int), (6 : Int), (6 : Int), (7 : Int), (7 : Int), (8 : Int), (8 : Int), (9 : Int), (9 : Int), (10 : Int), (10 : Int), (11 : Int), (11 : Int), (12 : Int), (12 : Int), (13 : Int), (13 : Int)]))
noncomputable def T107 (N : Nat) : Pk → Tr Pk := tellS s107 w107 (F107 N)
theorem T107_ok (N : Nat) : FOK Tryz.prog 107 (T107 N) :=
  (fn_ok2 ownT mix (tab107_ok N) Tryz.func107 s107 w107 [] (cuts := []) trivial (fun _ => by kernel_rfl) (by kernel_rfl) (F107 N) (fun x => by kernel_rfl))
@[reducible] def s108 : SP := ⟨[.ro y2, .adr 0 []], [.var (.agg [.sl 1, .int .i64, .int .i64]), .row (.bool) 4]⟩
noncomputable def tab108 (N : Nat) : Tabs := [(100, T100 N), (23, T23 N)]
theorem tab108_ok (N : Nat) : TabOK Tryz.prog (tab108 N) := ⟨T100_ok N, T23_ok N, trivial⟩
@[reducible] def L108_14 : LD := ⟨14, [0, 6, 1], [(.ret, [4, 5]), (.exit 0, [4, 5])], ⟨[.ro y2, .sl 1, .adr 0 []], [.var (.agg [.sl 2, .int .i64, .int .i64]), .row (.bool) 4, .row (.bool) 4]⟩, [(.ret, ⟨[.int .i64, .int .i64], [.var (.agg [.sl 1, .int .i64, .int .i64]), .row (.bool) 4]⟩)]⟩
abbrev P108_14 : Type := (List (Int × (Int × Unit))) × Int × Int × (List Bool) × (List Bool)
abbrev R108_14 : Type := Int × Int × Int × Int × (List Bool)
noncomputable def B108_14 (N : Nat) (f : P108_14 → Option R108_14) : P108_14 → Option R108_14
  | (x0, x1, x2, x3, x4) =>
  Option.bind (F100 N (x0, x3)) fun y0 =>
  iteP (decide (y0 ≥ 0)) (
  some ((y0, (0 : Int), x1, x2, x4))) (
  iteP (y0 == (-2 : Int)) (
  some (((0 : Int), (3 : Int), x1, x2, x4))) (
  Option.bind (F23 N ((1 : Int), x1, x2, x4)) fun y1 =>
  iteP (y1.2.2.1 != 0) (
  some (((0 : Int), y1.2.2.1, y1.2.1, y1.2.2.1, y1.2.2.2))) (
  iteP (decide ((List.length x3 + List.length [y1.1 == 1]) * 1 ≤ (140737488355328 : Nat) ∧ List.length x3 + List.length [y1.1 == 1] ≤ 140737488355328)) (
  Option.bind (f (x0, y1.2.1, y1.2.2.1, x3 ++ [y1.1 == 1], y1.2.2.2)) fun r => some r) (
  none))))
noncomputable def F108_14 (N : Nat) : Nat → P108_14 → Option R108_14
  | 0, _ => none
  | k + 1, x => B108_14 N (F108_14 N k) x
theorem C108_14_ok (N : Nat) (k : Nat) : CutAt Tryz.prog Tryz.f108 [0] 14 (L108_14.cut (F108_14 N k)) :=
  L108_14.loopT ownT mix (tab108_ok N) Tryz.f108 [0] (cuts := []) trivial (by decide +kernel) (by kernel_rfl) (B108_14 N) (F108_14 N) (fun _ => rfl) (fun _ _ => rfl) (fun f x => by kernel_rfl) k
@[reducible] def w108 : List SP := [⟨[.tup [.int .i64, .int .i64]], [.var (.agg [.sl 1, .int .i64, .int .i64]), .row (.bool) 4]⟩]
noncomputable def F108 (N : Nat) : ((List (Int × (Int × Unit))) × Int × Int × (List Bool)) → Option (Int × Int × Int × Int × (List Bool))
  | (x0, x1, x2, x3) =>
  Option.bind (F108_14 N N (x0, x1, x2, [], x3)) fun y0 =>
  some ((y0.1, y0.2.1, y0.2.2.1, y0.2.2.2.1, y0.2.2.2.2))
noncomputable def T108 (N : Nat) : Pk → Tr Pk := tellS s108 w108 (F108 N)
theorem T108_ok (N : Nat) : FOK Tryz.prog 108 (T108 N) :=
  (fn_ok2 ownT mix (tab108_ok N) Tryz.func108 s108 w108 [0] (cuts := [(14, L108_14.cut (F108_14 N N))]) ⟨C108_14_ok N N, trivial⟩ (fun _ => by kernel_rfl) (by kernel_rfl) (F108 N) (fun x => by kernel_rfl))
@[reducible] def s109 : SP := ⟨[.ro (.int .i64), .ro (.int .i64), .int .i64, .int .i64], []⟩
noncomputable def tab109 (N : Nat) : Tabs := []
theorem tab109_ok (N : Nat) : TabOK Tryz.prog (tab109 N) := trivial
@[reducible] def w109 : List SP := [⟨[.tup [.int .i64, .int .i64]], []⟩]
noncomputable def F109 (N : Nat) : ((List Int) × (List Int) × Int × Int) → Option (Int × Int)
  | (x0, x1, x2, x3) =>
  iteP (decide (x2 < x3)) (
  some (((0 : Int), (0 : Int)))) (
  iteP (decide (IntKind.wrap .i64 (x2 - x3) ≥ (↑(List.length x0) : Int))) (
  some (((0 : Int), (0 : Int)))) (
  iteP (within (IntKind.wrap .i64 (x2 - x3)) (List.length x0)) (
  Option.bind (x0[Int.toNat (IntKind.wrap .i64 (x2 - x3))]?) fun y0 =>
  iteP (within (IntKind.wrap .i64 (x2 - x3)) (List.length x1)) (
  Option.bind (x1[Int.toNat (IntKind.wrap .i64 (x2 - x3))]?) fun y1 =>
  some ((y0, y1))) (
  none)) (
  none)))
noncomputable def T109 (N : Nat) : Pk → Tr Pk := tellS s109 w109 (F109 N)
theorem T109_ok (N : Nat) : FOK Tryz.prog 109 (T109 N) :=
  (fn_ok2 ownT mix (tab109_ok N) Tryz.func109 s109 w109 [] (cuts := []) trivial (fun _ => by kernel_rfl) (by kernel_rfl) (F109 N) (fun x => by kernel_rfl))
@[reducible] def s74 : SP := ⟨[.adr 0 [], .ro (.int .i64), .ro (.int .i64), .int .i64], [.var (.agg [.sl 1, .int .i64, .int .i64]), .row (.bool) 4]⟩
noncomputable def tab74 (N : Nat) : Tabs := [(61, T61 N), (62, T62 N), (106, T106 N), (107, T107 N), (108, T108 N), (109, T109 N), (23, T23 N)]
theorem tab74_ok (N : Nat) : TabOK Tryz.prog (tab74 N) := ⟨T61_ok N, T62_ok N, T106_ok N, T107_ok N, T108_ok N, T109_ok N, T23_ok N, trivial⟩
@[reducible] def L74_4094 : LD := ⟨4094, [20, 0, 14, 15, 18, 19, 3, 17, 16, 21], [(.ret, [8, 9]), (.exit 0, [8, 9])], ⟨[.sl 1, .adr 0 [], .sl 2, .sl 3, .sl 4, .sl 5, .int .i64, .sl 6, .sl 7, .int .i64], [.var (.agg [.sl 8, .int .i64, .int .i64]), .row y0 52, .row y2 105, .row y2 105, .row (.int .i64) 3, .row (.int .i64) 3, .row (.int .i64) 3, .row (.int .i64) 3, .row (.bool) 4]⟩, [(.ret, ⟨[.sl 1, .int .i64], [.var (.agg [.sl 2, .int .i64, .int .i64]), .row y0 52, .row (.bool) 4]⟩)]⟩
abbrev P74_4094 : Type := Int × Int × Int × Int × (List (Int × (Int × (Int × Unit)))) × (List (Int × (Int × Unit))) × (List (Int × (Int × Unit))) × (List Int) × (List Int) × (List Int) × (List Int) × (List Bool)
abbrev R74_4094 : Type := Int × Int × Int × (List (Int × (Int × (Int × Unit)))) × (List Bool)
noncomputable def B74_4094 (N : Nat) (f : P74_4094 → Option R74_4094) : P74_4094 → Option R74_4094
  | (x0, x1, x2, x3, x4, x5, x6, x7, x8, x9, x10, x11) =>
  Option.bind (F108 N (x5, x2, x3, x11)) fun y0 =>
  iteP (y0.2.1 != 0) (
  some ((y0.2.1, y0.2.2.1, y0.2.2.2.1, [], y0.2.2.2.2))) (
  iteP (y0.1 == 256) (
  some (((0 : Int), y0.2.2.1, y0.2.2.2.1, x4, y0.2.2.2.2))) (
  iteP (decide (y0.1 > 285)) (
  some (((3 : Int), y0.2.2.1, y0.2.2.2.1, [], y0.2.2.2.2))) (
  iteP (decide (y0.1 > 256)) (
  Option.bind (F109 N (x10, x9, y0.1, (257 : Int))) fun y1 =>
  Option.bind (F23 N (y1.2, y0.2.2.1, y0.2.2.2.1, y0.2.2.2.2)) fun y2 =>
  iteP (y2.2.2.1 != 0) (
  some ((y2.2.2.1, y2.2.1, y2.2.2.1, [], y2.2.2.2))) (
  Option.bind (F108 N (x6, y2.2.1, y2.2.2.1, y2.2.2.2)) fun y3 =>
  iteP (y3.2.1 != 0) (
  some ((y3.2.1, y3.2.2.1, y3.2.2.2.1, [], y3.2.2.2.2))) (
  iteP (decide (y3.1 > 29)) (
  some (((3 : Int), y3.2.2.1, y3.2.2.2.1, [], y3.2.2.2.2))) (
  Option.bind (F109 N (x7, x8, y3.1, (0 : Int))) fun y4 =>
  Option.bind (F23 N (y4.2, y3.2.2.1, y3.2.2.2.1, y3.2.2.2.2)) fun y5 =>
  iteP (y5.2.2.1 != 0) (
  some ((y5.2.2.1, y5.2.1, y5.2.2.1, [], y5.2.2.2))) (
  iteP (decide (IntKind.wrap .i64 (x1 + if (1 : Int) > IntKind.wrap .i64 (y1.1 + y2.1) then (1 : Int) else IntKind.wrap .i64 (y1.1 + y2.1)) > x0)) (
  some (((4 : Int), y5.2.1, y5.2.2.1, [], y5.2.2.2))) (
  iteP (decide ((List.length x4 + List.length [((0 : Int), IntKind.wrap .i64 (y1.1 + y2.1), IntKind.wrap .i64 (y4.1 + y5.1), ())]) * 24 ≤ (140737488355328 : Nat) ∧ List.length x4 + List.length [((0 : Int), IntKind.wrap .i64 (y1.1 + y2.1), IntKind.wrap .i64 (y4.1 + y5.1), ())] ≤ 140737488355328)) (
  Option.bind (f (x0, IntKind.wrap .i64 (x1 + if (1 : Int) > IntKind.wrap .i64 (y1.1 + y2.1) then (1 : Int) else IntKind.wrap .i64 (y1.1 + y2.1)), y5.2.1, y5.2.2.1, x4 ++ [((0 : Int), IntKind.wrap .i64 (y1.1 + y2.1), IntKind.wrap .i64 (y4.1 + y5.1), ())], x5, x6, x7, x8, x9, x10, y5.2.2.2)) fun r => some r) (
  none))))))) (
  iteP (decide (IntKind.wrap .i64 (x1 + 1) > x0)) (
  some (((4 : Int), y0.2.2.1, y0.2.2.2.1, [], y0.2.2.2.2))) (
  iteP (decide ((List.length x4 + List.length [(y0.1, (0 : Int), (0 : Int), ())]) * 24 ≤ (140737488355328 : Nat) ∧ List.length x4 + List.length [(y0.1, (0 : Int), (0 : Int), ())] ≤ 140737488355328)) (
  Option.bind (f (x0, IntKind.wrap .i64 (x1 + 1), y0.2.2.1, y0.2.2.2.1, x4 ++ [(y0.1, (0 : Int), (0 : Int), ())], x5, x6, x7, x8, x9, x10, y0.2.2.2.2)) fun r => some r) (
  none))))))
noncomputable def F74_4094 (N : Nat) : Nat → P74_4094 → Option R74_4094
  | 0, _ => none
  | k + 1, x => B74_4094 N (F74_4094 N k) x
theorem C74_4094_ok (N : Nat) (k : Nat) : CutAt Tryz.prog Tryz.f74 [0] 4094 (L74_4094.cut (F74_4094 N k)) :=
  L74_4094.loopT ownT mix (tab74_ok N) Tryz.f74 [0] (cuts := []) trivial (by decide +kernel) (by kernel_rfl) (B74_4094 N) (F74_4094 N) (fun _ => rfl) (fun _ _ => rfl) (fun f x => by kernel_rfl) k
@[reducible] def w74 : List SP := [⟨[.tup [.sl 1, .int .i64]], [.var (.agg [.sl 2, .int .i64, .int .i64]), .row y0 52, .row (.bool) 4]⟩]
noncomputable def F74 (N : Nat) : ((List Int) × (List Int) × Int × Int × Int × (List Bool)) → Option (Int × Int × Int × (List (Int × (Int × (Int × Unit)))) × (List Bool))
  | (x0, x1, x2, x3, x4, x5) =>
  Option.bind (F61 N x0) fun y0 =>
  Option.bind (F61 N x1) fun y1 =>
  iteP (y0.2 != 0) (
  some (((50 : Int), x3, x4, [], x5))) (
  iteP (y1.2 != 0) (
  some (((50 : Int), x3, x4, [], x5))) (
  Option.bind (F62 N x0) fun y2 =>
  Option.bind (F62 N x1) fun y3 =>
  Option.bind (F106 N ()) fun y4 =>
  Option.bind (F107 N ()) fun y5 =>
  Option.bind (F74_4094 N N (x2, (0 : Int), x3, x4, [], y2, y3, y5.1, y5.2, y4.2, y4.1, x5)) fun y6 =>
  some ((y6.1, y6.2.1, y6.2.2.1, y6.2.2.2.1, y6.2.2.2.2))))
noncomputable def T74 (N : Nat) : Pk → Tr Pk := tellS s74 w74 (F74 N)
theorem T74_ok (N : Nat) : FOK Tryz.prog 74 (T74 N) :=
  (fn_ok2 ownT mix (tab74_ok N) Tryz.func74 s74 w74 [0] (cuts := [(4094, L74_4094.cut (F74_4094 N N))]) ⟨C74_4094_ok N N, trivial⟩ (fun _ => by kernel_rfl) (by kernel_rfl) (F74 N) (fun x => by kernel_rfl))
@[reducible] def s70 : SP := ⟨[.str], []⟩
noncomputable def tab70 (N : Nat) : Tabs := []
theorem tab70_ok (N : Nat) : TabOK Tryz.prog (tab70 N) := trivial
@[reducible] def w70 : List SP := [⟨[.str], []⟩]
noncomputable def F70 (N : Nat) : (ByteArray) → Option (ByteArray)
  | x0 =>
  iteP (decide ((↑(ByteArray.size x0) : Int) > (32768 : Int))) (
  iteP (decide ((0 : Int) ≤ IntKind.wrap .i64 ((↑(ByteArray.size x0) : Int) - (32768 : Int)) ∧ IntKind.wrap .i64 ((↑(ByteArray.size x0) : Int) - (32768 : Int)) ≤ (↑(ByteArray.size x0) : Int))) (
  some (ByteArray.extract x0 (Int.toNat (IntKind.wrap .i64 ((↑(ByteArray.size x0) : Int) - (32768 : Int)))) (ByteArray.size x0))) (
  none)) (
  some (x0))
noncomputable def T70 (N : Nat) : Pk → Tr Pk := tellS s70 w70 (F70 N)
theorem T70_ok (N : Nat) : FOK Tryz.prog 70 (T70 N) :=
  (fn_ok2 ownT mix (tab70_ok N) Tryz.func70 s70 w70 [] (cuts := []) trivial (fun _ => by kernel_rfl) (by kernel_rfl) (F70 N) (fun x => by kernel_rfl))
@[reducible] def s71 : SP := ⟨[.agg [.int .i64, .int .i64, .int .i64]], []⟩
noncomputable def tab71 (N : Nat) : Tabs := []
theorem tab71_ok (N : Nat) : TabOK Tryz.prog (tab71 N) := trivial
@[reducible] def w71 : List SP := [⟨[.bool], []⟩]
noncomputable def F71 (N : Nat) : (Int × Int × Int) → Option (Bool)
  | (x0, x1, x2) =>
  iteP (x1 == 0) (
  iteP (x2 == 0) (
  iteP (decide (x0 ≥ 0)) (
  some (decide (x0 ≤ 255))) (
  some (false))) (
  some (false))) (
  iteP (x0 == 0) (
  iteP (decide (x1 ≥ 3)) (
  iteP (decide (x1 ≤ 258)) (
  iteP (decide (x2 ≥ 1)) (
  some (decide (x2 ≤ 32768))) (
  some (false))) (
  some (false))) (
  some (false))) (
  some (false)))
noncomputable def T71 (N : Nat) : Pk → Tr Pk := tellS s71 w71 (F71 N)
theorem T71_ok (N : Nat) : FOK Tryz.prog 71 (T71 N) :=
  (fn_ok2 ownT mix (tab71_ok N) Tryz.func71 s71 w71 [] (cuts := []) trivial (fun _ => by kernel_rfl) (by kernel_rfl) (F71 N) (fun x => by kernel_rfl))
@[reducible] def s28 : SP := ⟨[.str, .ro y0], []⟩
noncomputable def tab28 (N : Nat) : Tabs := [(70, T70 N), (71, T71 N)]
theorem tab28_ok (N : Nat) : TabOK Tryz.prog (tab28 N) := ⟨T70_ok N, T71_ok N, trivial⟩
@[reducible] def L28_256318 : LD := ⟨256318, [6, 10, 7, 1, 8], [(.ret, [4, 5]), (.exit 2, [8, 7, 1, 6]), (.exit 1, [8, 7, 1, 6]), (.exit 0, [6, 7])], ⟨[.sl 0, .int .i64, .int .i64, .ro y0, .int .i64], [.row (.int .u8) 5]⟩, [(.exit 2, ⟨[.int .i64, .int .i64, .ro y0, .sl 0], [.row (.int .u8) 5]⟩)]⟩
abbrev P28_256318 : Type := Int × Int × (List (Int × (Int × (Int × Unit)))) × Int × (List Int)
abbrev R28_256318 : Type := Int × Int × (List (Int × (Int × (Int × Unit)))) × (List Int)
noncomputable def B28_256318 (N : Nat) (f : P28_256318 → Option R28_256318) : P28_256318 → Option R28_256318
  | (x0, x1, x2, x3, x4) =>
  iteP (within x3 (List.length x2)) (
  Option.bind (x2[Int.toNat x3]?) fun y0 =>
  iteP (decide (x0 < y0.2.1)) (
  iteP (within x3 (List.length x2)) (
  Option.bind (x2[Int.toNat x3]?) fun y1 =>
  iteP (within (IntKind.wrap .i64 ((↑(List.length x4) : Int) - y1.2.2.1)) (List.length x4)) (
  Option.bind (x4[Int.toNat (IntKind.wrap .i64 ((↑(List.length x4) : Int) - y1.2.2.1))]?) fun y2 =>
  iteP (decide ((List.length x4 + List.length [y2]) * 1 ≤ (140737488355328 : Nat) ∧ List.length x4 + List.length [y2] ≤ 140737488355328)) (
  Option.bind (f (IntKind.wrap .i64 (x0 + 1), x1, x2, x3, x4 ++ [y2])) fun r => some r) (
  none)) (
  none)) (
  none)) (
  some ((x3, x1, x2, x4)))) (
  none)
noncomputable def F28_256318 (N : Nat) : Nat → P28_256318 → Option R28_256318
  | 0, _ => none
  | k + 1, x => B28_256318 N (F28_256318 N k) x
theorem C28_256318_ok (N : Nat) (k : Nat) : CutAt Tryz.prog Tryz.f28 [] 256318 (L28_256318.cut (F28_256318 N k)) :=
  L28_256318.loopT ownT mix (tab28_ok N) Tryz.f28 [] (cuts := []) trivial (by decide +kernel) (by kernel_rfl) (B28_256318 N) (F28_256318 N) (fun _ => rfl) (fun _ _ => rfl) (fun f x => by kernel_rfl) k
@[reducible] def L28_250 : LD := ⟨250, [7, 1, 8, 6], [(.ret, [4, 5]), (.exit 0, [6, 7])], ⟨[.int .i64, .ro y0, .int .i64, .sl 0], [.row (.int .u8) 5]⟩, [(.ret, ⟨[.str, .int .i64], []⟩), (.exit 0, ⟨[.sl 0, .int .i64], [.row (.int .u8) 5]⟩)]⟩
abbrev P28_250 : Type := Int × (List (Int × (Int × (Int × Unit)))) × Int × (List Int)
abbrev R28_250 : Type := ((ByteArray × Int) ⊕ (Int × (List Int)))
noncomputable def B28_250 (N : Nat) (f : P28_250 → Option R28_250) : P28_250 → Option R28_250
  | (x0, x1, x2, x3) =>
  iteP (decide (x2 < (↑(List.length x1) : Int))) (
  iteP (within x2 (List.length x1)) (
  Option.bind (x1[Int.toNat x2]?) fun y0 =>
  Option.bind (F71 N (y0.1, y0.2.1, y0.2.2.1)) fun y1 =>
  iteP (!y1) (
  some (.inl ((ByteArray.mk #[], (1 : Int))))) (
  iteP (within x2 (List.length x1)) (
  Option.bind (x1[Int.toNat x2]?) fun y2 =>
  iteP (y2.2.1 == 0) (
  iteP (within x2 (List.length x1)) (
  Option.bind (x1[Int.toNat x2]?) fun y3 =>
  iteP (decide ((List.length x3 + List.length [IntKind.wrap .u8 y3.1]) * 1 ≤ (140737488355328 : Nat) ∧ List.length x3 + List.length [IntKind.wrap .u8 y3.1] ≤ 140737488355328)) (
  Option.bind (f (x0, x1, IntKind.wrap .i64 (x2 + 1), x3 ++ [IntKind.wrap .u8 y3.1])) fun r => match r with | .inl y => some (.inl y) | .inr y => some (.inr y)) (
  none)) (
  none)) (
  iteP (within x2 (List.length x1)) (
  Option.bind (x1[Int.toNat x2]?) fun y4 =>
  iteP (decide (y4.2.2.1 > (↑(List.length x3) : Int))) (
  some (.inl ((ByteArray.mk #[], (60 : Int))))) (
  Option.bind (F28_256318 N N ((0 : Int), x0, x1, x2, x3)) fun y5 =>
  Option.bind (f (y5.2.1, y5.2.2.1, IntKind.wrap .i64 (y5.1 + 1), y5.2.2.2)) fun r => match r with | .inl y => some (.inl y) | .inr y => some (.inr y))) (
  none))) (
  none))) (
  none)) (
  some (.inr ((x0, x3))))
noncomputable def F28_250 (N : Nat) : Nat → P28_250 → Option R28_250
  | 0, _ => none
  | k + 1, x => B28_250 N (F28_250 N k) x
theorem C28_250_ok (N : Nat) (k : Nat) : CutAt Tryz.prog Tryz.f28 [] 250 (L28_250.cut (F28_250 N k)) :=
  L28_250.loopT ownT mix (tab28_ok N) Tryz.f28 [] (cuts := [(256318, L28_256318.cut (F28_256318 N N))]) ⟨C28_256318_ok N N, trivial⟩ (by decide +kernel) (by kernel_rfl) (B28_250 N) (F28_250 N) (fun _ => rfl) (fun _ _ => rfl) (fun f x => by kernel_rfl) k
@[reducible] def w28 : List SP := [⟨[.tup [.str, .int .i64]], []⟩]
noncomputable def F28 (N : Nat) : (ByteArray × (List (Int × (Int × (Int × Unit))))) → Option (ByteArray × Int)
  | (x0, x1) =>
  Option.bind (F70 N x0) fun y0 =>
  iteP (decide (((0 : Nat) + List.length (bytesOf y0)) * 1 ≤ (140737488355328 : Nat) ∧ (0 : Nat) + List.length (bytesOf y0) ≤ 140737488355328)) (
  Option.bind (F28_250 N N ((↑(List.length ([] ++ bytesOf y0)) : Int), x1, (0 : Int), [] ++ bytesOf y0)) fun y1 =>
  match y1 with
  | .inl y2 =>
  some ((y2.1, y2.2))
  | .inr y2 =>
  iteP (decide ((0 : Int) ≤ y2.1 ∧ y2.1 ≤ (↑(List.length y2.2) : Int))) (
  some ((stringOf (List.take (List.length y2.2 - Int.toNat y2.1) (List.drop (Int.toNat y2.1) y2.2)), (0 : Int)))) (
  none)) (
  none)
noncomputable def T28 (N : Nat) : Pk → Tr Pk := tellS s28 w28 (F28 N)
theorem T28_ok (N : Nat) : FOK Tryz.prog 28 (T28 N) :=
  (fn_ok2 ownT mix (tab28_ok N) Tryz.func28 s28 w28 [] (cuts := [(256318, L28_256318.cut (F28_256318 N N)), (250, L28_250.cut (F28_250 N N))]) ⟨C28_256318_ok N N, C28_250_ok N N, trivial⟩ (fun _ => by kernel_rfl) (by kernel_rfl) (F28 N) (fun x => by kernel_rfl))
@[reducible] def s29 : SP := ⟨[.adr 0 [], .str, .int .i64], [.var (.agg [.sl 1, .int .i64, .int .i64]), .row (.bool) 4]⟩
noncomputable def tab29 (N : Nat) : Tabs := [(23, T23 N), (72, T72 N), (73, T73 N), (24, T24 N), (74, T74 N), (28, T28 N)]
theorem tab29_ok (N : Nat) : TabOK Tryz.prog (tab29 N) := ⟨T23_ok N, T72_ok N, T73_ok N, T24_ok N, T74_ok N, T28_ok N, trivial⟩
@[reducible] def L29_511 : LD := ⟨511, [0, 14, 15, 2, 1, 11, 10], [(.ret, [6, 7, 8, 9]), (.normal, [6, 7, 8, 9])], ⟨[.adr 0 [], .sl 1, .sl 2, .int .i64, .str, .int .i64, .bool], [.var (.agg [.sl 3, .int .i64, .int .i64]), .row (.int .i64) 3, .row (.int .i64) 3, .row (.bool) 4]⟩, [(.ret, ⟨[.str, .bool, .int .i64, .int .i64], [.var (.agg [.sl 1, .int .i64, .int .i64]), .row (.bool) 4]⟩)]⟩
noncomputable def F29_511 (N : Nat) : (Int × ByteArray × Int × Bool × Int × Int × (List Int) × (List Int) × (List Bool)) → Option (ByteArray × Bool × Int × Int × Int × Int × (List Bool))
  | (x0, x1, x2, x3, x4, x5, x6, x7, x8) =>
  Option.bind (F74 N (x6, x7, x0, x4, x5, x8)) fun y0 =>
  iteP (y0.1 == 50) (
  some ((ByteArray.mk #[], false, (0 : Int), (80 : Int), y0.2.1, y0.2.2.1, y0.2.2.2.2))) (
  iteP (y0.1 == 3) (
  some ((ByteArray.mk #[], false, (0 : Int), (80 : Int), y0.2.1, y0.2.2.1, y0.2.2.2.2))) (
  iteP (y0.1 != 0) (
  some ((ByteArray.mk #[], false, (0 : Int), y0.1, y0.2.1, y0.2.2.1, y0.2.2.2.2))) (
  Option.bind (F28 N (x1, y0.2.2.2.1)) fun y1 =>
  iteP (y1.2 != 0) (
  some ((ByteArray.mk #[], false, (0 : Int), y1.2, y0.2.1, y0.2.2.1, y0.2.2.2.2))) (
  some ((y1.1, x3, x2, (0 : Int), y0.2.1, y0.2.2.1, y0.2.2.2.2))))))
theorem C29_511_ok (N : Nat) (k : Nat) : CutAt Tryz.prog Tryz.f29 [0] 511 (L29_511.cut (F29_511 N)) :=
  L29_511.pieceT ownT mix (tab29_ok N) Tryz.f29 [0] (cuts := []) trivial (by decide +kernel) (by kernel_rfl) (F29_511 N) (fun x => by kernel_rfl)
@[reducible] def L29_511b : LD := ⟨511, [0, 14, 15, 2, 1, 11, 10], [(.ret, [6, 7, 8, 9]), (.normal, [6, 7, 8, 9])], ⟨[.adr 0 [], .slp 1 (.c 0) .h, .slp 1 .h .h, .int .i64, .str, .int .i64, .bool], [.var (.agg [.sl 2, .int .i64, .int .i64]), .row (.int .i64) 3, .row (.bool) 4]⟩, [(.ret, ⟨[.str, .bool, .int .i64, .int .i64], [.var (.agg [.sl 1, .int .i64, .int .i64]), .row (.bool) 4]⟩)]⟩
noncomputable def F29_511b (N : Nat) : (Nat × Nat × Nat × Int × ByteArray × Int × Bool × Int × Int × (List Int) × (List Bool)) → Option (ByteArray × Bool × Int × Int × Int × Int × (List Bool))
  | (x0, x1, x2, x3, x4, x5, x6, x7, x8, x9, x10) =>
  Option.bind (F74 N (List.take x0 x9, List.take x2 (List.drop x1 x9), x3, x7, x8, x10)) fun y0 =>
  iteP (y0.1 == 50) (
  some ((ByteArray.mk #[], false, (0 : Int), (80 : Int), y0.2.1, y0.2.2.1, y0.2.2.2.2))) (
  iteP (y0.1 == 3) (
  some ((ByteArray.mk #[], false, (0 : Int), (80 : Int), y0.2.1, y0.2.2.1, y0.2.2.2.2))) (
  iteP (y0.1 != 0) (
  some ((ByteArray.mk #[], false, (0 : Int), y0.1, y0.2.1, y0.2.2.1, y0.2.2.2.2))) (
  Option.bind (F28 N (x4, y0.2.2.2.1)) fun y1 =>
  iteP (y1.2 != 0) (
  some ((ByteArray.mk #[], false, (0 : Int), y1.2, y0.2.1, y0.2.2.1, y0.2.2.2.2))) (
  some ((y1.1, x6, x5, (0 : Int), y0.2.1, y0.2.2.1, y0.2.2.2.2))))))
theorem C29_511b_ok (N : Nat) (k : Nat) : CutAt Tryz.prog Tryz.f29 [0] 511 (L29_511b.cut (F29_511b N)) :=
  L29_511b.pieceT ownT mix (tab29_ok N) Tryz.f29 [0] (cuts := [(511, L29_511.cut (F29_511 N))]) ⟨C29_511_ok N N, trivial⟩ (by decide +kernel) (by kernel_rfl) (F29_511b N) (fun x => by kernel_rfl)
@[reducible] def w29 : List SP := [⟨[.tup [.str, .bool, .int .i64, .int .i64]], [.var (.agg [.sl 1, .int .i64, .int .i64]), .row (.bool) 4]⟩]
noncomputable def F29 (N : Nat) : (ByteArray × Int × Int × Int × (List Bool)) → Option (ByteArray × Bool × Int × Int × Int × Int × (List Bool))
  | (x0, x1, x2, x3, x4) =>
  Option.bind (F23 N ((1 : Int), x2, x3, x4)) fun y0 =>
  Option.bind (F23 N ((2 : Int), y0.2.1, y0.2.2.1, y0.2.2.2)) fun y1 =>
  iteP (y1.2.2.1 != 0) (
  some ((ByteArray.mk #[], false, (0 : Int), y1.2.2.1, y1.2.1, y1.2.2.1, y1.2.2.2))) (
  iteP (y1.1 == 0) (
  Option.bind (F72 N (x1, y1.2.1, y1.2.2.1, y1.2.2.2)) fun y2 =>
  iteP (y2.2.1 != 0) (
  some ((ByteArray.mk #[], false, (0 : Int), y2.2.1, y2.2.2.1, y2.2.2.2.1, y2.2.2.2.2))) (
  some ((y2.1, y0.1 == 1, (0 : Int), (0 : Int), y2.2.2.1, y2.2.2.2.1, y2.2.2.2.2)))) (
  iteP (y1.1 == 3) (
  some ((ByteArray.mk #[], false, (0 : Int), (80 : Int), y1.2.1, y1.2.2.1, y1.2.2.2))) (
  Option.bind (F73 N ()) fun y3 =>
  iteP (y1.1 == 2) (
  Option.bind (F24 N (y1.2.1, y1.2.2.1, y1.2.2.2)) fun y4 =>
  match y4 with
  | .inl y5 =>
  iteP (y5.1 != 0) (
  some ((ByteArray.mk #[], false, (0 : Int), y5.1, y5.2.1, y5.2.2.1, y5.2.2.2.2.2))) (
  Option.bind (F29_511 N (x1, x0, y1.1, y0.1 == 1, y5.2.1, y5.2.2.1, y5.2.2.2.1, y5.2.2.2.2.1, y5.2.2.2.2.2)) fun y6 =>
  some ((y6.1, y6.2.1, y6.2.2.1, y6.2.2.2.1, y6.2.2.2.2.1, y6.2.2.2.2.2.1, y6.2.2.2.2.2.2)))
  | .inr y5 =>
  iteP (y5.2.2.2.1 != 0) (
  some ((ByteArray.mk #[], false, (0 : Int), y5.2.2.2.1, y5.2.2.2.2.1, y5.2.2.2.2.2.1, y5.2.2.2.2.2.2.2))) (
  Option.bind (F29_511b N (y5.1, y5.2.1, y5.2.2.1, x1, x0, y1.1, y0.1 == 1, y5.2.2.2.2.1, y5.2.2.2.2.2.1, y5.2.2.2.2.2.2.1, y5.2.2.2.2.2.2.2)) fun y7 =>
  some ((y7.1, y7.2.1, y7.2.2.1, y7.2.2.2.1, y7.2.2.2.2.1, y7.2.2.2.2.2.1, y7.2.2.2.2.2.2)))) (
  Option.bind (F29_511 N (x1, x0, y1.1, y0.1 == 1, y1.2.1, y1.2.2.1, y3.1, y3.2, y1.2.2.2)) fun y8 =>
  some ((y8.1, y8.2.1, y8.2.2.1, y8.2.2.2.1, y8.2.2.2.2.1, y8.2.2.2.2.2.1, y8.2.2.2.2.2.2))))))
noncomputable def T29 (N : Nat) : Pk → Tr Pk := tellS s29 w29 (F29 N)
theorem T29_ok (N : Nat) : FOK Tryz.prog 29 (T29 N) :=
  (fn_ok2 ownT mix (tab29_ok N) Tryz.func29 s29 w29 [0] (cuts := [(511, orC L29_511.s.I (L29_511.cut (F29_511 N)) (L29_511b.cut (F29_511b N)))]) ⟨fun c' h => orC_ok (C29_511_ok N N c' h) (C29_511b_ok N N c' h) rfl rfl, trivial⟩ (fun _ => by kernel_rfl) (by kernel_rfl) (F29 N) (fun x => by kernel_rfl))
@[reducible] def s32 : SP := ⟨[.str, .str, .int .i64], []⟩
noncomputable def tab32 (N : Nat) : Tabs := [(22, T22 N), (29, T29 N)]
theorem tab32_ok (N : Nat) : TabOK Tryz.prog (tab32 N) := ⟨T22_ok N, T29_ok N, trivial⟩
@[reducible] def L32_30 : LD := ⟨30, [9, 0, 2, 10], [(.ret, [6, 7, 8]), (.exit 0, [6, 7, 8])], ⟨[.adr 0 [], .str, .int .i64, .str], [.var (.agg [.sl 1, .int .i64, .int .i64]), .row (.bool) 4]⟩, [(.ret, ⟨[.str, .int .i64, .int .i64], []⟩)]⟩
abbrev P32_30 : Type := ByteArray × Int × ByteArray × Int × Int × (List Bool)
abbrev R32_30 : Type := ByteArray × Int × Int
noncomputable def B32_30 (N : Nat) (f : P32_30 → Option R32_30) : P32_30 → Option R32_30
  | (x0, x1, x2, x3, x4, x5) =>
  iteP (decide ((↑(ByteArray.size x0 + ByteArray.size x2) : Int) > (9223372036854775807 : Int))) (
  none) (
  Option.bind (F29 N (x0 ++ x2, IntKind.wrap .i64 (x1 - (↑(ByteArray.size x2) : Int)), x3, x4, x5)) fun y0 =>
  iteP (y0.2.2.2.1 != 0) (
  some ((ByteArray.mk #[], (0 : Int), y0.2.2.2.1))) (
  iteP (decide ((↑(ByteArray.size x2 + ByteArray.size y0.1) : Int) > (9223372036854775807 : Int))) (
  none) (
  iteP y0.2.1 (
  some ((x2 ++ y0.1, IntKind.wrap .i64 (Int.tdiv (IntKind.wrap .i64 (y0.2.2.2.2.1 + 7)) (8 : Int)), (0 : Int)))) (
  Option.bind (f (x0, x1, x2 ++ y0.1, y0.2.2.2.2.1, y0.2.2.2.2.2.1, y0.2.2.2.2.2.2)) fun r => some r))))
noncomputable def F32_30 (N : Nat) : Nat → P32_30 → Option R32_30
  | 0, _ => none
  | k + 1, x => B32_30 N (F32_30 N k) x
theorem C32_30_ok (N : Nat) (k : Nat) : CutAt Tryz.prog Tryz.f32 [] 30 (L32_30.cut (F32_30 N k)) :=
  L32_30.loopT ownT mix (tab32_ok N) Tryz.f32 [] (cuts := []) trivial (by decide +kernel) (by kernel_rfl) (B32_30 N) (F32_30 N) (fun _ => rfl) (fun _ _ => rfl) (fun f x => by kernel_rfl) k
@[reducible] def w32 : List SP := [⟨[.tup [.str, .int .i64, .int .i64]], []⟩]
noncomputable def F32 (N : Nat) : (ByteArray × ByteArray × Int) → Option (ByteArray × Int × Int)
  | (x0, x1, x2) =>
  Option.bind (F22 N x1) fun y0 =>
  Option.bind (F32_30 N N (x0, x2, ByteArray.mk #[], (0 : Int), (0 : Int), y0)) fun y1 =>
  some ((y1.1, y1.2.1, y1.2.2))
noncomputable def T32 (N : Nat) : Pk → Tr Pk := tellS s32 w32 (F32 N)
theorem T32_ok (N : Nat) : FOK Tryz.prog 32 (T32 N) :=
  (fn_ok2 ownT mix (tab32_ok N) Tryz.func32 s32 w32 [] (cuts := [(30, L32_30.cut (F32_30 N N))]) ⟨C32_30_ok N N, trivial⟩ (fun _ => by kernel_rfl) (by kernel_rfl) (F32 N) (fun x => by kernel_rfl))
@[reducible] def s31 : SP := ⟨[.str, .str], []⟩
noncomputable def tab31 (N : Nat) : Tabs := [(75, T75 N), (15, T15 N), (19, T19 N)]
theorem tab31_ok (N : Nat) : TabOK Tryz.prog (tab31 N) := ⟨T75_ok N, T15_ok N, T19_ok N, trivial⟩
@[reducible] def w31 : List SP := [⟨[.str], []⟩]
noncomputable def F31 (N : Nat) : (ByteArray × ByteArray) → Option (ByteArray)
  | (x0, x1) =>
  iteP (!ByteArray.toList x1 == []) (
  Option.bind (F75 N (x0, x1, false, (0 : Int), (0 : Int), [])) fun y0 =>
  Option.bind (F15 N (ByteArray.mk #[], false, y0.1, y0.2.1, y0.2.2)) fun y1 =>
  Option.bind (F19 N (y1.2.2, y1.1, y1.2.1, ())) fun y2 =>
  some (y2)) (
  Option.bind (F15 N (ByteArray.mk #[], false, (0 : Int), (0 : Int), [])) fun y3 =>
  Option.bind (F19 N (y3.2.2, y3.1, y3.2.1, ())) fun y4 =>
  some (y4))
noncomputable def T31 (N : Nat) : Pk → Tr Pk := tellS s31 w31 (F31 N)
theorem T31_ok (N : Nat) : FOK Tryz.prog 31 (T31 N) :=
  (fn_ok2 ownT mix (tab31_ok N) Tryz.func31 s31 w31 [] (cuts := []) trivial (fun _ => by kernel_rfl) (by kernel_rfl) (F31 N) (fun x => by kernel_rfl))
@[reducible] def s33 : SP := ⟨[.str, .str, .int .i64], []⟩
noncomputable def tab33 (N : Nat) : Tabs := [(22, T22 N), (29, T29 N)]
theorem tab33_ok (N : Nat) : TabOK Tryz.prog (tab33 N) := ⟨T22_ok N, T29_ok N, trivial⟩
@[reducible] def L33_124 : LD := ⟨124, [10, 9, 8, 0, 2], [(.ret, [6, 7]), (.exit 0, [10, 9])], ⟨[.bool, .str, .adr 0 [], .str, .int .i64], [.var (.agg [.sl 1, .int .i64, .int .i64]), .row (.bool) 4]⟩, [(.ret, ⟨[.str, .int .i64], []⟩), (.exit 0, ⟨[.bool, .str], []⟩)]⟩
abbrev P33_124 : Type := Bool × ByteArray × ByteArray × Int × Int × Int × (List Bool)
abbrev R33_124 : Type := ((ByteArray × Int) ⊕ (Bool × ByteArray))
noncomputable def B33_124 (N : Nat) (f : P33_124 → Option R33_124) : P33_124 → Option R33_124
  | (x0, x1, x2, x3, x4, x5, x6) =>
  iteP (decide (x4 < (↑(List.length x6) : Int))) (
  iteP (decide ((↑(ByteArray.size x2 + ByteArray.size x1) : Int) > (9223372036854775807 : Int))) (
  none) (
  Option.bind (F29 N (x2 ++ x1, IntKind.wrap .i64 (x3 - (↑(ByteArray.size x1) : Int)), x4, x5, x6)) fun y0 =>
  iteP (y0.2.2.2.1 != 0) (
  some (.inl ((ByteArray.mk #[], y0.2.2.2.1)))) (
  iteP y0.2.1 (
  some (.inl ((ByteArray.mk #[], (81 : Int))))) (
  iteP (decide ((↑(ByteArray.size x1 + ByteArray.size y0.1) : Int) > (9223372036854775807 : Int))) (
  none) (
  iteP (y0.2.2.1 == 0) (
  Option.bind (f (ByteArray.toList y0.1 == [], x1 ++ y0.1, x2, x3, y0.2.2.2.2.1, y0.2.2.2.2.2.1, y0.2.2.2.2.2.2)) fun r => match r with | .inl y => some (.inl y) | .inr y => some (.inr y)) (
  Option.bind (f (false, x1 ++ y0.1, x2, x3, y0.2.2.2.2.1, y0.2.2.2.2.2.1, y0.2.2.2.2.2.2)) fun r => match r with | .inl y => some (.inl y) | .inr y => some (.inr y))))))) (
  some (.inr ((x0, x1))))
noncomputable def F33_124 (N : Nat) : Nat → P33_124 → Option R33_124
  | 0, _ => none
  | k + 1, x => B33_124 N (F33_124 N k) x
theorem C33_124_ok (N : Nat) (k : Nat) : CutAt Tryz.prog Tryz.f33 [] 124 (L33_124.cut (F33_124 N k)) :=
  L33_124.loopT ownT mix (tab33_ok N) Tryz.f33 [] (cuts := []) trivial (by decide +kernel) (by kernel_rfl) (B33_124 N) (F33_124 N) (fun _ => rfl) (fun _ _ => rfl) (fun f x => by kernel_rfl) k
@[reducible] def w33 : List SP := [⟨[.tup [.str, .int .i64]], []⟩]
noncomputable def F33 (N : Nat) : (ByteArray × ByteArray × Int) → Option (ByteArray × Int)
  | (x0, x1, x2) =>
  Option.bind (F22 N x1) fun y0 =>
  Option.bind (F33_124 N N (false, ByteArray.mk #[], x0, x2, (0 : Int), (0 : Int), y0)) fun y1 =>
  match y1 with
  | .inl y2 =>
  some ((y2.1, y2.2))
  | .inr y2 =>
  iteP (!y2.1) (
  some ((ByteArray.mk #[], (81 : Int)))) (
  some ((y2.2, (0 : Int))))
noncomputable def T33 (N : Nat) : Pk → Tr Pk := tellS s33 w33 (F33 N)
theorem T33_ok (N : Nat) : FOK Tryz.prog 33 (T33 N) :=
  (fn_ok2 ownT mix (tab33_ok N) Tryz.func33 s33 w33 [] (cuts := [(124, L33_124.cut (F33_124 N N))]) ⟨C33_124_ok N N, trivial⟩ (fun _ => by kernel_rfl) (by kernel_rfl) (F33 N) (fun x => by kernel_rfl))
@[reducible] def s3 : SP := ⟨[.int .i64, .str, .bool], []⟩
@[reducible] def w3 : List SP := [⟨[.bool], []⟩]
@[reducible] def s4 : SP := ⟨[.int .i64, .ro (.int .i64), .ro (.int .i64)], []⟩
@[reducible] def w4 : List SP := [⟨[.bool], []⟩]
@[reducible] def s5 : SP := ⟨[.str, .ro y0, .bool, .bool, .int .i64], []⟩
@[reducible] def w5 : List SP := [⟨[.bool], []⟩]
@[reducible] def w6 : List SP := [⟨[.bool], []⟩]
@[reducible] def w7 : List SP := [⟨[.bool], []⟩]
@[reducible] def s77 : SP := ⟨[.str], []⟩
noncomputable def tab77 (N : Nat) : Tabs := []
theorem tab77_ok (N : Nat) : TabOK Tryz.prog (tab77 N) := trivial
@[reducible] def w77 : List SP := [⟨[.adr 0 []], [.var (.agg [.str, .int .i64, .int .i64])]⟩]
noncomputable def F77 (N : Nat) : (ByteArray) → Option (ByteArray × Int × Int)
  | x0 =>
  some ((x0, (0 : Int), (0 : Int)))
noncomputable def T77 (N : Nat) : Pk → Tr Pk := tellS s77 w77 (F77 N)
theorem T77_ok (N : Nat) : FOK Tryz.prog 77 (T77 N) :=
  (fn_ok2 ownT mix (tab77_ok N) Tryz.func77 s77 w77 [] (cuts := []) trivial (fun _ => by kernel_rfl) (by kernel_rfl) (F77 N) (fun x => by kernel_rfl))
@[reducible] def s141 : SP := ⟨[.int .i64], []⟩
noncomputable def tab141 (N : Nat) : Tabs := []
theorem tab141_ok (N : Nat) : TabOK Tryz.prog (tab141 N) := trivial
@[reducible] def w141 : List SP := [⟨[.bool], []⟩]
noncomputable def F141 (N : Nat) : (Int) → Option (Bool)
  | x0 =>
  iteP (x0 == 1) (
  some (true)) (
  iteP (x0 == 2) (
  some (true)) (
  some (x0 == 4)))
noncomputable def T141 (N : Nat) : Pk → Tr Pk := tellS s141 w141 (F141 N)
theorem T141_ok (N : Nat) : FOK Tryz.prog 141 (T141 N) :=
  (fn_ok2 ownT mix (tab141_ok N) Tryz.func141 s141 w141 [] (cuts := []) trivial (fun _ => by kernel_rfl) (by kernel_rfl) (F141 N) (fun x => by kernel_rfl))
@[reducible] def s142 : SP := ⟨[.adr 0 [], .int .i64], [.var (.agg [.str, .int .i64, .int .i64])]⟩
noncomputable def tab142 (N : Nat) : Tabs := []
theorem tab142_ok (N : Nat) : TabOK Tryz.prog (tab142 N) := trivial
@[reducible] def w142 : List SP := [⟨[.tup []], [.var (.agg [.str, .int .i64, .int .i64])]⟩]
noncomputable def F142 (N : Nat) : (Int × ByteArray × Int × Int) → Option (ByteArray × Int × Int)
  | (x0, x1, x2, x3) =>
  iteP (x3 == 0) (
  some ((x1, x2, x0))) (
  some ((x1, x2, x3)))
noncomputable def T142 (N : Nat) : Pk → Tr Pk := tellS s142 w142 (F142 N)
theorem T142_ok (N : Nat) : FOK Tryz.prog 142 (T142 N) :=
  (fn_ok2 ownT mix (tab142_ok N) Tryz.func142 s142 w142 [0] (cuts := []) trivial (fun _ => by kernel_rfl) (by kernel_rfl) (F142 N) (fun x => by kernel_rfl))
@[reducible] def y6 : Ty := (.cons .str (.cons (.int .i64) (.cons (.int .i64) .unit)))
@[reducible] def s161 : SP := ⟨[.radr y6 [.i 0 3]], []⟩
noncomputable def tab161 (N : Nat) : Tabs := []
theorem tab161_ok (N : Nat) : TabOK Tryz.prog (tab161 N) := trivial
@[reducible] def w161 : List SP := [⟨[.int .i64], []⟩]
noncomputable def F161 (N : Nat) : ((ByteArray × (Int × (Int × Unit)))) → Option (Int)
  | x0 =>
  some (IntKind.wrap .i64 ((↑(ByteArray.size x0.1) : Int) - x0.2.1))
noncomputable def T161 (N : Nat) : Pk → Tr Pk := tellS s161 w161 (F161 N)
theorem T161_ok (N : Nat) : FOK Tryz.prog 161 (T161 N) :=
  (fn_ok2 ownT mix (tab161_ok N) Tryz.func161 s161 w161 [] (cuts := []) trivial (fun _ => by kernel_rfl) (by kernel_rfl) (F161 N) (fun x => by kernel_rfl))
@[reducible] def s143 : SP := ⟨[.adr 0 [], .int .i64], [.var (.agg [.str, .int .i64, .int .i64])]⟩
noncomputable def tab143 (N : Nat) : Tabs := [(142, T142 N), (161, T161 N)]
theorem tab143_ok (N : Nat) : TabOK Tryz.prog (tab143 N) := ⟨T142_ok N, T161_ok N, trivial⟩
@[reducible] def w143 : List SP := [⟨[.str], [.var (.agg [.str, .int .i64, .int .i64])]⟩]
noncomputable def F143 (N : Nat) : (Int × ByteArray × Int × Int) → Option (ByteArray × ByteArray × Int × Int)
  | (x0, x1, x2, x3) =>
  iteP (decide (x0 < 0)) (
  Option.bind (F142 N ((1 : Int), x1, x2, x3)) fun y0 =>
  iteP (y0.2.2 != 0) (
  some ((ByteArray.mk #[], y0.1, y0.2.1, y0.2.2))) (
  iteP (decide ((0 : Int) ≤ IntKind.wrap .i64 (y0.2.1 + x0) ∧ IntKind.wrap .i64 (y0.2.1 + x0) ≤ (↑(ByteArray.size y0.1) : Int))) (
  iteP (decide ((0 : Int) ≤ IntKind.wrap .i64 (IntKind.wrap .i64 (y0.2.1 + x0) - x0) ∧ IntKind.wrap .i64 (IntKind.wrap .i64 (y0.2.1 + x0) - x0) ≤ (↑(Int.toNat (IntKind.wrap .i64 (y0.2.1 + x0))) : Int))) (
  some ((ByteArray.extract y0.1 (Int.toNat (IntKind.wrap .i64 (IntKind.wrap .i64 (y0.2.1 + x0) - x0))) (Int.toNat (IntKind.wrap .i64 (y0.2.1 + x0))), y0.1, IntKind.wrap .i64 (y0.2.1 + x0), y0.2.2))) (
  none)) (
  none))) (
  Option.bind (F161 N (x1, x2, x3, ())) fun y1 =>
  iteP (decide (x0 > y1)) (
  Option.bind (F142 N ((2 : Int), x1, x2, x3)) fun y2 =>
  iteP (y2.2.2 != 0) (
  some ((ByteArray.mk #[], y2.1, y2.2.1, y2.2.2))) (
  iteP (decide ((0 : Int) ≤ IntKind.wrap .i64 (y2.2.1 + x0) ∧ IntKind.wrap .i64 (y2.2.1 + x0) ≤ (↑(ByteArray.size y2.1) : Int))) (
  iteP (decide ((0 : Int) ≤ IntKind.wrap .i64 (IntKind.wrap .i64 (y2.2.1 + x0) - x0) ∧ IntKind.wrap .i64 (IntKind.wrap .i64 (y2.2.1 + x0) - x0) ≤ (↑(Int.toNat (IntKind.wrap .i64 (y2.2.1 + x0))) : Int))) (
  some ((ByteArray.extract y2.1 (Int.toNat (IntKind.wrap .i64 (IntKind.wrap .i64 (y2.2.1 + x0) - x0))) (Int.toNat (IntKind.wrap .i64 (y2.2.1 + x0))), y2.1, IntKind.wrap .i64 (y2.2.1 + x0), y2.2.2))) (
  none)) (
  none))) (
  iteP (x3 != 0) (
  some ((ByteArray.mk #[], x1, x2, x3))) (
  iteP (decide ((0 : Int) ≤ IntKind.wrap .i64 (x2 + x0) ∧ IntKind.wrap .i64 (x2 + x0) ≤ (↑(ByteArray.size x1) : Int))) (
  iteP (decide ((0 : Int) ≤ IntKind.wrap .i64 (IntKind.wrap .i64 (x2 + x0) - x0) ∧ IntKind.wrap .i64 (IntKind.wrap .i64 (x2 + x0) - x0) ≤ (↑(Int.toNat (IntKind.wrap .i64 (x2 + x0))) : Int))) (
  some ((ByteArray.extract x1 (Int.toNat (IntKind.wrap .i64 (IntKind.wrap .i64 (x2 + x0) - x0))) (Int.toNat (IntKind.wrap .i64 (x2 + x0))), x1, IntKind.wrap .i64 (x2 + x0), x3))) (
  none)) (
  none))))
noncomputable def T143 (N : Nat) : Pk → Tr Pk := tellS s143 w143 (F143 N)
theorem T143_ok (N : Nat) : FOK Tryz.prog 143 (T143 N) :=
  (fn_ok2 ownT mix (tab143_ok N) Tryz.func143 s143 w143 [0] (cuts := []) trivial (fun _ => by kernel_rfl) (by kernel_rfl) (F143 N) (fun x => by kernel_rfl))
@[reducible] def s144 : SP := ⟨[.slp 0 .h .h], [.row (.int .u8) 5]⟩
noncomputable def tab144 (N : Nat) : Tabs := []
theorem tab144_ok (N : Nat) : TabOK Tryz.prog (tab144 N) := trivial
@[reducible] def L144_6 : LD := ⟨6, [2, 3, 0], [(.ret, []), (.exit 0, [])], ⟨[.int .i64, .int .i64, .slp 0 .h .h], [.row (.int .u8) 5]⟩, [(.exit 0, ⟨[], [.row (.int .u8) 5]⟩)]⟩
abbrev P144_6 : Type := Int × Int × Nat × Nat × (List Int)
abbrev R144_6 : Type := (List Int)
noncomputable def B144_6 (N : Nat) (f : P144_6 → Option R144_6) : P144_6 → Option R144_6
  | (x0, x1, x2, x3, x4) =>
  iteP (decide (x0 < x1)) (
  iteP (within x1 x3) (
  Option.bind (x4[x2 + Int.toNat x1]?) fun y0 =>
  iteP (within x0 x3) (
  Option.bind (x4[x2 + Int.toNat x0]?) fun y1 =>
  iteP (within x0 x3) (
  Option.bind (x4[x2 + Int.toNat x0]?) fun y2 =>
  iteP (within x1 x3) (
  Option.bind ((List.set x4 (x2 + Int.toNat x0) y0)[x2 + Int.toNat x1]?) fun y3 =>
  Option.bind (f (IntKind.wrap .i64 (x0 + 1), IntKind.wrap .i64 (x1 - 1), x2, x3, List.set (List.set x4 (x2 + Int.toNat x0) y0) (x2 + Int.toNat x1) y1)) fun r => some r) (
  none)) (
  none)) (
  none)) (
  none)) (
  some (x4))
noncomputable def F144_6 (N : Nat) : Nat → P144_6 → Option R144_6
  | 0, _ => none
  | k + 1, x => B144_6 N (F144_6 N k) x
theorem C144_6_ok (N : Nat) (k : Nat) : CutAt Tryz.prog Tryz.f144 [0] 6 (L144_6.cut (F144_6 N k)) :=
  L144_6.loopT ownT mix (tab144_ok N) Tryz.f144 [0] (cuts := []) trivial (by decide +kernel) (by kernel_rfl) (B144_6 N) (F144_6 N) (fun _ => rfl) (fun _ _ => rfl) (fun f x => by kernel_rfl) k
@[reducible] def w144 : List SP := [⟨[.tup []], [.row (.int .u8) 5]⟩]
noncomputable def F144 (N : Nat) : (Nat × Nat × (List Int)) → Option ((List Int))
  | (x0, x1, x2) =>
  Option.bind (F144_6 N N ((0 : Int), IntKind.wrap .i64 ((↑x1 : Int) - (1 : Int)), x0, x1, x2)) fun y0 =>
  some (y0)
noncomputable def T144 (N : Nat) : Pk → Tr Pk := tellS s144 w144 (F144 N)
theorem T144_ok (N : Nat) : FOK Tryz.prog 144 (T144 N) :=
  (fn_ok2 ownT mix (tab144_ok N) Tryz.func144 s144 w144 [0] (cuts := [(6, L144_6.cut (F144_6 N N))]) ⟨C144_6_ok N N, trivial⟩ (fun _ => by kernel_rfl) (by kernel_rfl) (F144 N) (fun x => by kernel_rfl))
@[reducible] def s115 : SP := ⟨[.str], []⟩
noncomputable def tab115 (N : Nat) : Tabs := [(144, T144 N)]
theorem tab115_ok (N : Nat) : TabOK Tryz.prog (tab115 N) := ⟨T144_ok N, trivial⟩
@[reducible] def w115 : List SP := [⟨[.str], []⟩]
noncomputable def F115 (N : Nat) : (ByteArray) → Option (ByteArray)
  | x0 =>
  iteP (decide (ByteArray.size x0 ≤ 140737488355328)) (
  Option.bind (F144 N ((0 : Nat), List.length (bytesOf x0), bytesOf x0)) fun y0 =>
  some (stringOf y0)) (
  none)
noncomputable def T115 (N : Nat) : Pk → Tr Pk := tellS s115 w115 (F115 N)
theorem T115_ok (N : Nat) : FOK Tryz.prog 115 (T115 N) :=
  (fn_ok2 ownT mix (tab115_ok N) Tryz.func115 s115 w115 [] (cuts := []) trivial (fun _ => by kernel_rfl) (by kernel_rfl) (F115 N) (fun x => by kernel_rfl))
@[reducible] def s114a : SP := ⟨[.adr 0 [], .int .i64, .fn 115], [.var (.agg [.str, .int .i64, .int .i64])]⟩
noncomputable def tab114a (N : Nat) : Tabs := [(141, T141 N), (142, T142 N), (143, T143 N), (115, T115 N)]
theorem tab114a_ok (N : Nat) : TabOK Tryz.prog (tab114a N) := ⟨T141_ok N, T142_ok N, T143_ok N, T115_ok N, trivial⟩
@[reducible] def L114a_122 : LD := ⟨122, [7, 22, 21, 20], [(.ret, [6]), (.exit 0, [7])], ⟨[.int .i64, .int .i64, .int .i64, .sl 1], [.var (.agg [.str, .int .i64, .int .i64]), .row (.int .u8) 5]⟩, [(.exit 0, ⟨[.int .i64], [.var (.agg [.str, .int .i64, .int .i64])]⟩)]⟩
abbrev P114a_122 : Type := Int × Int × Int × ByteArray × Int × Int × (List Int)
abbrev R114a_122 : Type := Int × ByteArray × Int × Int
noncomputable def B114a_122 (N : Nat) (f : P114a_122 → Option R114a_122) : P114a_122 → Option R114a_122
  | (x0, x1, x2, x3, x4, x5, x6) =>
  iteP (decide (x1 < x2)) (
  iteP (within x1 (List.length x6)) (
  Option.bind (x6[Int.toNat x1]?) fun y0 =>
  iteP (decide (IntKind.wrap .i64 ((8 : Int) * x1) < 0)) (
  none) (
  Option.bind (f (IntKind.wrap .i64 (↑(BitVec.toNat (BitVec.ofInt (64 : Nat) x0 ||| BitVec.ofInt (64 : Nat) (IntKind.wrap .i64 (IntKind.wrap .i64 y0 * 2 ^ min (Int.toNat (IntKind.wrap .i64 ((8 : Int) * x1))) (64 : Nat))))) : Int), IntKind.wrap .i64 (x1 + 1), x2, x3, x4, x5, x6)) fun r => some r)) (
  none)) (
  some ((x0, x3, x4, x5)))
noncomputable def F114a_122 (N : Nat) : Nat → P114a_122 → Option R114a_122
  | 0, _ => none
  | k + 1, x => B114a_122 N (F114a_122 N k) x
theorem C114a_122_ok (N : Nat) (k : Nat) : CutAt Tryz.prog Tryz.f114 [0] 122 (L114a_122.cut (F114a_122 N k)) :=
  L114a_122.loopT ownT mix (tab114a_ok N) Tryz.f114 [0] (cuts := []) trivial (by decide +kernel) (by kernel_rfl) (B114a_122 N) (F114a_122 N) (fun _ => rfl) (fun _ _ => rfl) (fun f x => by kernel_rfl) k
@[reducible] def w114a : List SP := [⟨[.int .i64], [.var (.agg [.str, .int .i64, .int .i64])]⟩]
noncomputable def F114a (N : Nat) : (Int × ByteArray × Int × Int) → Option (Int × ByteArray × Int × Int)
  | (x0, x1, x2, x3) =>
  Option.bind (F141 N x0) fun y0 =>
  iteP (!y0) (
  Option.bind (F142 N ((1 : Int), x1, x2, x3)) fun y1 =>
  Option.bind (F143 N (x0, y1.1, y1.2.1, y1.2.2)) fun y2 =>
  Option.bind (F115 N y2.1) fun y3 =>
  iteP (decide (ByteArray.size y3 ≤ 140737488355328)) (
  Option.bind (F114a_122 N N ((0 : Int), (0 : Int), (↑(List.length (bytesOf y3)) : Int), y2.2.1, y2.2.2.1, y2.2.2.2, bytesOf y3)) fun y4 =>
  some ((y4.1, y4.2.1, y4.2.2.1, y4.2.2.2))) (
  none)) (
  Option.bind (F143 N (x0, x1, x2, x3)) fun y5 =>
  Option.bind (F115 N y5.1) fun y6 =>
  iteP (decide (ByteArray.size y6 ≤ 140737488355328)) (
  Option.bind (F114a_122 N N ((0 : Int), (0 : Int), (↑(List.length (bytesOf y6)) : Int), y5.2.1, y5.2.2.1, y5.2.2.2, bytesOf y6)) fun y7 =>
  some ((y7.1, y7.2.1, y7.2.2.1, y7.2.2.2))) (
  none))
noncomputable def V114a (N : Nat) : Pk → Tr Pk := tellS s114a w114a (F114a N)
theorem V114a_ok (N : Nat) : FOK Tryz.prog 114 (V114a N) :=
  (fn_ok2 ownT mix (tab114a_ok N) Tryz.func114 s114a w114a [0] (cuts := [(122, L114a_122.cut (F114a_122 N N))]) ⟨C114a_122_ok N N, trivial⟩ (fun _ => by kernel_rfl) (by kernel_rfl) (F114a N) (fun x => by kernel_rfl))
noncomputable def T114 (N : Nat) : Pk → Tr Pk := (V114a N)
theorem T114_ok (N : Nat) : FOK Tryz.prog 114 (T114 N) := (V114a_ok N)
@[reducible] def s78 : SP := ⟨[.adr 0 [], .int .i64], [.var (.agg [.str, .int .i64, .int .i64])]⟩
noncomputable def tab78 (N : Nat) : Tabs := [(114, T114 N)]
theorem tab78_ok (N : Nat) : TabOK Tryz.prog (tab78 N) := ⟨T114_ok N, trivial⟩
@[reducible] def w78 : List SP := [⟨[.int .i64], [.var (.agg [.str, .int .i64, .int .i64])]⟩]
noncomputable def F78 (N : Nat) : (Int × ByteArray × Int × Int) → Option (Int × ByteArray × Int × Int)
  | (x0, x1, x2, x3) =>
  Option.bind (F114a N (x0, x1, x2, x3)) fun y0 =>
  some ((y0.1, y0.2.1, y0.2.2.1, y0.2.2.2))
noncomputable def T78 (N : Nat) : Pk → Tr Pk := tellS s78 w78 (F78 N)
theorem T78_ok (N : Nat) : FOK Tryz.prog 78 (T78 N) :=
  (fn_ok2 ownT mix (tab78_ok N) Tryz.func78 s78 w78 [0] (cuts := []) trivial (fun _ => by kernel_rfl) (by kernel_rfl) (F78 N) (fun x => by kernel_rfl))
@[reducible] def s79 : SP := ⟨[.radr y6 [.i 0 3]], []⟩
noncomputable def tab79 (N : Nat) : Tabs := []
theorem tab79_ok (N : Nat) : TabOK Tryz.prog (tab79 N) := trivial
@[reducible] def w79 : List SP := [⟨[.int .i64], []⟩]
noncomputable def F79 (N : Nat) : ((ByteArray × (Int × (Int × Unit)))) → Option (Int)
  | x0 =>
  some x0.2.2.1
noncomputable def T79 (N : Nat) : Pk → Tr Pk := tellS s79 w79 (F79 N)
theorem T79_ok (N : Nat) : FOK Tryz.prog 79 (T79 N) :=
  (fn_ok2 ownT mix (tab79_ok N) Tryz.func79 s79 w79 [] (cuts := []) trivial (fun _ => by kernel_rfl) (by kernel_rfl) (F79 N) (fun x => by kernel_rfl))
@[reducible] def s35 : SP := ⟨[.str], []⟩
noncomputable def tab35 (N : Nat) : Tabs := [(77, T77 N), (78, T78 N), (79, T79 N)]
theorem tab35_ok (N : Nat) : TabOK Tryz.prog (tab35 N) := ⟨T77_ok N, T78_ok N, T79_ok N, trivial⟩
@[reducible] def w35 : List SP := [⟨[.int .i64], []⟩]
noncomputable def F35 (N : Nat) : (ByteArray) → Option (Int)
  | x0 =>
  Option.bind (F77 N x0) fun y0 =>
  Option.bind (F78 N ((1 : Int), y0.1, y0.2.1, y0.2.2)) fun y1 =>
  Option.bind (F78 N ((1 : Int), y1.2.1, y1.2.2.1, y1.2.2.2)) fun y2 =>
  Option.bind (F79 N (y2.2.1, y2.2.2.1, y2.2.2.2, ())) fun y3 =>
  iteP (y3 != 0) (
  Option.bind (F79 N (y2.2.1, y2.2.2.1, y2.2.2.2, ())) fun y4 =>
  some (y4)) (
  iteP (IntKind.wrap .i64 (↑(BitVec.toNat (BitVec.ofInt (64 : Nat) y1.1 &&& BitVec.ofInt (64 : Nat) (15 : Int))) : Int) != (8 : Int)) (
  some ((100 : Int))) (
  iteP (decide (Int.fdiv y1.1 (16 : Int) > (7 : Int))) (
  some ((100 : Int))) (
  iteP (IntKind.wrap .i64 (↑(BitVec.toNat (BitVec.ofInt (64 : Nat) y2.1 &&& BitVec.ofInt (64 : Nat) (32 : Int))) : Int) != (0 : Int)) (
  some ((100 : Int))) (
  iteP (Int.tmod (IntKind.wrap .i64 (↑(BitVec.toNat (BitVec.ofInt (64 : Nat) (IntKind.wrap .i64 (y1.1 * 256)) ||| BitVec.ofInt (64 : Nat) y2.1)) : Int)) (31 : Int) != (0 : Int)) (
  some ((100 : Int))) (
  some ((0 : Int)))))))
noncomputable def T35 (N : Nat) : Pk → Tr Pk := tellS s35 w35 (F35 N)
theorem T35_ok (N : Nat) : FOK Tryz.prog 35 (T35 N) :=
  (fn_ok2 ownT mix (tab35_ok N) Tryz.func35 s35 w35 [] (cuts := []) trivial (fun _ => by kernel_rfl) (by kernel_rfl) (F35 N) (fun x => by kernel_rfl))
noncomputable def tab80 (N : Nat) : Tabs := [(88, T88 N)]
theorem tab80_ok (N : Nat) : TabOK Tryz.prog (tab80 N) := ⟨T88_ok N, trivial⟩
noncomputable def T80 (N : Nat) : Pk → Tr Pk := inlT (mkE Tryz.prog ownT (tab80 N) []) Tryz.f80
theorem T80_ok (N : Nat) : FOK Tryz.prog 80 (T80 N) :=
  inl_ok (E := mkE Tryz.prog ownT (tab80 N) []) (mkE_ok mix (tab80_ok N)) Tryz.func80 (show Tryz.f80.body = some (bod Tryz.f80) by kernel_rfl) (by decide +kernel) (fun _ => cutsIn_ok trivial)
@[reducible] def s37 : SP := ⟨[.adr 0 [], .str], [.var (.agg [.agg [.bool, .str]])]⟩
noncomputable def tab37 (N : Nat) : Tabs := [(31, T31 N), (80, T80 N)]
theorem tab37_ok (N : Nat) : TabOK Tryz.prog (tab37 N) := ⟨T31_ok N, T80_ok N, trivial⟩
@[reducible] def w37 : List SP := [⟨[.str], [.var (.agg [.agg [.bool, .str]])]⟩]
noncomputable def F37 (N : Nat) : (ByteArray × Bool × ByteArray) → Option (ByteArray × Bool × ByteArray)
  | (x0, x1, x2) =>
  Option.bind (F31 N (x2, x0)) fun y0 =>
  iteP (!x1) (
  iteP (decide ((↑((2 : Nat) + ByteArray.size y0) : Int) > (9223372036854775807 : Int))) (
  none) (
  iteP (decide ((↑(ByteArray.size x2 + ByteArray.size x0) : Int) > (9223372036854775807 : Int))) (
  none) (
  Option.bind (F88 N (x2 ++ x0)) fun y1 =>
  some ((ByteArray.mk #[(120 : UInt8), (156 : UInt8)] ++ y0, true, y1))))) (
  iteP (decide ((↑(ByteArray.size x2 + ByteArray.size x0) : Int) > (9223372036854775807 : Int))) (
  none) (
  Option.bind (F88 N (x2 ++ x0)) fun y2 =>
  some ((y0, true, y2))))
noncomputable def T37 (N : Nat) : Pk → Tr Pk := tellS s37 w37 (F37 N)
theorem T37_ok (N : Nat) : FOK Tryz.prog 37 (T37 N) :=
  (fn_ok2 ownT mix (tab37_ok N) Tryz.func37 s37 w37 [0] (cuts := []) trivial (fun _ => by kernel_rfl) (by kernel_rfl) (F37 N) (fun x => by kernel_rfl))
@[reducible] def s85 : SP := ⟨[.str], []⟩
noncomputable def tab85 (N : Nat) : Tabs := []
theorem tab85_ok (N : Nat) : TabOK Tryz.prog (tab85 N) := trivial
@[reducible] def w85 : List SP := [⟨[.adr 0 []], [.var (.agg [.str, .int .i64, .int .i64])]⟩]
noncomputable def F85 (N : Nat) : (ByteArray) → Option (ByteArray × Int × Int)
  | x0 =>
  some ((x0, (0 : Int), (0 : Int)))
noncomputable def T85 (N : Nat) : Pk → Tr Pk := tellS s85 w85 (F85 N)
theorem T85_ok (N : Nat) : FOK Tryz.prog 85 (T85 N) :=
  (fn_ok2 ownT mix (tab85_ok N) Tryz.func85 s85 w85 [] (cuts := []) trivial (fun _ => by kernel_rfl) (by kernel_rfl) (F85 N) (fun x => by kernel_rfl))
@[reducible] def s86 : SP := ⟨[.radr y6 [.i 0 3]], []⟩
noncomputable def tab86 (N : Nat) : Tabs := []
theorem tab86_ok (N : Nat) : TabOK Tryz.prog (tab86 N) := trivial
@[reducible] def w86 : List SP := [⟨[.int .i64], []⟩]
noncomputable def F86 (N : Nat) : ((ByteArray × (Int × (Int × Unit)))) → Option (Int)
  | x0 =>
  some (IntKind.wrap .i64 (IntKind.wrap .i64 ((8 : Int) * (↑(ByteArray.size x0.1) : Int)) - x0.2.1))
noncomputable def T86 (N : Nat) : Pk → Tr Pk := tellS s86 w86 (F86 N)
theorem T86_ok (N : Nat) : FOK Tryz.prog 86 (T86 N) :=
  (fn_ok2 ownT mix (tab86_ok N) Tryz.func86 s86 w86 [] (cuts := []) trivial (fun _ => by kernel_rfl) (by kernel_rfl) (F86 N) (fun x => by kernel_rfl))
@[reducible] def s146 : SP := ⟨[.adr 0 [], .int .i64], [.var (.agg [.str, .int .i64, .int .i64])]⟩
noncomputable def tab146 (N : Nat) : Tabs := [(86, T86 N)]
theorem tab146_ok (N : Nat) : TabOK Tryz.prog (tab146 N) := ⟨T86_ok N, trivial⟩
@[reducible] def w146 : List SP := [⟨[.bool], [.var (.agg [.str, .int .i64, .int .i64])]⟩]
noncomputable def F146 (N : Nat) : (Int × ByteArray × Int × Int) → Option (Bool × ByteArray × Int × Int)
  | (x0, x1, x2, x3) =>
  iteP (x3 == 0) (
  Option.bind (F86 N (x1, x2, x3, ())) fun y0 =>
  iteP (decide (x0 > y0)) (
  some ((false, x1, x2, (2 : Int)))) (
  some ((x3 == 0, x1, x2, x3)))) (
  some ((x3 == 0, x1, x2, x3)))
noncomputable def T146 (N : Nat) : Pk → Tr Pk := tellS s146 w146 (F146 N)
theorem T146_ok (N : Nat) : FOK Tryz.prog 146 (T146 N) :=
  (fn_ok2 ownT mix (tab146_ok N) Tryz.func146 s146 w146 [0] (cuts := []) trivial (fun _ => by kernel_rfl) (by kernel_rfl) (F146 N) (fun x => by kernel_rfl))
end Go.Proofs.YteddgkplkjldcaaGreat.Am
