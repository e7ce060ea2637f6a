/- The seat's Go functions come to the Lean functions written here, wherever these give an answer (part B). -/
import Derived.Test.YteddgkplkjldcaaGreatSA
set_option linter.unusedSimpArgs false
set_option linter.unusedVariables false
set_option maxRecDepth 100000
namespace Go.Proofs.YteddgkplkjldcaaGreat.Am
open Go.Am
@[reducible] def s75 : SP := ⟨[.adr 0 [], .str, .str, .bool], [.var (.agg [.sl 1, .int .i64, .int .i64]), .row (.int .u8) 5]⟩
noncomputable def ZG (N : Nat) : av := [(110, al5 N), (111, al4 N)]
theorem lB (N : Nat) : aj Tryz.prog (ZG N) := ⟨UV N, UU N, trivial⟩
@[reducible] def eH : LD := ⟨7322, [11, 30, 29, 0, 3, 2, 10, 8, 28], [(.ret, []), (.exit 2, [8, 10, 2, 11, 3, 0]), (.exit 1, [3, 0, 2, 8]), (.exit 0, [])], ⟨[.int .i64, .int .i64, .int .i64, .adr 0 [], .bool, .str, .int .i64, .sl 1, .slp 1 (.c 0) .h], [.var (.agg [.sl 2, .int .i64, .int .i64]), .row y0 52, .row (.int .u8) 5]⟩, [(.exit 2, ⟨[.sl 1, .int .i64, .str, .int .i64, .bool, .adr 0 []], [.var (.agg [.sl 2, .int .i64, .int .i64]), .row y0 52, .row (.int .u8) 5]⟩)]⟩
abbrev wW : Type := Int × Int × Int × Bool × ByteArray × Int × Nat × Int × Int × (List (Int × (Int × (Int × Unit)))) × (List Int)
abbrev wo : Type := Int × ByteArray × Int × Bool × Int × Int × (List (Int × (Int × (Int × Unit)))) × (List Int)
noncomputable def qy (N : Nat) (f : wW → Option wo) : wW → Option wo
  | (x0, x1, x2, x3, x4, x5, x6, x7, x8, x9, x10) =>
  ac (decide (x1 < x2)) (
  ac (within x1 x6) (
  Option.bind (x9[(0 : Nat) + Int.toNat x1]?) fun y0 =>
  Option.bind (f (IntKind.wrap .i64 (x0 + if (1 : Int) > y0.2.1 then (1 : Int) else y0.2.1), IntKind.wrap .i64 (x1 + 1), x2, x3, x4, x5, x6, x7, x8, x9, x10)) fun r => some r) (
  none)) (
  some ((x5, x4, x0, x3, x7, x8, x9, x10)))
noncomputable def cW (N : Nat) : Nat → wW → Option wo
  | 0, _ => none
  | k + 1, x => qy N (cW N k) x
theorem jb (N : Nat) (k : Nat) : ar Tryz.prog Tryz.f75 [0] 7322 (eH.cut (cW N k)) :=
  eH.loopT ai aA (lB N) Tryz.f75 [0] (cuts := []) trivial (by decide +kernel) (by kernel_rfl) (qy N) (cW N) (fun _ => rfl) (fun _ _ => rfl) (fun f x => by kernel_rfl) k
@[reducible] def jW : LD := ⟨7322, [11, 30, 29, 0, 3, 2, 10, 8, 28], [(.ret, []), (.exit 2, [8, 10, 2, 11, 3, 0]), (.exit 1, [3, 0, 2, 8]), (.exit 0, [])], ⟨[.int .i64, .int .i64, .int .i64, .adr 0 [], .bool, .str, .int .i64, .slp 1 .h .h, .slp 1 .h .h], [.var (.agg [.sl 2, .int .i64, .int .i64]), .row y0 52, .row (.int .u8) 5]⟩, [(.exit 2, ⟨[.slp 1 .h .h, .int .i64, .str, .int .i64, .bool, .adr 0 []], [.var (.agg [.sl 2, .int .i64, .int .i64]), .row y0 52, .row (.int .u8) 5]⟩)]⟩
abbrev rQ : Type := Int × Int × Int × Bool × ByteArray × Int × Nat × Nat × Nat × Nat × Int × Int × (List (Int × (Int × (Int × Unit)))) × (List Int)
abbrev rE : Type := Nat × Nat × Int × ByteArray × Int × Bool × Int × Int × (List (Int × (Int × (Int × Unit)))) × (List Int)
noncomputable def AA (N : Nat) (f : rQ → Option rE) : rQ → Option rE
  | (x0, x1, x2, x3, x4, x5, x6, x7, x8, x9, x10, x11, x12, x13) =>
  ac (decide (x1 < x2)) (
  ac (within x1 x9) (
  Option.bind (x12[x8 + Int.toNat x1]?) fun y0 =>
  Option.bind (f (IntKind.wrap .i64 (x0 + if (1 : Int) > y0.2.1 then (1 : Int) else y0.2.1), IntKind.wrap .i64 (x1 + 1), x2, x3, x4, x5, x6, x7, x8, x9, x10, x11, x12, x13)) fun r => some r) (
  none)) (
  some ((x6, x7, x5, x4, x0, x3, x10, x11, x12, x13)))
noncomputable def ef (N : Nat) : Nat → rQ → Option rE
  | 0, _ => none
  | k + 1, x => AA N (ef N k) x
theorem kW (N : Nat) (k : Nat) : ar Tryz.prog Tryz.f75 [0] 7322 (jW.cut (ef N k)) :=
  jW.loopT ai aA (lB N) Tryz.f75 [0] (cuts := [(7322, eH.cut (cW N N))]) ⟨jb N N, trivial⟩ (by decide +kernel) (by kernel_rfl) (AA N) (ef N) (fun _ => rfl) (fun _ _ => rfl) (fun f x => by kernel_rfl) k
@[reducible] def gx : LD := ⟨14, [9, 3, 0, 2, 8], [(.ret, []), (.exit 0, [])], ⟨[.bool, .bool, .adr 0 [], .str, .slp 1 .h .h], [.var (.agg [.sl 2, .int .i64, .int .i64]), .row y0 52, .row (.int .u8) 5]⟩, [(.exit 0, ⟨[], [.var (.agg [.sl 1, .int .i64, .int .i64]), .row (.int .u8) 5]⟩)]⟩
abbrev Ct : Type := Bool × Bool × ByteArray × Nat × Nat × Int × Int × (List (Int × (Int × (Int × Unit)))) × (List Int)
abbrev BO : Type := Int × Int × (List Int)
noncomputable def qz (N : Nat) (f : Ct → Option BO) : Ct → Option BO
  | (x0, x1, x2, x3, x4, x5, x6, x7, x8) =>
  ac (x0) (
  ac (decide (((0 : Int) ≤ if (8192 : Int) < (↑x4 : Int) then (8192 : Int) else (↑x4 : Int)) ∧ (if (8192 : Int) < (↑x4 : Int) then (8192 : Int) else (↑x4 : Int)) ≤ (↑x4 : Int))) (
  Option.bind (ef N N ((0 : Int), (0 : Int), (↑(Int.toNat (if (8192 : Int) < (↑x4 : Int) then (8192 : Int) else (↑x4 : Int)) - 0) : Int), x1, x2, if (8192 : Int) < (↑x4 : Int) then (8192 : Int) else (↑x4 : Int), x3, x4, x3 + 0, Int.toNat (if (8192 : Int) < (↑x4 : Int) then (8192 : Int) else (↑x4 : Int)) - 0, x5, x6, x7, x8)) fun y0 =>
  ac (decide ((0 : Int) ≤ y0.2.2.1 ∧ y0.2.2.1 ≤ (↑y0.2.1 : Int))) (
  ac (decide ((0 : Int) ≤ y0.2.2.2.2.1 ∧ y0.2.2.2.2.1 ≤ (↑(ByteArray.size y0.2.2.2.1) : Int))) (
  ac y0.2.2.2.2.2.1 (
  Option.bind (tw N (List.take (Int.toNat y0.2.2.1 - 0) (List.drop (y0.1 + 0) y0.2.2.2.2.2.2.2.2.1), ByteArray.extract y0.2.2.2.1 (0 : Nat) (Int.toNat y0.2.2.2.2.1), y0.2.2.1 == (↑y0.2.1 : Int), y0.2.2.2.2.2.2.1, y0.2.2.2.2.2.2.2.1, y0.2.2.2.2.2.2.2.2.2)) fun y1 =>
  ac (decide ((0 : Int) ≤ y0.2.2.1 ∧ y0.2.2.1 ≤ (↑y0.2.1 : Int))) (
  ac (decide ((0 : Int) ≤ y0.2.2.2.2.1 ∧ y0.2.2.2.2.1 ≤ (↑(ByteArray.size y0.2.2.2.1) : Int))) (
  Option.bind (f (false, y0.2.2.2.2.2.1, ByteArray.extract y0.2.2.2.1 (Int.toNat y0.2.2.2.2.1) (ByteArray.size y0.2.2.2.1), y0.1 + Int.toNat y0.2.2.1, y0.2.1 - Int.toNat y0.2.2.1, y1.1, y1.2.1, y0.2.2.2.2.2.2.2.2.1, y1.2.2)) fun r => some r) (
  none)) (
  none)) (
  Option.bind (tw N (List.take (Int.toNat y0.2.2.1 - 0) (List.drop (y0.1 + 0) y0.2.2.2.2.2.2.2.2.1), ByteArray.extract y0.2.2.2.1 (0 : Nat) (Int.toNat y0.2.2.2.2.1), false, y0.2.2.2.2.2.2.1, y0.2.2.2.2.2.2.2.1, y0.2.2.2.2.2.2.2.2.2)) fun y2 =>
  ac (decide ((0 : Int) ≤ y0.2.2.1 ∧ y0.2.2.1 ≤ (↑y0.2.1 : Int))) (
  ac (decide ((0 : Int) ≤ y0.2.2.2.2.1 ∧ y0.2.2.2.2.1 ≤ (↑(ByteArray.size y0.2.2.2.1) : Int))) (
  Option.bind (f (false, y0.2.2.2.2.2.1, ByteArray.extract y0.2.2.2.1 (Int.toNat y0.2.2.2.2.1) (ByteArray.size y0.2.2.2.1), y0.1 + Int.toNat y0.2.2.1, y0.2.1 - Int.toNat y0.2.2.1, y2.1, y2.2.1, y0.2.2.2.2.2.2.2.2.1, y2.2.2)) fun r => some r) (
  none)) (
  none))) (
  none)) (
  none)) (
  none)) (
  ac (decide ((↑x4 : Int) > (0 : Int))) (
  ac (decide (((0 : Int) ≤ if (8192 : Int) < (↑x4 : Int) then (8192 : Int) else (↑x4 : Int)) ∧ (if (8192 : Int) < (↑x4 : Int) then (8192 : Int) else (↑x4 : Int)) ≤ (↑x4 : Int))) (
  Option.bind (ef N N ((0 : Int), (0 : Int), (↑(Int.toNat (if (8192 : Int) < (↑x4 : Int) then (8192 : Int) else (↑x4 : Int)) - 0) : Int), x1, x2, if (8192 : Int) < (↑x4 : Int) then (8192 : Int) else (↑x4 : Int), x3, x4, x3 + 0, Int.toNat (if (8192 : Int) < (↑x4 : Int) then (8192 : Int) else (↑x4 : Int)) - 0, x5, x6, x7, x8)) fun y3 =>
  ac (decide ((0 : Int) ≤ y3.2.2.1 ∧ y3.2.2.1 ≤ (↑y3.2.1 : Int))) (
  ac (decide ((0 : Int) ≤ y3.2.2.2.2.1 ∧ y3.2.2.2.2.1 ≤ (↑(ByteArray.size y3.2.2.2.1) : Int))) (
  ac y3.2.2.2.2.2.1 (
  Option.bind (tw N (List.take (Int.toNat y3.2.2.1 - 0) (List.drop (y3.1 + 0) y3.2.2.2.2.2.2.2.2.1), ByteArray.extract y3.2.2.2.1 (0 : Nat) (Int.toNat y3.2.2.2.2.1), y3.2.2.1 == (↑y3.2.1 : Int), y3.2.2.2.2.2.2.1, y3.2.2.2.2.2.2.2.1, y3.2.2.2.2.2.2.2.2.2)) fun y4 =>
  ac (decide ((0 : Int) ≤ y3.2.2.1 ∧ y3.2.2.1 ≤ (↑y3.2.1 : Int))) (
  ac (decide ((0 : Int) ≤ y3.2.2.2.2.1 ∧ y3.2.2.2.2.1 ≤ (↑(ByteArray.size y3.2.2.2.1) : Int))) (
  Option.bind (f (false, y3.2.2.2.2.2.1, ByteArray.extract y3.2.2.2.1 (Int.toNat y3.2.2.2.2.1) (ByteArray.size y3.2.2.2.1), y3.1 + Int.toNat y3.2.2.1, y3.2.1 - Int.toNat y3.2.2.1, y4.1, y4.2.1, y3.2.2.2.2.2.2.2.2.1, y4.2.2)) fun r => some r) (
  none)) (
  none)) (
  Option.bind (tw N (List.take (Int.toNat y3.2.2.1 - 0) (List.drop (y3.1 + 0) y3.2.2.2.2.2.2.2.2.1), ByteArray.extract y3.2.2.2.1 (0 : Nat) (Int.toNat y3.2.2.2.2.1), false, y3.2.2.2.2.2.2.1, y3.2.2.2.2.2.2.2.1, y3.2.2.2.2.2.2.2.2.2)) fun y5 =>
  ac (decide ((0 : Int) ≤ y3.2.2.1 ∧ y3.2.2.1 ≤ (↑y3.2.1 : Int))) (
  ac (decide ((0 : Int) ≤ y3.2.2.2.2.1 ∧ y3.2.2.2.2.1 ≤ (↑(ByteArray.size y3.2.2.2.1) : Int))) (
  Option.bind (f (false, y3.2.2.2.2.2.1, ByteArray.extract y3.2.2.2.1 (Int.toNat y3.2.2.2.2.1) (ByteArray.size y3.2.2.2.1), y3.1 + Int.toNat y3.2.2.1, y3.2.1 - Int.toNat y3.2.2.1, y5.1, y5.2.1, y3.2.2.2.2.2.2.2.2.1, y5.2.2)) fun r => some r) (
  none)) (
  none))) (
  none)) (
  none)) (
  none)) (
  some ((x5, x6, x8))))
noncomputable def eL (N : Nat) : Nat → Ct → Option BO
  | 0, _ => none
  | k + 1, x => qz N (eL N k) x
theorem yp (N : Nat) (k : Nat) : ar Tryz.prog Tryz.f75 [0] 14 (gx.cut (eL N k)) :=
  gx.loopT ai aA (lB N) Tryz.f75 [0] (cuts := [(7322, JP eH.s.I (eH.cut (cW N N)) (jW.cut (ef N N)))]) ⟨fun c' h => gg (jb N N c' h) (kW N N c' h) rfl rfl, trivial⟩ (by decide +kernel) (by kernel_rfl) (qz N) (eL N) (fun _ => rfl) (fun _ _ => rfl) (fun f x => by kernel_rfl) k
@[reducible] def IE : LD := ⟨14, gx.live, gx.out, ⟨[.bool, .bool, .adr 0 [], .str, .sl 1], [.var (.agg [.sl 2, .int .i64, .int .i64]), .row y0 52, .row (.int .u8) 5]⟩, gx.w⟩
noncomputable def DO (N : Nat) (f : (Bool × Bool × ByteArray × Nat × Nat × Int × Int × (List (Int × (Int × (Int × Unit)))) × (List Int)) → Option (Int × Int × (List Int))) : (Bool × Bool × ByteArray × Int × Int × (List (Int × (Int × (Int × Unit)))) × (List Int)) → Option (Int × Int × (List Int))
  | (x0, x1, x2, x3, x4, x5, x6) =>
  ac (x0) (
  ac (decide (((0 : Int) ≤ if (8192 : Int) < (↑(List.length x5) : Int) then (8192 : Int) else (↑(List.length x5) : Int)) ∧ (if (8192 : Int) < (↑(List.length x5) : Int) then (8192 : Int) else (↑(List.length x5) : Int)) ≤ (↑(List.length x5) : Int))) (
  Option.bind (cW N N ((0 : Int), (0 : Int), (↑(Int.toNat (if (8192 : Int) < (↑(List.length x5) : Int) then (8192 : Int) else (↑(List.length x5) : Int)) - 0) : Int), x1, x2, if (8192 : Int) < (↑(List.length x5) : Int) then (8192 : Int) else (↑(List.length x5) : Int), Int.toNat (if (8192 : Int) < (↑(List.length x5) : Int) then (8192 : Int) else (↑(List.length x5) : Int)) - 0, x3, x4, x5, x6)) fun y0 =>
  ac (decide ((0 : Int) ≤ y0.1 ∧ y0.1 ≤ (↑(List.length y0.2.2.2.2.2.2.1) : Int))) (
  ac (decide ((0 : Int) ≤ y0.2.2.1 ∧ y0.2.2.1 ≤ (↑(ByteArray.size y0.2.1) : Int))) (
  ac y0.2.2.2.1 (
  Option.bind (tw N (List.take (Int.toNat y0.1 - 0) (List.drop (0 : Nat) y0.2.2.2.2.2.2.1), ByteArray.extract y0.2.1 (0 : Nat) (Int.toNat y0.2.2.1), y0.1 == (↑(List.length y0.2.2.2.2.2.2.1) : Int), y0.2.2.2.2.1, y0.2.2.2.2.2.1, y0.2.2.2.2.2.2.2)) fun y1 =>
  ac (decide ((0 : Int) ≤ y0.1 ∧ y0.1 ≤ (↑(List.length y0.2.2.2.2.2.2.1) : Int))) (
  ac (decide ((0 : Int) ≤ y0.2.2.1 ∧ y0.2.2.1 ≤ (↑(ByteArray.size y0.2.1) : Int))) (
  Option.bind (f (false, y0.2.2.2.1, ByteArray.extract y0.2.1 (Int.toNat y0.2.2.1) (ByteArray.size y0.2.1), Int.toNat y0.1, List.length y0.2.2.2.2.2.2.1 - Int.toNat y0.1, y1.1, y1.2.1, y0.2.2.2.2.2.2.1, y1.2.2)) fun r => some r) (
  none)) (
  none)) (
  Option.bind (tw N (List.take (Int.toNat y0.1 - 0) (List.drop (0 : Nat) y0.2.2.2.2.2.2.1), ByteArray.extract y0.2.1 (0 : Nat) (Int.toNat y0.2.2.1), false, y0.2.2.2.2.1, y0.2.2.2.2.2.1, y0.2.2.2.2.2.2.2)) fun y2 =>
  ac (decide ((0 : Int) ≤ y0.1 ∧ y0.1 ≤ (↑(List.length y0.2.2.2.2.2.2.1) : Int))) (
  ac (decide ((0 : Int) ≤ y0.2.2.1 ∧ y0.2.2.1 ≤ (↑(ByteArray.size y0.2.1) : Int))) (
  Option.bind (f (false, y0.2.2.2.1, ByteArray.extract y0.2.1 (Int.toNat y0.2.2.1) (ByteArray.size y0.2.1), Int.toNat y0.1, List.length y0.2.2.2.2.2.2.1 - Int.toNat y0.1, y2.1, y2.2.1, y0.2.2.2.2.2.2.1, y2.2.2)) fun r => some r) (
  none)) (
  none))) (
  none)) (
  none)) (
  none)) (
  ac (decide ((↑(List.length x5) : Int) > (0 : Int))) (
  ac (decide (((0 : Int) ≤ if (8192 : Int) < (↑(List.length x5) : Int) then (8192 : Int) else (↑(List.length x5) : Int)) ∧ (if (8192 : Int) < (↑(List.length x5) : Int) then (8192 : Int) else (↑(List.length x5) : Int)) ≤ (↑(List.length x5) : Int))) (
  Option.bind (cW N N ((0 : Int), (0 : Int), (↑(Int.toNat (if (8192 : Int) < (↑(List.length x5) : Int) then (8192 : Int) else (↑(List.length x5) : Int)) - 0) : Int), x1, x2, if (8192 : Int) < (↑(List.length x5) : Int) then (8192 : Int) else (↑(List.length x5) : Int), Int.toNat (if (8192 : Int) < (↑(List.length x5) : Int) then (8192 : Int) else (↑(List.length x5) : Int)) - 0, x3, x4, x5, x6)) fun y3 =>
  ac (decide ((0 : Int) ≤ y3.1 ∧ y3.1 ≤ (↑(List.length y3.2.2.2.2.2.2.1) : Int))) (
  ac (decide ((0 : Int) ≤ y3.2.2.1 ∧ y3.2.2.1 ≤ (↑(ByteArray.size y3.2.1) : Int))) (
  ac y3.2.2.2.1 (
  Option.bind (tw N (List.take (Int.toNat y3.1 - 0) (List.drop (0 : Nat) y3.2.2.2.2.2.2.1), ByteArray.extract y3.2.1 (0 : Nat) (Int.toNat y3.2.2.1), y3.1 == (↑(List.length y3.2.2.2.2.2.2.1) : Int), y3.2.2.2.2.1, y3.2.2.2.2.2.1, y3.2.2.2.2.2.2.2)) fun y4 =>
  ac (decide ((0 : Int) ≤ y3.1 ∧ y3.1 ≤ (↑(List.length y3.2.2.2.2.2.2.1) : Int))) (
  ac (decide ((0 : Int) ≤ y3.2.2.1 ∧ y3.2.2.1 ≤ (↑(ByteArray.size y3.2.1) : Int))) (
  Option.bind (f (false, y3.2.2.2.1, ByteArray.extract y3.2.1 (Int.toNat y3.2.2.1) (ByteArray.size y3.2.1), Int.toNat y3.1, List.length y3.2.2.2.2.2.2.1 - Int.toNat y3.1, y4.1, y4.2.1, y3.2.2.2.2.2.2.1, y4.2.2)) fun r => some r) (
  none)) (
  none)) (
  Option.bind (tw N (List.take (Int.toNat y3.1 - 0) (List.drop (0 : Nat) y3.2.2.2.2.2.2.1), ByteArray.extract y3.2.1 (0 : Nat) (Int.toNat y3.2.2.1), false, y3.2.2.2.2.1, y3.2.2.2.2.2.1, y3.2.2.2.2.2.2.2)) fun y5 =>
  ac (decide ((0 : Int) ≤ y3.1 ∧ y3.1 ≤ (↑(List.length y3.2.2.2.2.2.2.1) : Int))) (
  ac (decide ((0 : Int) ≤ y3.2.2.1 ∧ y3.2.2.1 ≤ (↑(ByteArray.size y3.2.1) : Int))) (
  Option.bind (f (false, y3.2.2.2.1, ByteArray.extract y3.2.1 (Int.toNat y3.2.2.1) (ByteArray.size y3.2.1), Int.toNat y3.1, List.length y3.2.2.2.2.2.2.1 - Int.toNat y3.1, y5.1, y5.2.1, y3.2.2.2.2.2.2.1, y5.2.2)) fun r => some r) (
  none)) (
  none))) (
  none)) (
  none)) (
  none)) (
  some ((x3, x4, x6))))
noncomputable def Ds (N : Nat) (k : Nat) : (Bool × Bool × ByteArray × Int × Int × (List (Int × (Int × (Int × Unit)))) × (List Int)) → Option (Int × Int × (List Int)) := DO N (eL N k)
theorem NJ (N : Nat) (k : Nat) : ar Tryz.prog Tryz.f75 [0] 14 (IE.cut (Ds N k)) :=
  IE.loop2T ai aA (lB N) gx.s Tryz.f75 [0] (cuts := [(7322, JP eH.s.I (eH.cut (cW N N)) (jW.cut (ef N N))), (14, gx.cut (eL N N))]) ⟨fun c' h => gg (jb N N c' h) (kW N N c' h) rfl rfl, yp N N, trivial⟩ (by decide +kernel) (by kernel_rfl) (DO N) (qz N) (eL N) (fun _ => rfl) (fun _ _ => rfl) (fun f g x => by kernel_rfl) (fun f g x => by kernel_rfl) k
@[reducible] def w75 : List SP := [⟨[.tup []], [.var (.agg [.sl 1, .int .i64, .int .i64]), .row (.int .u8) 5]⟩]
noncomputable def Y6 (N : Nat) : (ByteArray × ByteArray × Bool × Int × Int × (List Int)) → Option (Int × Int × (List Int))
  | (x0, x1, x2, x3, x4, x5) =>
  Option.bind (SJ N (x0, x1)) fun y0 =>
  Option.bind (Ds N N (true, x2, x1, x3, x4, y0, x5)) fun y1 =>
  some ((y1.1, y1.2.1, y1.2.2))
noncomputable def T75 (N : Nat) : Pk → Tr Pk := ak s75 w75 (Y6 N)
theorem Q7 (N : Nat) : aO Tryz.prog 75 (T75 N) :=
  (ah ai aA (lB N) Tryz.func75 s75 w75 [0] (cuts := [(7322, JP eH.s.I (eH.cut (cW N N)) (jW.cut (ef N N))), (14, JP gx.s.I (gx.cut (eL N N)) (IE.cut (Ds N N)))]) ⟨fun c' h => gg (jb N N c' h) (kW N N c' h) rfl rfl, fun c' h => gg (yp N N c' h) (NJ N N c' h) rfl rfl, trivial⟩ (fun _ => by kernel_rfl) (by kernel_rfl) (Y6 N) (fun x => by kernel_rfl))
@[reducible] def s19 : SP := ⟨[.radr y1 [.i 0 3]], []⟩
noncomputable def ac2 (N : Nat) : av := []
theorem O3 (N : Nat) : aj Tryz.prog (ac2 N) := trivial
@[reducible] def w19 : List SP := [⟨[.str], []⟩]
noncomputable def YK (N : Nat) : (((List Int) × (Int × (Int × Unit)))) → Option (ByteArray)
  | x0 =>
  ac (decide (x0.2.2.1 > 0)) (
  ac (decide ((↑(ByteArray.size (aI x0.1) + ByteArray.size (aI [IntKind.wrap .u8 x0.2.1])) : Int) > (9223372036854775807 : Int))) (
  none) (
  some (aI x0.1 ++ aI [IntKind.wrap .u8 x0.2.1]))) (
  some (aI x0.1))
noncomputable def T19 (N : Nat) : Pk → Tr Pk := ak s19 w19 (YK N)
theorem Rs (N : Nat) : aO Tryz.prog 19 (T19 N) :=
  (ah ai aA (O3 N) Tryz.func19 s19 w19 [] (cuts := []) trivial (fun _ => by kernel_rfl) (by kernel_rfl) (YK N) (fun x => by kernel_rfl))
@[reducible] def s30 : SP := ⟨[.str, .str], []⟩
noncomputable def ab2 (N : Nat) : av := [(75, T75 N), (19, T19 N)]
theorem O0 (N : Nat) : aj Tryz.prog (ab2 N) := ⟨Q7 N, Rs N, trivial⟩
@[reducible] def w30 : List SP := [⟨[.str], []⟩]
noncomputable def F30 (N : Nat) : (ByteArray × ByteArray) → Option (ByteArray)
  | (x0, x1) =>
  Option.bind (Y6 N (x0, x1, true, (0 : Int), (0 : Int), [])) fun y0 =>
  Option.bind (YK N (y0.2.2, y0.1, y0.2.1, ())) fun y1 =>
  some (y1)
noncomputable def T30 (N : Nat) : Pk → Tr Pk := ak s30 w30 (F30 N)
theorem Yc (N : Nat) : aO Tryz.prog 30 (T30 N) :=
  (ah ai aA (O0 N) Tryz.func30 s30 w30 [] (cuts := []) trivial (fun _ => by kernel_rfl) (by kernel_rfl) (F30 N) (fun x => by kernel_rfl))
@[reducible] def s50 : SP := ⟨[.int .i64], []⟩
noncomputable def Z6 (N : Nat) : av := []
theorem ON (N : Nat) : aj Tryz.prog (Z6 N) := trivial
@[reducible] def w50 : List SP := [⟨[.int .i64], []⟩]
noncomputable def F50 (N : Nat) : (Int) → Option (Int)
  | x0 =>
  some (if (32 : Int) < if (0 : Int) > x0 then (0 : Int) else x0 then (32 : Int) else if (0 : Int) > x0 then (0 : Int) else x0)
noncomputable def T50 (N : Nat) : Pk → Tr Pk := ak s50 w50 (F50 N)
theorem Rm (N : Nat) : aO Tryz.prog 50 (T50 N) :=
  (ah ai aA (ON N) Tryz.func50 s50 w50 [] (cuts := []) trivial (fun _ => by kernel_rfl) (by kernel_rfl) (F50 N) (fun x => by kernel_rfl))
@[reducible] def s17 : SP := ⟨[.int .i64, .int .i64], []⟩
noncomputable def ac4 (N : Nat) : av := [(50, T50 N)]
theorem EA (N : Nat) : aj Tryz.prog (ac4 N) := ⟨Rm N, trivial⟩
@[reducible] def IP : LD := ⟨58, [5, 1, 6, 0], [(.ret, [4]), (.exit 0, [5])], ⟨[.sl 0, .int .i64, .int .i64, .int .i64], [.row (.bool) 4]⟩, [(.exit 0, ⟨[.sl 0], [.row (.bool) 4]⟩)]⟩
abbrev Iw : Type := Int × Int × Int × (List Bool)
abbrev Ib : Type := (List Bool)
noncomputable def D3 (N : Nat) (f : Iw → Option Ib) : Iw → Option Ib
  | (x0, x1, x2, x3) =>
  Option.bind (F50 N x2) fun y0 =>
  ac (decide (x1 < y0)) (
  ac (decide ((List.length x3 + List.length [IntKind.wrap .i64 (↑(BitVec.toNat (BitVec.ofInt (64 : Nat) x0 &&& BitVec.ofInt (64 : Nat) (1 : Int))) : Int) == (1 : Int)]) * 1 ≤ (140737488355328 : Nat) ∧ List.length x3 + List.length [IntKind.wrap .i64 (↑(BitVec.toNat (BitVec.ofInt (64 : Nat) x0 &&& BitVec.ofInt (64 : Nat) (1 : Int))) : Int) == (1 : Int)] ≤ 140737488355328)) (
  Option.bind (f (Int.fdiv x0 (2 : Int), IntKind.wrap .i64 (x1 + 1), x2, x3 ++ [IntKind.wrap .i64 (↑(BitVec.toNat (BitVec.ofInt (64 : Nat) x0 &&& BitVec.ofInt (64 : Nat) (1 : Int))) : Int) == (1 : Int)])) fun r => some r) (
  none)) (
  some (x3))
noncomputable def mQ (N : Nat) : Nat → Iw → Option Ib
  | 0, _ => none
  | k + 1, x => D3 N (mQ N k) x
theorem NT (N : Nat) (k : Nat) : ar Tryz.prog Tryz.f17 [] 58 (IP.cut (mQ N k)) :=
  IP.loopT ai aA (EA N) Tryz.f17 [] (cuts := []) trivial (by decide +kernel) (by kernel_rfl) (D3 N) (mQ N) (fun _ => rfl) (fun _ _ => rfl) (fun f x => by kernel_rfl) k
@[reducible] def w17 : List SP := [⟨[.sl 0], [.row (.bool) 4]⟩]
noncomputable def F17 (N : Nat) : (Int × Int) → Option ((List Bool))
  | (x0, x1) =>
  Option.bind (mQ N N (x1, (0 : Int), x0, [])) fun y0 =>
  some (y0)
noncomputable def T17 (N : Nat) : Pk → Tr Pk := ak s17 w17 (F17 N)
theorem Yl (N : Nat) : aO Tryz.prog 17 (T17 N) :=
  (ah ai aA (EA N) Tryz.func17 s17 w17 [] (cuts := [(58, IP.cut (mQ N N))]) ⟨NT N N, trivial⟩ (fun _ => by kernel_rfl) (by kernel_rfl) (F17 N) (fun x => by kernel_rfl))
@[reducible] def s22 : SP := ⟨[.str], []⟩
noncomputable def ab9 (N : Nat) : av := [(17, T17 N)]
theorem Ey (N : Nat) : aj Tryz.prog (ab9 N) := ⟨Yl N, trivial⟩
@[reducible] def IM : LD := ⟨58, [3, 4, 0], [(.ret, [2]), (.exit 0, [3])], ⟨[.sl 0, .int .i64, .str], [.row (.bool) 4]⟩, [(.exit 0, ⟨[.sl 0], [.row (.bool) 4]⟩)]⟩
abbrev Iv : Type := Int × ByteArray × (List Bool)
abbrev Ia : Type := (List Bool)
noncomputable def D2 (N : Nat) (f : Iv → Option Ia) : Iv → Option Ia
  | (x0, x1, x2) =>
  ac (decide (x0 < (↑(ByteArray.size x1) : Int))) (
  ac (decide ((0 : Int) ≤ x0)) (
  Option.bind (x1[Int.toNat x0]?) fun y0 =>
  Option.bind (F17 N ((8 : Int), IntKind.wrap .i64 (↑(UInt8.toNat y0) : Int))) fun y1 =>
  ac (decide ((List.length x2 + List.length y1) * 1 ≤ (140737488355328 : Nat) ∧ List.length x2 + List.length y1 ≤ 140737488355328)) (
  Option.bind (f (IntKind.wrap .i64 (x0 + 1), x1, x2 ++ y1)) fun r => some r) (
  none)) (
  none)) (
  some (x2))
noncomputable def mP (N : Nat) : Nat → Iv → Option Ia
  | 0, _ => none
  | k + 1, x => D2 N (mP N k) x
theorem NR (N : Nat) (k : Nat) : ar Tryz.prog Tryz.f22 [] 58 (IM.cut (mP N k)) :=
  IM.loopT ai aA (Ey N) Tryz.f22 [] (cuts := []) trivial (by decide +kernel) (by kernel_rfl) (D2 N) (mP N) (fun _ => rfl) (fun _ _ => rfl) (fun f x => by kernel_rfl) k
@[reducible] def w22 : List SP := [⟨[.sl 0], [.row (.bool) 4]⟩]
noncomputable def F22 (N : Nat) : (ByteArray) → Option ((List Bool))
  | x0 =>
  Option.bind (mP N N ((0 : Int), x0, [])) fun y0 =>
  some (y0)
noncomputable def T22 (N : Nat) : Pk → Tr Pk := ak s22 w22 (F22 N)
theorem Yh (N : Nat) : aO Tryz.prog 22 (T22 N) :=
  (ah ai aA (Ey N) Tryz.func22 s22 w22 [] (cuts := [(58, IM.cut (mP N N))]) ⟨NR N N, trivial⟩ (fun _ => by kernel_rfl) (by kernel_rfl) (F22 N) (fun x => by kernel_rfl))
@[reducible] def s51 : SP := ⟨[.ro (.bool)], []⟩
noncomputable def Z5 (N : Nat) : av := []
theorem Es (N : Nat) : aj Tryz.prog (Z5 N) := trivial
@[reducible] def IJ : LD := ⟨58, [3, 4, 0], [(.ret, [2]), (.exit 0, [3])], ⟨[.int .i64, .int .i64, .ro (.bool)], []⟩, [(.exit 0, ⟨[.int .i64], []⟩)]⟩
abbrev Is : Type := Int × Int × (List Bool)
abbrev H7 : Type := Int
noncomputable def DY (N : Nat) (f : Is → Option H7) : Is → Option H7
  | (x0, x1, x2) =>
  ac (decide (x1 ≥ 0)) (
  ac (within x1 (List.length x2)) (
  Option.bind (x2[Int.toNat x1]?) fun y0 =>
  ac (y0) (
  Option.bind (f (IntKind.wrap .i64 (IntKind.wrap .i64 (x0 * 2) + 1), IntKind.wrap .i64 (x1 - 1), x2)) fun r => some r) (
  Option.bind (f (IntKind.wrap .i64 (x0 * 2), IntKind.wrap .i64 (x1 - 1), x2)) fun r => some r)) (
  none)) (
  some (x0))
noncomputable def mL (N : Nat) : Nat → Is → Option H7
  | 0, _ => none
  | k + 1, x => DY N (mL N k) x
theorem NO (N : Nat) (k : Nat) : ar Tryz.prog Tryz.f51 [] 58 (IJ.cut (mL N k)) :=
  IJ.loopT ai aA (Es N) Tryz.f51 [] (cuts := []) trivial (by decide +kernel) (by kernel_rfl) (DY N) (mL N) (fun _ => rfl) (fun _ _ => rfl) (fun f x => by kernel_rfl) k
@[reducible] def w51 : List SP := [⟨[.int .i64], []⟩]
noncomputable def YG (N : Nat) : ((List Bool)) → Option (Int)
  | x0 =>
  Option.bind (mL N N ((0 : Int), IntKind.wrap .i64 ((↑(List.length x0) : Int) - (1 : Int)), x0)) fun y0 =>
  some (y0)
noncomputable def T51 (N : Nat) : Pk → Tr Pk := ak s51 w51 (YG N)
theorem Rl (N : Nat) : aO Tryz.prog 51 (T51 N) :=
  (ah ai aA (Es N) Tryz.func51 s51 w51 [] (cuts := [(58, IJ.cut (mL N N))]) ⟨NO N N, trivial⟩ (fun _ => by kernel_rfl) (by kernel_rfl) (YG N) (fun x => by kernel_rfl))
@[reducible] def s23 : SP := ⟨[.adr 0 [], .int .i64], [.var (.agg [.sl 1, .int .i64, .int .i64]), .row (.bool) 4]⟩
noncomputable def ab8 (N : Nat) : av := [(50, T50 N), (51, T51 N)]
theorem O2 (N : Nat) : aj Tryz.prog (ab8 N) := ⟨Rm N, Rl N, trivial⟩
@[reducible] def w23 : List SP := [⟨[.int .i64], [.var (.agg [.sl 1, .int .i64, .int .i64]), .row (.bool) 4]⟩]
noncomputable def Ar (N : Nat) : (Int × Int × Int × (List Bool)) → Option (Int × Int × Int × (List Bool))
  | (x0, x1, x2, x3) =>
  Option.bind (F50 N x0) fun y0 =>
  ac (x2 == 0) (
  ac (decide (y0 > IntKind.wrap .i64 ((↑(List.length x3) : Int) - x1))) (
  some (((0 : Int), x1, (2 : Int), x3))) (
  ac (x2 != 0) (
  some (((0 : Int), x1, x2, x3))) (
  ac (decide ((0 : Int) ≤ IntKind.wrap .i64 (x1 + y0) ∧ IntKind.wrap .i64 (x1 + y0) ≤ (↑(List.length x3) : Int))) (
  ac (decide ((0 : Int) ≤ IntKind.wrap .i64 (IntKind.wrap .i64 (x1 + y0) - y0) ∧ IntKind.wrap .i64 (IntKind.wrap .i64 (x1 + y0) - y0) ≤ (↑(Int.toNat (IntKind.wrap .i64 (x1 + y0))) : Int))) (
  Option.bind (YG N (List.take (Int.toNat (IntKind.wrap .i64 (x1 + y0)) - Int.toNat (IntKind.wrap .i64 (IntKind.wrap .i64 (x1 + y0) - y0))) (List.drop (Int.toNat (IntKind.wrap .i64 (IntKind.wrap .i64 (x1 + y0) - y0))) x3))) fun y1 =>
  some ((y1, IntKind.wrap .i64 (x1 + y0), x2, x3))) (
  none)) (
  none)))) (
  ac (x2 != 0) (
  some (((0 : Int), x1, x2, x3))) (
  ac (decide ((0 : Int) ≤ IntKind.wrap .i64 (x1 + y0) ∧ IntKind.wrap .i64 (x1 + y0) ≤ (↑(List.length x3) : Int))) (
  ac (decide ((0 : Int) ≤ IntKind.wrap .i64 (IntKind.wrap .i64 (x1 + y0) - y0) ∧ IntKind.wrap .i64 (IntKind.wrap .i64 (x1 + y0) - y0) ≤ (↑(Int.toNat (IntKind.wrap .i64 (x1 + y0))) : Int))) (
  Option.bind (YG N (List.take (Int.toNat (IntKind.wrap .i64 (x1 + y0)) - Int.toNat (IntKind.wrap .i64 (IntKind.wrap .i64 (x1 + y0) - y0))) (List.drop (Int.toNat (IntKind.wrap .i64 (IntKind.wrap .i64 (x1 + y0) - y0))) x3))) fun y2 =>
  some ((y2, IntKind.wrap .i64 (x1 + y0), x2, x3))) (
  none)) (
  none)))
noncomputable def YZ (N : Nat) : Pk → Tr Pk := ak s23 w23 (Ar N)
theorem wl (N : Nat) : aO Tryz.prog 23 (YZ N) :=
  (ah ai aA (O2 N) Tryz.func23 s23 w23 [0] (cuts := []) trivial (fun _ => by kernel_rfl) (by kernel_rfl) (Ar N) (fun x => by kernel_rfl))
@[reducible] def y5 : Ty := (.cons (.sl .bool) (.cons (.int .i64) (.cons (.int .i64) .unit)))
@[reducible] def s133 : SP := ⟨[.radr y5 [.i 0 3]], []⟩
noncomputable def WK (N : Nat) : av := []
theorem Lp (N : Nat) : aj Tryz.prog (WK N) := trivial
@[reducible] def w133 : List SP := [⟨[.int .i64], []⟩]
noncomputable def I9 (N : Nat) : (((List Bool) × (Int × (Int × Unit)))) → Option (Int)
  | x0 =>
  some (Int.tmod (IntKind.wrap .i64 ((8 : Int) - Int.tmod x0.2.1 (8 : Int))) (8 : Int))
noncomputable def ak1 (N : Nat) : Pk → Tr Pk := ak s133 w133 (I9 N)
theorem UH (N : Nat) : aO Tryz.prog 133 (ak1 N) :=
  (ah ai aA (Lp N) Tryz.func133 s133 w133 [] (cuts := []) trivial (fun _ => by kernel_rfl) (by kernel_rfl) (I9 N) (fun x => by kernel_rfl))
@[reducible] def s49 : SP := ⟨[.sl 0], [.row (.bool) 4]⟩
noncomputable def Z7 (N : Nat) : av := []
theorem Et (N : Nat) : aj Tryz.prog (Z7 N) := trivial
@[reducible] def IK : LD := ⟨12, [0], [(.ret, [2]), (.exit 0, [0])], ⟨[.sl 0], [.row (.bool) 4]⟩, [(.exit 0, ⟨[.sl 0], [.row (.bool) 4]⟩)]⟩
abbrev It : Type := (List Bool)
abbrev H8 : Type := (List Bool)
noncomputable def DZ (N : Nat) (f : It → Option H8) : It → Option H8
  | x0 =>
  ac (Int.tmod (↑(List.length x0) : Int) (8 : Int) != (0 : Int)) (
  ac (decide ((List.length x0 + 1) * 1 ≤ (140737488355328 : Nat) ∧ List.length x0 + 1 ≤ (140737488355328 : Nat))) (
  Option.bind (f (x0 ++ [false])) fun r => some r) (
  none)) (
  some (x0))
noncomputable def mM (N : Nat) : Nat → It → Option H8
  | 0, _ => none
  | k + 1, x => DZ N (mM N k) x
theorem NP (N : Nat) (k : Nat) : ar Tryz.prog Tryz.f49 [] 12 (IK.cut (mM N k)) :=
  IK.loopT ai aA (Et N) Tryz.f49 [] (cuts := []) trivial (by decide +kernel) (by kernel_rfl) (DZ N) (mM N) (fun _ => rfl) (fun _ _ => rfl) (fun f x => by kernel_rfl) k
@[reducible] def w49 : List SP := [⟨[.sl 0], [.row (.bool) 4]⟩]
noncomputable def F49 (N : Nat) : ((List Bool)) → Option ((List Bool))
  | x0 =>
  Option.bind (mM N N x0) fun y0 =>
  some (y0)
noncomputable def T49 (N : Nat) : Pk → Tr Pk := ak s49 w49 (F49 N)
theorem X4 (N : Nat) : aO Tryz.prog 49 (T49 N) :=
  (ah ai aA (Et N) Tryz.func49 s49 w49 [] (cuts := [(12, IK.cut (mM N N))]) ⟨NP N N, trivial⟩ (fun _ => by kernel_rfl) (by kernel_rfl) (F49 N) (fun x => by kernel_rfl))
@[reducible] def s20 : SP := ⟨[.ro (.bool)], []⟩
noncomputable def ac1 (N : Nat) : av := [(49, T49 N), (51, T51 N)]
theorem Ez (N : Nat) : aj Tryz.prog (ac1 N) := ⟨X4 N, Rl N, trivial⟩
@[reducible] def Dd : LD := ⟨506, [4, 5, 3], [(.ret, [2]), (.exit 0, [4])], ⟨[.str, .int .i64, .sl 0], [.row (.bool) 4]⟩, [(.exit 0, ⟨[.str], []⟩)]⟩
abbrev CI : Type := ByteArray × Int × (List Bool)
abbrev Cb : Type := ByteArray
noncomputable def ud (N : Nat) (f : CI → Option Cb) : CI → Option Cb
  | (x0, x1, x2) =>
  ac (decide (x1 < (↑(List.length x2) : Int))) (
  ac (decide ((0 : Int) ≤ IntKind.wrap .i64 (x1 + 8) ∧ IntKind.wrap .i64 (x1 + 8) ≤ (↑(List.length x2) : Int))) (
  ac (decide ((0 : Int) ≤ x1 ∧ x1 ≤ (↑(Int.toNat (IntKind.wrap .i64 (x1 + 8))) : Int))) (
  Option.bind (YG N (List.take (Int.toNat (IntKind.wrap .i64 (x1 + 8)) - Int.toNat x1) (List.drop (Int.toNat x1) x2))) fun y0 =>
  ac (decide ((↑(ByteArray.size x0 + ByteArray.size (aI [IntKind.wrap .u8 y0])) : Int) > (9223372036854775807 : Int))) (
  none) (
  Option.bind (f (x0 ++ aI [IntKind.wrap .u8 y0], IntKind.wrap .i64 (x1 + 8), x2)) fun r => some r)) (
  none)) (
  none)) (
  some (x0))
noncomputable def iW (N : Nat) : Nat → CI → Option Cb
  | 0, _ => none
  | k + 1, x => ud N (iW N k) x
theorem Jq (N : Nat) (k : Nat) : ar Tryz.prog Tryz.f20 [] 506 (Dd.cut (iW N k)) :=
  Dd.loopT ai aA (Ez N) Tryz.f20 [] (cuts := []) trivial (by decide +kernel) (by kernel_rfl) (ud N) (iW N) (fun _ => rfl) (fun _ _ => rfl) (fun f x => by kernel_rfl) k
@[reducible] def w20 : List SP := [⟨[.str], []⟩]
noncomputable def Zg (N : Nat) : ((List Bool)) → Option (ByteArray)
  | x0 =>
  ac (decide (((0 : Nat) + List.length x0) * 1 ≤ (140737488355328 : Nat) ∧ (0 : Nat) + List.length x0 ≤ 140737488355328)) (
  Option.bind (F49 N x0) fun y0 =>
  Option.bind (iW N N (ByteArray.mk #[], (0 : Int), y0)) fun y1 =>
  some (y1)) (
  none)
noncomputable def T20 (N : Nat) : Pk → Tr Pk := ak s20 w20 (Zg N)
theorem Yj (N : Nat) : aO Tryz.prog 20 (T20 N) :=
  (ah ai aA (Ez N) Tryz.func20 s20 w20 [] (cuts := [(506, Dd.cut (iW N N))]) ⟨Jq N N, trivial⟩ (fun _ => by kernel_rfl) (by kernel_rfl) (Zg N) (fun x => by kernel_rfl))
@[reducible] def s105 : SP := ⟨[.adr 0 [], .int .i64], [.var (.agg [.sl 1, .int .i64, .int .i64]), .row (.bool) 4]⟩
noncomputable def W8 (N : Nat) : av := [(133, ak1 N), (20, T20 N)]
theorem LG (N : Nat) : aj Tryz.prog (W8 N) := ⟨UH N, Yj N, trivial⟩
@[reducible] def w105 : List SP := [⟨[.str], [.var (.agg [.sl 1, .int .i64, .int .i64]), .row (.bool) 4]⟩]
noncomputable def Nx (N : Nat) : (Int × Int × Int × (List Bool)) → Option (ByteArray × Int × Int × (List Bool))
  | (x0, x1, x2, x3) =>
  ac (x2 == 0) (
  Option.bind (I9 N (x3, x1, x2, ())) fun y0 =>
  ac (decide ((if (0 : Int) > x0 then (0 : Int) else x0) > IntKind.wrap .i64 (Int.tdiv (IntKind.wrap .i64 (IntKind.wrap .i64 ((↑(List.length x3) : Int) - x1) - y0)) (8 : Int)))) (
  some ((ByteArray.mk #[], x1, (2 : Int), x3))) (
  ac (x2 != 0) (
  some ((ByteArray.mk #[], x1, x2, x3))) (
  Option.bind (I9 N (x3, x1, x2, ())) fun y1 =>
  ac (decide ((0 : Int) ≤ IntKind.wrap .i64 (IntKind.wrap .i64 (x1 + y1) + IntKind.wrap .i64 ((8 : Int) * if (0 : Int) > x0 then (0 : Int) else x0)) ∧ IntKind.wrap .i64 (IntKind.wrap .i64 (x1 + y1) + IntKind.wrap .i64 ((8 : Int) * if (0 : Int) > x0 then (0 : Int) else x0)) ≤ (↑(List.length x3) : Int))) (
  ac (decide ((0 : Int) ≤ IntKind.wrap .i64 (IntKind.wrap .i64 (IntKind.wrap .i64 (x1 + y1) + IntKind.wrap .i64 ((8 : Int) * if (0 : Int) > x0 then (0 : Int) else x0)) - IntKind.wrap .i64 ((8 : Int) * if (0 : Int) > x0 then (0 : Int) else x0)) ∧ IntKind.wrap .i64 (IntKind.wrap .i64 (IntKind.wrap .i64 (x1 + y1) + IntKind.wrap .i64 ((8 : Int) * if (0 : Int) > x0 then (0 : Int) else x0)) - IntKind.wrap .i64 ((8 : Int) * if (0 : Int) > x0 then (0 : Int) else x0)) ≤ (↑(Int.toNat (IntKind.wrap .i64 (IntKind.wrap .i64 (x1 + y1) + IntKind.wrap .i64 ((8 : Int) * if (0 : Int) > x0 then (0 : Int) else x0)))) : Int))) (
  Option.bind (Zg N (List.take (Int.toNat (IntKind.wrap .i64 (IntKind.wrap .i64 (x1 + y1) + IntKind.wrap .i64 ((8 : Int) * if (0 : Int) > x0 then (0 : Int) else x0))) - Int.toNat (IntKind.wrap .i64 (IntKind.wrap .i64 (IntKind.wrap .i64 (x1 + y1) + IntKind.wrap .i64 ((8 : Int) * if (0 : Int) > x0 then (0 : Int) else x0)) - IntKind.wrap .i64 ((8 : Int) * if (0 : Int) > x0 then (0 : Int) else x0)))) (List.drop (Int.toNat (IntKind.wrap .i64 (IntKind.wrap .i64 (IntKind.wrap .i64 (x1 + y1) + IntKind.wrap .i64 ((8 : Int) * if (0 : Int) > x0 then (0 : Int) else x0)) - IntKind.wrap .i64 ((8 : Int) * if (0 : Int) > x0 then (0 : Int) else x0)))) x3))) fun y2 =>
  some ((y2, IntKind.wrap .i64 (IntKind.wrap .i64 (x1 + y1) + IntKind.wrap .i64 ((8 : Int) * if (0 : Int) > x0 then (0 : Int) else x0)), x2, x3))) (
  none)) (
  none)))) (
  ac (x2 != 0) (
  some ((ByteArray.mk #[], x1, x2, x3))) (
  Option.bind (I9 N (x3, x1, x2, ())) fun y3 =>
  ac (decide ((0 : Int) ≤ IntKind.wrap .i64 (IntKind.wrap .i64 (x1 + y3) + IntKind.wrap .i64 ((8 : Int) * if (0 : Int) > x0 then (0 : Int) else x0)) ∧ IntKind.wrap .i64 (IntKind.wrap .i64 (x1 + y3) + IntKind.wrap .i64 ((8 : Int) * if (0 : Int) > x0 then (0 : Int) else x0)) ≤ (↑(List.length x3) : Int))) (
  ac (decide ((0 : Int) ≤ IntKind.wrap .i64 (IntKind.wrap .i64 (IntKind.wrap .i64 (x1 + y3) + IntKind.wrap .i64 ((8 : Int) * if (0 : Int) > x0 then (0 : Int) else x0)) - IntKind.wrap .i64 ((8 : Int) * if (0 : Int) > x0 then (0 : Int) else x0)) ∧ IntKind.wrap .i64 (IntKind.wrap .i64 (IntKind.wrap .i64 (x1 + y3) + IntKind.wrap .i64 ((8 : Int) * if (0 : Int) > x0 then (0 : Int) else x0)) - IntKind.wrap .i64 ((8 : Int) * if (0 : Int) > x0 then (0 : Int) else x0)) ≤ (↑(Int.toNat (IntKind.wrap .i64 (IntKind.wrap .i64 (x1 + y3) + IntKind.wrap .i64 ((8 : Int) * if (0 : Int) > x0 then (0 : Int) else x0)))) : Int))) (
  Option.bind (Zg N (List.take (Int.toNat (IntKind.wrap .i64 (IntKind.wrap .i64 (x1 + y3) + IntKind.wrap .i64 ((8 : Int) * if (0 : Int) > x0 then (0 : Int) else x0))) - Int.toNat (IntKind.wrap .i64 (IntKind.wrap .i64 (IntKind.wrap .i64 (x1 + y3) + IntKind.wrap .i64 ((8 : Int) * if (0 : Int) > x0 then (0 : Int) else x0)) - IntKind.wrap .i64 ((8 : Int) * if (0 : Int) > x0 then (0 : Int) else x0)))) (List.drop (Int.toNat (IntKind.wrap .i64 (IntKind.wrap .i64 (IntKind.wrap .i64 (x1 + y3) + IntKind.wrap .i64 ((8 : Int) * if (0 : Int) > x0 then (0 : Int) else x0)) - IntKind.wrap .i64 ((8 : Int) * if (0 : Int) > x0 then (0 : Int) else x0)))) x3))) fun y4 =>
  some ((y4, IntKind.wrap .i64 (IntKind.wrap .i64 (x1 + y3) + IntKind.wrap .i64 ((8 : Int) * if (0 : Int) > x0 then (0 : Int) else x0)), x2, x3))) (
  none)) (
  none)))
noncomputable def am0 (N : Nat) : Pk → Tr Pk := ak s105 w105 (Nx N)
theorem U0 (N : Nat) : aO Tryz.prog 105 (am0 N) :=
  (ah ai aA (LG N) Tryz.func105 s105 w105 [0] (cuts := []) trivial (fun _ => by kernel_rfl) (by kernel_rfl) (Nx N) (fun x => by kernel_rfl))
@[reducible] def s72 : SP := ⟨[.adr 0 [], .int .i64], [.var (.agg [.sl 1, .int .i64, .int .i64]), .row (.bool) 4]⟩
noncomputable def ZJ (N : Nat) : av := [(105, am0 N)]
theorem OE (N : Nat) : aj Tryz.prog (ZJ N) := ⟨U0 N, trivial⟩
@[reducible] def w72 : List SP := [⟨[.tup [.str, .int .i64]], [.var (.agg [.sl 1, .int .i64, .int .i64]), .row (.bool) 4]⟩]
noncomputable def F72 (N : Nat) : (Int × Int × Int × (List Bool)) → Option (ByteArray × Int × Int × Int × (List Bool))
  | (x0, x1, x2, x3) =>
  Option.bind (Nx N ((4 : Int), x1, x2, x3)) fun y0 =>
  ac (y0.2.2.1 != 0) (
  some ((ByteArray.mk #[], y0.2.2.1, y0.2.1, y0.2.2.1, y0.2.2.2))) (
  Option.bind (y0.1[(0 : Nat)]?) fun y1 =>
  Option.bind (y0.1[(1 : Nat)]?) fun y2 =>
  Option.bind (y0.1[(2 : Nat)]?) fun y3 =>
  Option.bind (y0.1[(3 : Nat)]?) fun y4 =>
  ac (IntKind.wrap .i64 (IntKind.wrap .i64 (IntKind.wrap .i64 (↑(UInt8.toNat y1) : Int) + IntKind.wrap .i64 ((256 : Int) * IntKind.wrap .i64 (↑(UInt8.toNat y2) : Int))) + IntKind.wrap .i64 (IntKind.wrap .i64 (↑(UInt8.toNat y3) : Int) + IntKind.wrap .i64 ((256 : Int) * IntKind.wrap .i64 (↑(UInt8.toNat y4) : Int)))) != 65535) (
  some ((ByteArray.mk #[], (80 : Int), y0.2.1, y0.2.2.1, y0.2.2.2))) (
  ac (IntKind.wrap .i64 (↑(BitVec.toNat (BitVec.ofInt (64 : Nat) (IntKind.wrap .i64 (IntKind.wrap .i64 (↑(UInt8.toNat y1) : Int) + IntKind.wrap .i64 ((256 : Int) * IntKind.wrap .i64 (↑(UInt8.toNat y2) : Int)))) ^^^ BitVec.ofInt (64 : Nat) (IntKind.wrap .i64 (IntKind.wrap .i64 (↑(UInt8.toNat y3) : Int) + IntKind.wrap .i64 ((256 : Int) * IntKind.wrap .i64 (↑(UInt8.toNat y4) : Int)))))) : Int) != (65535 : Int)) (
  some ((ByteArray.mk #[], (80 : Int), y0.2.1, y0.2.2.1, y0.2.2.2))) (
  ac (decide (IntKind.wrap .i64 (IntKind.wrap .i64 (↑(UInt8.toNat y1) : Int) + IntKind.wrap .i64 ((256 : Int) * IntKind.wrap .i64 (↑(UInt8.toNat y2) : Int))) > x0)) (
  some ((ByteArray.mk #[], (4 : Int), y0.2.1, y0.2.2.1, y0.2.2.2))) (
  Option.bind (Nx N (IntKind.wrap .i64 (IntKind.wrap .i64 (↑(UInt8.toNat y1) : Int) + IntKind.wrap .i64 ((256 : Int) * IntKind.wrap .i64 (↑(UInt8.toNat y2) : Int))), y0.2.1, y0.2.2.1, y0.2.2.2)) fun y5 =>
  some ((y5.1, y5.2.2.1, y5.2.1, y5.2.2.1, y5.2.2.2))))))
noncomputable def T72 (N : Nat) : Pk → Tr Pk := ak s72 w72 (F72 N)
theorem XQ (N : Nat) : aO Tryz.prog 72 (T72 N) :=
  (ah ai aA (OE N) Tryz.func72 s72 w72 [0] (cuts := []) trivial (fun _ => by kernel_rfl) (by kernel_rfl) (F72 N) (fun x => by kernel_rfl))
@[reducible] def s73 : SP := ⟨[], []⟩
noncomputable def ZI (N : Nat) : av := []
theorem pr (N : Nat) : aj Tryz.prog (ZI N) := trivial
@[reducible] def mA : LD := ⟨7827, [5, 2, 4, 3], [(.ret, [0, 1]), (.exit 1, [4, 2, 3]), (.exit 0, [3, 2]), (.normal, [4, 2, 3])], ⟨[.int .i64, .sl 0, .int .i64, .sl 1], [.row (.int .i64) 3, .row (.int .i64) 3]⟩, [(.normal, ⟨[.int .i64, .sl 0, .sl 1], [.row (.int .i64) 3, .row (.int .i64) 3]⟩)]⟩
noncomputable def fQ (N : Nat) : (Int × Int × (List Int) × (List Int)) → Option (Int × (List Int) × (List Int))
  | (x0, x1, x2, x3) =>
  ac (decide (x1 ≥ 256)) (
  ac (decide (x1 ≤ 279)) (
  ac (decide ((List.length x2 + 1) * 8 ≤ (140737488355328 : Nat) ∧ List.length x2 + 1 ≤ (140737488355328 : Nat))) (
  some ((x1, x2 ++ [(7 : Int)], x3))) (
  none)) (
  ac (decide ((List.length x2 + List.length [x0]) * 8 ≤ (140737488355328 : Nat) ∧ List.length x2 + List.length [x0] ≤ 140737488355328)) (
  some ((x1, x2 ++ [x0], x3))) (
  none))) (
  ac (decide ((List.length x2 + List.length [x0]) * 8 ≤ (140737488355328 : Nat) ∧ List.length x2 + List.length [x0] ≤ 140737488355328)) (
  some ((x1, x2 ++ [x0], x3))) (
  none))
theorem mV (N : Nat) (k : Nat) : ar Tryz.prog Tryz.f73 [] 7827 (mA.cut (fQ N)) :=
  mA.pieceT ai aA (pr N) Tryz.f73 [] (cuts := []) trivial (by decide +kernel) (by kernel_rfl) (fQ N) (fun x => by kernel_rfl)
@[reducible] def tP : LD := ⟨122, [2, 4, 3], [(.ret, [0, 1]), (.exit 0, [3, 2])], ⟨[.sl 0, .int .i64, .sl 1], [.row (.int .i64) 3, .row (.int .i64) 3]⟩, [(.exit 0, ⟨[.sl 0, .sl 1], [.row (.int .i64) 3, .row (.int .i64) 3]⟩)]⟩
abbrev Cv : Type := Int × (List Int) × (List Int)
abbrev BQ : Type := (List Int) × (List Int)
noncomputable def KH (N : Nat) (f : Cv → Option BQ) : Cv → Option BQ
  | (x0, x1, x2) =>
  ac (decide (x0 < 288)) (
  ac (decide (x0 ≥ 144)) (
  ac (decide (x0 ≤ 255)) (
  Option.bind (fQ N ((9 : Int), x0, x1, x2)) fun y0 =>
  Option.bind (f (IntKind.wrap .i64 (y0.1 + 1), y0.2.1, y0.2.2)) fun r => some r) (
  Option.bind (fQ N ((8 : Int), x0, x1, x2)) fun y1 =>
  Option.bind (f (IntKind.wrap .i64 (y1.1 + 1), y1.2.1, y1.2.2)) fun r => some r)) (
  Option.bind (fQ N ((8 : Int), x0, x1, x2)) fun y2 =>
  Option.bind (f (IntKind.wrap .i64 (y2.1 + 1), y2.2.1, y2.2.2)) fun r => some r)) (
  some ((x2, x1)))
noncomputable def nO (N : Nat) : Nat → Cv → Option BQ
  | 0, _ => none
  | k + 1, x => KH N (nO N k) x
theorem yq (N : Nat) (k : Nat) : ar Tryz.prog Tryz.f73 [] 122 (tP.cut (nO N k)) :=
  tP.loopT ai aA (pr N) Tryz.f73 [] (cuts := [(7827, mA.cut (fQ N))]) ⟨mV N N, trivial⟩ (by decide +kernel) (by kernel_rfl) (KH N) (nO N) (fun _ => rfl) (fun _ _ => rfl) (fun f x => by kernel_rfl) k
@[reducible] def C2 : LD := ⟨250, [3, 6, 2], [(.ret, [0, 1]), (.exit 2, [2, 3])], ⟨[.sl 0, .int .i64, .sl 1], [.row (.int .i64) 3, .row (.int .i64) 3]⟩, [(.exit 2, ⟨[.sl 0, .sl 1], [.row (.int .i64) 3, .row (.int .i64) 3]⟩)]⟩
abbrev Cu : Type := Int × (List Int) × (List Int)
abbrev BP : Type := (List Int) × (List Int)
noncomputable def KG (N : Nat) (f : Cu → Option BP) : Cu → Option BP
  | (x0, x1, x2) =>
  ac (decide (x0 < 30)) (
  ac (decide ((List.length x1 + 1) * 8 ≤ (140737488355328 : Nat) ∧ List.length x1 + 1 ≤ (140737488355328 : Nat))) (
  Option.bind (f (IntKind.wrap .i64 (x0 + 1), x1 ++ [(5 : Int)], x2)) fun r => some r) (
  none)) (
  some ((x2, x1)))
noncomputable def qm (N : Nat) : Nat → Cu → Option BP
  | 0, _ => none
  | k + 1, x => KG N (qm N k) x
theorem Jh (N : Nat) (k : Nat) : ar Tryz.prog Tryz.f73 [] 250 (C2.cut (qm N k)) :=
  C2.loopT ai aA (pr N) Tryz.f73 [] (cuts := [(7827, mA.cut (fQ N)), (122, tP.cut (nO N N))]) ⟨mV N N, yq N N, trivial⟩ (by decide +kernel) (by kernel_rfl) (KG N) (qm N) (fun _ => rfl) (fun _ _ => rfl) (fun f x => by kernel_rfl) k
@[reducible] def w73 : List SP := [⟨[.tup [.sl 0, .sl 1]], [.row (.int .i64) 3, .row (.int .i64) 3]⟩]
noncomputable def F73 (N : Nat) : (Unit) → Option ((List Int) × (List Int))
  | () =>
  Option.bind (nO N N ((0 : Int), [], [])) fun y0 =>
  Option.bind (qm N N ((0 : Int), y0.1, y0.2)) fun y1 =>
  some ((y1.1, y1.2))
noncomputable def T73 (N : Nat) : Pk → Tr Pk := ak s73 w73 (F73 N)
theorem XP (N : Nat) : aO Tryz.prog 73 (T73 N) :=
  (ah ai aA (pr N) Tryz.func73 s73 w73 [] (cuts := [(7827, mA.cut (fQ N)), (122, tP.cut (nO N N)), (250, C2.cut (qm N N))]) ⟨mV N N, yq N N, Jh N N, trivial⟩ (fun _ => by kernel_rfl) (by kernel_rfl) (F73 N) (fun x => by kernel_rfl))
@[reducible] def s60 : SP := ⟨[], []⟩
noncomputable def ZV (N : Nat) : av := []
theorem OK (N : Nat) : aj Tryz.prog (ZV N) := trivial
@[reducible] def w60 : List SP := [⟨[.sl 0], [.row (.int .i64) 3]⟩]
noncomputable def F60 (N : Nat) : (Unit) → Option ((List Int))
  | () =>
  some ([(16 : Int), (17 : Int), (18 : Int), (0 : Int), (8 : Int), (7 : Int), (9 : Int), (6 : Int), (10 : Int), (5 : Int), (11 : Int), (4 : Int), (12 : Int), (3 : Int), (13 : Int), (2 : Int), (14 : Int), (1 : Int), (15 : Int)])
noncomputable def T60 (N : Nat) : Pk → Tr Pk := ak s60 w60 (F60 N)
theorem XZ (N : Nat) : aO Tryz.prog 60 (T60 N) :=
  (ah ai aA (OK N) Tryz.func60 s60 w60 [] (cuts := []) trivial (fun _ => by kernel_rfl) (by kernel_rfl) (F60 N) (fun x => by kernel_rfl))
@[reducible] def s99 : SP := ⟨[.int .i64], []⟩
noncomputable def Zm (N : Nat) : av := []
theorem Ee (N : Nat) : aj Tryz.prog (Zm N) := trivial
@[reducible] def Iz : LD := ⟨58, [3, 4, 0], [(.ret, [2]), (.exit 0, [3])], ⟨[.int .i64, .int .i64, .int .i64], []⟩, [(.exit 0, ⟨[.int .i64], []⟩)]⟩
abbrev Ig : Type := Int × Int × Int
abbrev HW : Type := Int
noncomputable def DK (N : Nat) (f : Ig → Option HW) : Ig → Option HW
  | (x0, x1, x2) =>
  ac (decide (x1 < x2)) (
  Option.bind (f (IntKind.wrap .i64 (x0 * 2), IntKind.wrap .i64 (x1 + 1), x2)) fun r => some r) (
  some (x0))
noncomputable def mE (N : Nat) : Nat → Ig → Option HW
  | 0, _ => none
  | k + 1, x => DK N (mE N k) x
theorem ND (N : Nat) (k : Nat) : ar Tryz.prog Tryz.f99 [] 58 (Iz.cut (mE N k)) :=
  Iz.loopT ai aA (Ee N) Tryz.f99 [] (cuts := []) trivial (by decide +kernel) (by kernel_rfl) (DK N) (mE N) (fun _ => rfl) (fun _ _ => rfl) (fun f x => by kernel_rfl) k
@[reducible] def w99 : List SP := [⟨[.int .i64], []⟩]
noncomputable def Y0 (N : Nat) : (Int) → Option (Int)
  | x0 =>
  Option.bind (mE N N ((1 : Int), (0 : Int), x0)) fun y0 =>
  some (y0)
noncomputable def T99 (N : Nat) : Pk → Tr Pk := ak s99 w99 (Y0 N)
theorem QX (N : Nat) : aO Tryz.prog 99 (T99 N) :=
  (ah ai aA (Ee N) Tryz.func99 s99 w99 [] (cuts := [(58, Iz.cut (mE N N))]) ⟨ND N N, trivial⟩ (fun _ => by kernel_rfl) (by kernel_rfl) (Y0 N) (fun x => by kernel_rfl))
@[reducible] def s61 : SP := ⟨[.ro (.int .i64)], []⟩
noncomputable def ZU (N : Nat) : av := [(99, T99 N)]
theorem Ep (N : Nat) : aj Tryz.prog (ZU N) := ⟨QX N, trivial⟩
@[reducible] def C6 : LD := ⟨122, [0, 5, 4], [(.ret, [2, 3]), (.exit 0, [4])], ⟨[.ro (.int .i64), .int .i64, .int .i64], []⟩, [(.ret, ⟨[.int .i64, .int .i64], []⟩), (.exit 0, ⟨[.int .i64], []⟩)]⟩
abbrev Cz : Type := (List Int) × Int × Int
abbrev BU : Type := ((Int × Int) ⊕ (Int))
noncomputable def t6 (N : Nat) (f : Cz → Option BU) : Cz → Option BU
  | (x0, x1, x2) =>
  ac (decide (x1 < (↑(List.length x0) : Int))) (
  ac (within x1 (List.length x0)) (
  Option.bind (x0[Int.toNat x1]?) fun y0 =>
  ac (decide (y0 < 0)) (
  some (.inl (((0 : Int), (50 : Int))))) (
  ac (within x1 (List.length x0)) (
  Option.bind (x0[Int.toNat x1]?) fun y1 =>
  ac (decide (y1 > 15)) (
  some (.inl (((0 : Int), (50 : Int))))) (
  ac (within x1 (List.length x0)) (
  Option.bind (x0[Int.toNat x1]?) fun y2 =>
  ac (decide (y2 > 0)) (
  ac (within x1 (List.length x0)) (
  Option.bind (x0[Int.toNat x1]?) fun y3 =>
  Option.bind (Y0 N (IntKind.wrap .i64 ((15 : Int) - y3))) fun y4 =>
  Option.bind (f (x0, IntKind.wrap .i64 (x1 + 1), IntKind.wrap .i64 (x2 - y4))) fun r => match r with | .inl y => some (.inl y) | .inr y => some (.inr y)) (
  none)) (
  Option.bind (f (x0, IntKind.wrap .i64 (x1 + 1), x2)) fun r => match r with | .inl y => some (.inl y) | .inr y => some (.inr y))) (
  none))) (
  none))) (
  none)) (
  some (.inr (x2)))
noncomputable def gD (N : Nat) : Nat → Cz → Option BU
  | 0, _ => none
  | k + 1, x => t6 N (gD N k) x
theorem Jk (N : Nat) (k : Nat) : ar Tryz.prog Tryz.f61 [] 122 (C6.cut (gD N k)) :=
  C6.loopT ai aA (Ep N) Tryz.f61 [] (cuts := []) trivial (by decide +kernel) (by kernel_rfl) (t6 N) (gD N) (fun _ => rfl) (fun _ _ => rfl) (fun f x => by kernel_rfl) k
@[reducible] def w61 : List SP := [⟨[.tup [.int .i64, .int .i64]], []⟩]
noncomputable def V4 (N : Nat) : ((List Int)) → Option (Int × Int)
  | x0 =>
  ac (decide ((↑(List.length x0) : Int) > (320 : Int))) (
  some (((0 : Int), (50 : Int)))) (
  Option.bind (gD N N (x0, (0 : Int), (32768 : Int))) fun y0 =>
  match y0 with
  | .inl y1 =>
  some ((y1.1, y1.2))
  | .inr y1 =>
  ac (decide (y1 < 0)) (
  some (((0 : Int), (50 : Int)))) (
  some ((y1, (0 : Int)))))
noncomputable def T61 (N : Nat) : Pk → Tr Pk := ak s61 w61 (V4 N)
theorem Rb (N : Nat) : aO Tryz.prog 61 (T61 N) :=
  (ah ai aA (Ep N) Tryz.func61 s61 w61 [] (cuts := [(122, C6.cut (gD N N))]) ⟨Jk N N, trivial⟩ (fun _ => by kernel_rfl) (by kernel_rfl) (V4 N) (fun x => by kernel_rfl))
@[reducible] def s62 : SP := ⟨[.ro (.int .i64)], []⟩
noncomputable def ZT (N : Nat) : av := []
theorem uw (N : Nat) : aj Tryz.prog (ZT N) := trivial
@[reducible] def nJ : LD := ⟨15654, [4, 6, 0, 3, 5], [(.ret, [2]), (.exit 2, [5, 4, 0, 3]), (.exit 1, [5, 4, 0, 3]), (.exit 0, [3])], ⟨[.int .i64, .int .i64, .ro (.int .i64), .sl 0, .int .i64], [.row y2 105]⟩, [(.exit 2, ⟨[.int .i64, .int .i64, .ro (.int .i64), .sl 0], [.row y2 105]⟩)]⟩
abbrev rR : Type := Int × Int × (List Int) × Int × (List (Int × (Int × Unit)))
abbrev rF : Type := Int × Int × (List Int) × (List (Int × (Int × Unit)))
noncomputable def nS (N : Nat) (f : rR → Option rF) : rR → Option rF
  | (x0, x1, x2, x3, x4) =>
  ac (decide (x1 < (↑(List.length x2) : Int))) (
  ac (within x1 (List.length x2)) (
  Option.bind (x2[Int.toNat x1]?) fun y0 =>
  ac (y0 == x3) (
  ac (within x1 (List.length x4)) (
  Option.bind (x4[Int.toNat x1]?) fun y1 =>
  Option.bind (f (IntKind.wrap .i64 (x0 + 1), IntKind.wrap .i64 (x1 + 1), x2, x3, List.set x4 (Int.toNat x1) (x0, x3, ()))) fun r => some r) (
  none)) (
  Option.bind (f (x0, IntKind.wrap .i64 (x1 + 1), x2, x3, x4)) fun r => some r)) (
  none)) (
  some ((x3, x0, x2, x4)))
noncomputable def dC (N : Nat) : Nat → rR → Option rF
  | 0, _ => none
  | k + 1, x => nS N (dC N k) x
theorem qt (N : Nat) (k : Nat) : ar Tryz.prog Tryz.f62 [] 15654 (nJ.cut (dC N k)) :=
  nJ.loopT ai aA (uw N) Tryz.f62 [] (cuts := []) trivial (by decide +kernel) (by kernel_rfl) (nS N) (dC N) (fun _ => rfl) (fun _ _ => rfl) (fun f x => by kernel_rfl) k
@[reducible] def C5 : LD := ⟨122, [4, 0, 3, 5], [(.ret, [2]), (.exit 0, [3])], ⟨[.int .i64, .ro (.int .i64), .sl 0, .int .i64], [.row y2 105]⟩, [(.exit 0, ⟨[.sl 0], [.row y2 105]⟩)]⟩
abbrev Cy : Type := Int × (List Int) × Int × (List (Int × (Int × Unit)))
abbrev BS : Type := (List (Int × (Int × Unit)))
noncomputable def tZ (N : Nat) (f : Cy → Option BS) : Cy → Option BS
  | (x0, x1, x2, x3) =>
  ac (decide (x2 ≤ 15)) (
  Option.bind (dC N N (IntKind.wrap .i64 (x0 * 2), (0 : Int), x1, x2, x3)) fun y0 =>
  Option.bind (f (y0.2.1, y0.2.2.1, IntKind.wrap .i64 (y0.1 + 1), y0.2.2.2)) fun r => some r) (
  some (x3))
noncomputable def iT (N : Nat) : Nat → Cy → Option BS
  | 0, _ => none
  | k + 1, x => tZ N (iT N k) x
theorem Jj (N : Nat) (k : Nat) : ar Tryz.prog Tryz.f62 [] 122 (C5.cut (iT N k)) :=
  C5.loopT ai aA (uw N) Tryz.f62 [] (cuts := [(15654, nJ.cut (dC N N))]) ⟨qt N N, trivial⟩ (by decide +kernel) (by kernel_rfl) (tZ N) (iT N) (fun _ => rfl) (fun _ _ => rfl) (fun f x => by kernel_rfl) k
@[reducible] def w62 : List SP := [⟨[.sl 0], [.row y2 105]⟩]
noncomputable def V3 (N : Nat) : ((List Int)) → Option ((List (Int × (Int × Unit))))
  | x0 =>
  ac (decide ((0 : Int) ≤ (↑(List.length x0) : Int) ∧ (↑(List.length x0) : Int) ≤ (↑(List.length x0) : Int) ∧ (↑(List.length x0) : Int) * (16 : Int) ≤ (140737488355328 : Int) ∧ (↑(List.length x0) : Int) ≤ (140737488355328 : Int))) (
  Option.bind (iT N N ((0 : Int), x0, (1 : Int), List.replicate (Int.toNat (↑(List.length x0) : Int)) ((0 : Int), (0 : Int), ()))) fun y0 =>
  some (y0)) (
  none)
noncomputable def T62 (N : Nat) : Pk → Tr Pk := ak s62 w62 (V3 N)
theorem Ra (N : Nat) : aO Tryz.prog 62 (T62 N) :=
  (ah ai aA (uw N) Tryz.func62 s62 w62 [] (cuts := [(15654, nJ.cut (dC N N)), (122, C5.cut (iT N N))]) ⟨qt N N, Jj N N, trivial⟩ (fun _ => by kernel_rfl) (by kernel_rfl) (V3 N) (fun x => by kernel_rfl))
@[reducible] def s157 : SP := ⟨[.agg [.int .i64, .int .i64], .int .i64], []⟩
noncomputable def Wp (N : Nat) : av := [(99, T99 N)]
theorem K4 (N : Nat) : aj Tryz.prog (Wp N) := ⟨QX N, trivial⟩
@[reducible] def w157 : List SP := [⟨[.bool], []⟩]
noncomputable def Ss (N : Nat) : (Int × Int × Int) → Option (Bool)
  | (x0, x1, x2) =>
  Option.bind (Y0 N (IntKind.wrap .i64 (IntKind.wrap .i64 (x1 - 1) - x2))) fun y0 =>
  ac (decide (y0 = (0 : Int))) (
  none) (
  some (Int.tmod (IntKind.wrap .i64 (Int.tdiv x0 y0)) (2 : Int) == (1 : Int)))
noncomputable def ai1 (N : Nat) : Pk → Tr Pk := ak s157 w157 (Ss N)
theorem Um (N : Nat) : aO Tryz.prog 157 (ai1 N) :=
  (ah ai aA (K4 N) Tryz.func157 s157 w157 [] (cuts := []) trivial (fun _ => by kernel_rfl) (by kernel_rfl) (Ss N) (fun x => by kernel_rfl))
@[reducible] def s129 : SP := ⟨[.agg [.int .i64, .int .i64], .ro (.bool)], []⟩
noncomputable def WN (N : Nat) : av := [(157, ai1 N)]
theorem zq (N : Nat) : aj Tryz.prog (WN N) := ⟨Um N, trivial⟩
@[reducible] def Dm : LD := ⟨58, [2, 1, 5], [(.ret, [4]), (.exit 0, [])], ⟨[.adr 0 [], .ro (.bool), .int .i64], [.var (.agg [.int .i64, .int .i64])]⟩, [(.ret, ⟨[.bool], []⟩), (.exit 0, ⟨[], []⟩)]⟩
abbrev CQ : Type := (List Bool) × Int × Int × Int
abbrev Cj : Type := ((Bool) ⊕ (Unit))
noncomputable def ui (N : Nat) (f : CQ → Option Cj) : CQ → Option Cj
  | (x0, x1, x2, x3) =>
  ac (decide (x1 < (↑(List.length x0) : Int))) (
  Option.bind (Ss N (x2, x3, x1)) fun y0 =>
  ac (within x1 (List.length x0)) (
  Option.bind (x0[Int.toNat x1]?) fun y1 =>
  ac (!y0 == y1) (
  some (.inl (false))) (
  Option.bind (f (x0, IntKind.wrap .i64 (x1 + 1), x2, x3)) fun r => match r with | .inl y => some (.inl y) | .inr y => some (.inr y))) (
  none)) (
  some (.inr (())))
noncomputable def gG (N : Nat) : Nat → CQ → Option Cj
  | 0, _ => none
  | k + 1, x => ui N (gG N k) x
theorem Jy (N : Nat) (k : Nat) : ar Tryz.prog Tryz.f129 [] 58 (Dm.cut (gG N k)) :=
  Dm.loopT ai aA (zq N) Tryz.f129 [] (cuts := []) trivial (by decide +kernel) (by kernel_rfl) (ui N) (gG N) (fun _ => rfl) (fun _ _ => rfl) (fun f x => by kernel_rfl) k
@[reducible] def w129 : List SP := [⟨[.bool], []⟩]
noncomputable def SB (N : Nat) : (Int × Int × (List Bool)) → Option (Bool)
  | (x0, x1, x2) =>
  ac (decide (x1 < (↑(List.length x2) : Int))) (
  some (false)) (
  Option.bind (gG N N (x2, (0 : Int), x0, x1)) fun y0 =>
  match y0 with
  | .inl y1 =>
  some (y1)
  | .inr y1 =>
  some (true))
noncomputable def ak2 (N : Nat) : Pk → Tr Pk := ak s129 w129 (SB N)
theorem UI (N : Nat) : aO Tryz.prog 129 (ak2 N) :=
  (ah ai aA (zq N) Tryz.func129 s129 w129 [] (cuts := [(58, Dm.cut (gG N N))]) ⟨Jy N N, trivial⟩ (fun _ => by kernel_rfl) (by kernel_rfl) (SB N) (fun x => by kernel_rfl))
@[reducible] def s100 : SP := ⟨[.ro y2, .ro (.bool)], []⟩
noncomputable def Xd (N : Nat) : av := [(129, ak2 N)]
theorem zx (N : Nat) : aj Tryz.prog (Xd N) := ⟨UI N, trivial⟩
@[reducible] def Dr : LD := ⟨58, [6, 5, 1, 0], [(.ret, [4]), (.exit 0, [5])], ⟨[.int .i64, .int .i64, .ro (.bool), .ro y2], []⟩, [(.ret, ⟨[.int .i64], []⟩), (.exit 0, ⟨[.int .i64], []⟩)]⟩
abbrev CX : Type := Int × Int × (List Bool) × (List (Int × (Int × Unit)))
abbrev Cp : Type := ((Int) ⊕ (Int))
noncomputable def ul (N : Nat) (f : CX → Option Cp) : CX → Option Cp
  | (x0, x1, x2, x3) =>
  ac (decide (x0 < (↑(List.length x3) : Int))) (
  ac (within x0 (List.length x3)) (
  Option.bind (x3[Int.toNat x0]?) fun y0 =>
  ac (y0.2.1 == 0) (
  Option.bind (f (IntKind.wrap .i64 (x0 + 1), x1, x2, x3)) fun r => match r with | .inl y => some (.inl y) | .inr y => some (.inr y)) (
  ac (within x0 (List.length x3)) (
  Option.bind (x3[Int.toNat x0]?) fun y1 =>
  Option.bind (SB N (y1.1, y1.2.1, x2)) fun y2 =>
  ac (y2) (
  ac (within x0 (List.length x3)) (
  Option.bind (x3[Int.toNat x0]?) fun y3 =>
  ac (y3.2.1 == (↑(List.length x2) : Int)) (
  some (.inl (x0))) (
  ac (y2) (
  Option.bind (f (IntKind.wrap .i64 (x0 + 1), (-1 : Int), x2, x3)) fun r => match r with | .inl y => some (.inl y) | .inr y => some (.inr y)) (
  Option.bind (f (IntKind.wrap .i64 (x0 + 1), x1, x2, x3)) fun r => match r with | .inl y => some (.inl y) | .inr y => some (.inr y)))) (
  none)) (
  ac (y2) (
  Option.bind (f (IntKind.wrap .i64 (x0 + 1), (-1 : Int), x2, x3)) fun r => match r with | .inl y => some (.inl y) | .inr y => some (.inr y)) (
  Option.bind (f (IntKind.wrap .i64 (x0 + 1), x1, x2, x3)) fun r => match r with | .inl y => some (.inl y) | .inr y => some (.inr y)))) (
  none))) (
  none)) (
  some (.inr (x1)))
noncomputable def gL (N : Nat) : Nat → CX → Option Cp
  | 0, _ => none
  | k + 1, x => ul N (gL N k) x
theorem JD (N : Nat) (k : Nat) : ar Tryz.prog Tryz.f100 [] 58 (Dr.cut (gL N k)) :=
  Dr.loopT ai aA (zx N) Tryz.f100 [] (cuts := []) trivial (by decide +kernel) (by kernel_rfl) (ul N) (gL N) (fun _ => rfl) (fun _ _ => rfl) (fun f x => by kernel_rfl) k
@[reducible] def w100 : List SP := [⟨[.int .i64], []⟩]
noncomputable def yX (N : Nat) : ((List (Int × (Int × Unit))) × (List Bool)) → Option (Int)
  | (x0, x1) =>
  Option.bind (gL N N ((0 : Int), (-2 : Int), x1, x0)) fun y0 =>
  match y0 with
  | .inl y1 =>
  some (y1)
  | .inr y1 =>
  some (y1)
noncomputable def YB (N : Nat) : Pk → Tr Pk := ak s100 w100 (yX N)
theorem Ks (N : Nat) : aO Tryz.prog 100 (YB N) :=
  (ah ai aA (zx N) Tryz.func100 s100 w100 [] (cuts := [(58, Dr.cut (gL N N))]) ⟨JD N N, trivial⟩ (fun _ => by kernel_rfl) (by kernel_rfl) (yX N) (fun x => by kernel_rfl))
@[reducible] def s63 : SP := ⟨[.ro y2, .adr 0 []], [.var (.agg [.sl 1, .int .i64, .int .i64]), .row (.bool) 4]⟩
noncomputable def ZS (N : Nat) : av := [(100, YB N), (23, YZ N)]
theorem Eo (N : Nat) : aj Tryz.prog (ZS N) := ⟨Ks N, wl N, trivial⟩
@[reducible] def IG : LD := ⟨14, [0, 6, 1], [(.ret, [4, 5]), (.exit 0, [4, 5])], ⟨[.ro y2, .sl 1, .adr 0 []], [.var (.agg [.sl 2, .int .i64, .int .i64]), .row (.bool) 4, .row (.bool) 4]⟩, [(.ret, ⟨[.int .i64, .int .i64], [.var (.agg [.sl 1, .int .i64, .int .i64]), .row (.bool) 4]⟩)]⟩
abbrev Io : Type := (List (Int × (Int × Unit))) × Int × Int × (List Bool) × (List Bool)
abbrev H3 : Type := Int × Int × Int × Int × (List Bool)
noncomputable def DV (N : Nat) (f : Io → Option H3) : Io → Option H3
  | (x0, x1, x2, x3, x4) =>
  Option.bind (yX N (x0, x3)) fun y0 =>
  ac (decide (y0 ≥ 0)) (
  some ((y0, (0 : Int), x1, x2, x4))) (
  ac (y0 == (-2 : Int)) (
  some (((0 : Int), (80 : Int), x1, x2, x4))) (
  Option.bind (Ar N ((1 : Int), x1, x2, x4)) fun y1 =>
  ac (y1.2.2.1 != 0) (
  some (((0 : Int), y1.2.2.1, y1.2.1, y1.2.2.1, y1.2.2.2))) (
  ac (decide ((List.length x3 + List.length [y1.1 == 1]) * 1 ≤ (140737488355328 : Nat) ∧ List.length x3 + List.length [y1.1 == 1] ≤ 140737488355328)) (
  Option.bind (f (x0, y1.2.1, y1.2.2.1, x3 ++ [y1.1 == 1], y1.2.2.2)) fun r => some r) (
  none))))
noncomputable def mI (N : Nat) : Nat → Io → Option H3
  | 0, _ => none
  | k + 1, x => DV N (mI N k) x
theorem NL (N : Nat) (k : Nat) : ar Tryz.prog Tryz.f63 [0] 14 (IG.cut (mI N k)) :=
  IG.loopT ai aA (Eo N) Tryz.f63 [0] (cuts := []) trivial (by decide +kernel) (by kernel_rfl) (DV N) (mI N) (fun _ => rfl) (fun _ _ => rfl) (fun f x => by kernel_rfl) k
@[reducible] def w63 : List SP := [⟨[.tup [.int .i64, .int .i64]], [.var (.agg [.sl 1, .int .i64, .int .i64]), .row (.bool) 4]⟩]
noncomputable def F63 (N : Nat) : ((List (Int × (Int × Unit))) × Int × Int × (List Bool)) → Option (Int × Int × Int × Int × (List Bool))
  | (x0, x1, x2, x3) =>
  Option.bind (mI N N (x0, x1, x2, [], x3)) fun y0 =>
  some ((y0.1, y0.2.1, y0.2.2.1, y0.2.2.2.1, y0.2.2.2.2))
noncomputable def T63 (N : Nat) : Pk → Tr Pk := ak s63 w63 (F63 N)
theorem XY (N : Nat) : aO Tryz.prog 63 (T63 N) :=
  (ah ai aA (Eo N) Tryz.func63 s63 w63 [0] (cuts := [(14, IG.cut (mI N N))]) ⟨NL N N, trivial⟩ (fun _ => by kernel_rfl) (by kernel_rfl) (F63 N) (fun x => by kernel_rfl))
@[reducible] def s24 : SP := ⟨[.adr 0 []], [.var (.agg [.sl 1, .int .i64, .int .i64]), .row (.bool) 4]⟩
noncomputable def ab7 (N : Nat) : av := [(23, YZ N), (60, T60 N), (61, T61 N), (62, T62 N), (63, T63 N)]
theorem jv (N : Nat) : aj Tryz.prog (ab7 N) := ⟨wl N, XZ N, Rb N, Ra N, XY N, trivial⟩
@[reducible] def iu : LD := ⟨4090, [10, 7, 6, 5, 8, 9, 0], [(.ret, [2, 3, 4]), (.exit 0, [8, 5, 6, 0])], ⟨[.int .i64, .int .i64, .int .i64, .int .i64, .sl 1, .sl 2, .adr 0 []], [.var (.agg [.sl 3, .int .i64, .int .i64]), .row (.int .i64) 3, .row (.int .i64) 3, .row (.bool) 4]⟩, [(.exit 0, ⟨[.sl 1, .int .i64, .int .i64, .adr 0 []], [.var (.agg [.sl 2, .int .i64, .int .i64]), .row (.int .i64) 3, .row (.bool) 4]⟩)]⟩
abbrev xe : Type := Int × Int × Int × Int × Int × Int × (List Int) × (List Int) × (List Bool)
abbrev wA : Type := Int × Int × Int × Int × (List Int) × (List Bool)
noncomputable def qE (N : Nat) (f : xe → Option wA) : xe → Option wA
  | (x0, x1, x2, x3, x4, x5, x6, x7, x8) =>
  ac (decide (x0 < x1)) (
  ac (within x0 (List.length x7)) (
  Option.bind (x7[Int.toNat x0]?) fun y0 =>
  Option.bind (Ar N ((3 : Int), x4, x5, x8)) fun y1 =>
  ac (within y0 (List.length x6)) (
  Option.bind (x6[Int.toNat y0]?) fun y2 =>
  Option.bind (f (IntKind.wrap .i64 (x0 + 1), x1, x2, x3, y1.2.1, y1.2.2.1, List.set x6 (Int.toNat y0) y1.1, x7, y1.2.2.2)) fun r => some r) (
  none)) (
  none)) (
  some ((x3, x2, x4, x5, x6, x8)))
noncomputable def cZ (N : Nat) : Nat → xe → Option wA
  | 0, _ => none
  | k + 1, x => qE N (cZ N k) x
theorem fZ (N : Nat) (k : Nat) : ar Tryz.prog Tryz.f24 [0] 4090 (iu.cut (cZ N k)) :=
  iu.loopT ai aA (jv N) Tryz.f24 [0] (cuts := []) trivial (by decide +kernel) (by kernel_rfl) (qE N) (cZ N) (fun _ => rfl) (fun _ _ => rfl) (fun f x => by kernel_rfl) k
@[reducible] def da : LD := ⟨536856062, [14, 19, 18, 6, 5, 0, 13, 17], [(.ret, [2, 3, 4]), (.exit 5, [13, 0, 5, 6, 14]), (.exit 3, [13, 0, 5, 6, 14]), (.exit 2, [14, 5])], ⟨[.sl 1, .int .i64, .int .i64, .int .i64, .int .i64, .adr 0 [], .sl 2, .int .i64], [.var (.agg [.sl 3, .int .i64, .int .i64]), .row (.int .i64) 3, .row y2 105, .row (.bool) 4]⟩, [(.exit 5, ⟨[.sl 1, .adr 0 [], .int .i64, .int .i64, .sl 2], [.var (.agg [.sl 3, .int .i64, .int .i64]), .row y2 105, .row (.int .i64) 3, .row (.bool) 4]⟩)]⟩
abbrev jo : Type := Int × Int × Int × Int × Int × Int × Int × (List Int) × (List (Int × (Int × Unit))) × (List Bool)
abbrev jm : Type := Int × Int × Int × Int × (List (Int × (Int × Unit))) × (List Int) × (List Bool)
noncomputable def fw (N : Nat) (f : jo → Option jm) : jo → Option jm
  | (x0, x1, x2, x3, x4, x5, x6, x7, x8, x9) =>
  ac (decide (x0 < x1)) (
  ac (decide ((List.length x7 + List.length [x4]) * 8 ≤ (140737488355328 : Nat) ∧ List.length x7 + List.length [x4] ≤ 140737488355328)) (
  Option.bind (f (IntKind.wrap .i64 (x0 + 1), x1, x2, x3, x4, x5, x6, x7 ++ [x4], x8, x9)) fun r => some r) (
  none)) (
  some ((x3, x2, x5, x6, x8, x7, x9)))
noncomputable def ba (N : Nat) : Nat → jo → Option jm
  | 0, _ => none
  | k + 1, x => fw N (ba N k) x
theorem dG (N : Nat) (k : Nat) : ar Tryz.prog Tryz.f24 [0] 536856062 (da.cut (ba N k)) :=
  da.loopT ai aA (jv N) Tryz.f24 [0] (cuts := [(4090, iu.cut (cZ N N))]) ⟨fZ N N, trivial⟩ (by decide +kernel) (by kernel_rfl) (fw N) (ba N) (fun _ => rfl) (fun _ _ => rfl) (fun f x => by kernel_rfl) k
@[reducible] def eI : LD := ⟨33553503, [14, 18, 6, 5, 13, 17, 0], [(.ret, [2, 3, 4]), (.exit 3, [13, 0, 5, 6, 14]), (.exit 2, [14, 5]), (.normal, [13, 0, 5, 6, 14])], ⟨[.sl 1, .int .i64, .int .i64, .int .i64, .sl 2, .int .i64, .adr 0 []], [.var (.agg [.sl 3, .int .i64, .int .i64]), .row (.int .i64) 3, .row y2 105, .row (.bool) 4]⟩, [(.ret, ⟨[.sl 1, .sl 2, .int .i64], [.var (.agg [.sl 3, .int .i64, .int .i64]), .row (.int .i64) 3, .row (.int .i64) 3, .row (.bool) 4]⟩), (.normal, ⟨[.sl 1, .adr 0 [], .int .i64, .int .i64, .sl 2], [.var (.agg [.sl 3, .int .i64, .int .i64]), .row y2 105, .row (.int .i64) 3, .row (.bool) 4]⟩)]⟩
noncomputable def bh (N : Nat) : (Int × Int × Int × Int × Int × Int × (List Int) × (List (Int × (Int × Unit))) × (List Bool)) → Option (((Int × Int × Int × (List Int) × (List Int) × (List Bool)) ⊕ (Int × Int × Int × Int × (List (Int × (Int × Unit))) × (List Int) × (List Bool))))
  | (x0, x1, x2, x3, x4, x5, x6, x7, x8) =>
  ac (x5 != 0) (
  some (.inl ((x5, x4, x5, [], [], x8)))) (
  ac (decide (IntKind.wrap .i64 ((↑(List.length x6) : Int) + x0) > IntKind.wrap .i64 (x2 + x1))) (
  some (.inl (((80 : Int), x4, x5, [], [], x8)))) (
  Option.bind (ba N N ((0 : Int), x0, x1, x2, x3, x4, x5, x6, x7, x8)) fun y0 =>
  some (.inr ((y0.1, y0.2.1, y0.2.2.1, y0.2.2.2.1, y0.2.2.2.2.1, y0.2.2.2.2.2.1, y0.2.2.2.2.2.2)))))
theorem gk (N : Nat) (k : Nat) : ar Tryz.prog Tryz.f24 [0] 33553503 (eI.cut (bh N)) :=
  eI.pieceT ai aA (jv N) Tryz.f24 [0] (cuts := [(4090, iu.cut (cZ N N)), (536856062, da.cut (ba N N))]) ⟨fZ N N, dG N N, trivial⟩ (by decide +kernel) (by kernel_rfl) (bh N) (fun x => by kernel_rfl)
@[reducible] def kL : LD := ⟨131068, [13, 0, 5, 6, 14], [(.ret, [2, 3, 4]), (.exit 2, [14, 5])], ⟨[.sl 1, .adr 0 [], .int .i64, .int .i64, .sl 2], [.var (.agg [.sl 3, .int .i64, .int .i64]), .row y2 105, .row (.int .i64) 3, .row (.bool) 4]⟩, [(.ret, ⟨[.sl 1, .sl 2, .int .i64], [.var (.agg [.sl 3, .int .i64, .int .i64]), .row (.int .i64) 3, .row (.int .i64) 3, .row (.bool) 4]⟩), (.exit 2, ⟨[.sl 1, .int .i64], [.var (.agg [.sl 2, .int .i64, .int .i64]), .row (.int .i64) 3, .row (.bool) 4]⟩)]⟩
abbrev oW : Type := Int × Int × Int × Int × (List (Int × (Int × Unit))) × (List Int) × (List Bool)
abbrev oN : Type := ((Int × Int × Int × (List Int) × (List Int) × (List Bool)) ⊕ (Int × Int × Int × (List Int) × (List Bool)))
noncomputable def k6 (N : Nat) (f : oW → Option oN) : oW → Option oN
  | (x0, x1, x2, x3, x4, x5, x6) =>
  ac (decide ((↑(List.length x5) : Int) < IntKind.wrap .i64 (x0 + x1))) (
    Option.bind (F63 N (x4, x2, x3, x6)) fun y0 =>
    ac (y0.2.1 != 0) (
      some (.inl ((y0.2.1, y0.2.2.1, y0.2.2.2.1, [], [], y0.2.2.2.2)))) (
      ac (decide (y0.1 < 16)) (
        ac (decide ((List.length x5 + List.length [y0.1]) * 8 ≤ (140737488355328 : Nat) ∧ List.length x5 + List.length [y0.1] ≤ 140737488355328)) (
          Option.bind (f (x0, x1, y0.2.2.1, y0.2.2.2.1, x4, x5 ++ [y0.1], y0.2.2.2.2)) fun r => match r with | .inl y => some (.inl y) | .inr y => some (.inr y)) (
          none)) (
        ac (y0.1 == 16) (
          ac ((↑(List.length x5) : Int) == (0 : Int)) (
            some (.inl (((80 : Int), y0.2.2.1, y0.2.2.2.1, [], [], y0.2.2.2.2)))) (
            ac (within (IntKind.wrap .i64 ((↑(List.length x5) : Int) - (1 : Int))) (List.length x5)) (
              Option.bind (x5[Int.toNat (IntKind.wrap .i64 ((↑(List.length x5) : Int) - (1 : Int)))]?) fun y1 =>
              Option.bind (Ar N ((2 : Int), y0.2.2.1, y0.2.2.2.1, y0.2.2.2.2)) fun y2 =>
              Option.bind (bh N (IntKind.wrap .i64 ((3 : Int) + y2.1), x1, x0, y1, y2.2.1, y2.2.2.1, x5, x4, y2.2.2.2)) fun y3 =>
              match y3 with
              | .inl y4 =>
                some (.inl ((y4.1, y4.2.1, y4.2.2.1, y4.2.2.2.1, y4.2.2.2.2.1, y4.2.2.2.2.2)))
              | .inr y4 =>
                Option.bind (f (y4.1, y4.2.1, y4.2.2.1, y4.2.2.2.1, y4.2.2.2.2.1, y4.2.2.2.2.2.1, y4.2.2.2.2.2.2)) fun r => match r with | .inl y => some (.inl y) | .inr y => some (.inr y)) (
              none))) (
          ac (y0.1 == 17) (
            Option.bind (Ar N ((3 : Int), y0.2.2.1, y0.2.2.2.1, y0.2.2.2.2)) fun y5 =>
            Option.bind (bh N (IntKind.wrap .i64 ((3 : Int) + y5.1), x1, x0, (0 : Int), y5.2.1, y5.2.2.1, x5, x4, y5.2.2.2)) fun y6 =>
            match y6 with
            | .inl y7 =>
              some (.inl ((y7.1, y7.2.1, y7.2.2.1, y7.2.2.2.1, y7.2.2.2.2.1, y7.2.2.2.2.2)))
            | .inr y7 =>
              Option.bind (f (y7.1, y7.2.1, y7.2.2.1, y7.2.2.2.1, y7.2.2.2.2.1, y7.2.2.2.2.2.1, y7.2.2.2.2.2.2)) fun r => match r with | .inl y => some (.inl y) | .inr y => some (.inr y)) (
            ac (y0.1 == 18) (
              Option.bind (Ar N ((7 : Int), y0.2.2.1, y0.2.2.2.1, y0.2.2.2.2)) fun y8 =>
              Option.bind (bh N (IntKind.wrap .i64 ((11 : Int) + y8.1), x1, x0, (0 : Int), y8.2.1, y8.2.2.1, x5, x4, y8.2.2.2)) fun y9 =>
              match y9 with
              | .inl y10 =>
                some (.inl ((y10.1, y10.2.1, y10.2.2.1, y10.2.2.2.1, y10.2.2.2.2.1, y10.2.2.2.2.2)))
              | .inr y10 =>
                Option.bind (f (y10.1, y10.2.1, y10.2.2.1, y10.2.2.2.1, y10.2.2.2.2.1, y10.2.2.2.2.2.1, y10.2.2.2.2.2.2)) fun r => match r with | .inl y => some (.inl y) | .inr y => some (.inr y)) (
              Option.bind (bh N ((0 : Int), x1, x0, (0 : Int), y0.2.2.1, y0.2.2.2.1, x5, x4, y0.2.2.2.2)) fun y11 =>
              match y11 with
              | .inl y12 =>
                some (.inl ((y12.1, y12.2.1, y12.2.2.1, y12.2.2.2.1, y12.2.2.2.2.1, y12.2.2.2.2.2)))
              | .inr y12 =>
                Option.bind (f (y12.1, y12.2.1, y12.2.2.1, y12.2.2.2.1, y12.2.2.2.2.1, y12.2.2.2.2.2.1, y12.2.2.2.2.2.2)) fun r => match r with | .inl y => some (.inl y) | .inr y => some (.inr y))))))) (
    some (.inr ((x0, x2, x3, x5, x6))))
noncomputable def ci (N : Nat) : Nat → oW → Option oN
  | 0, _ => none
  | k + 1, x => k6 N (ci N k) x
theorem om (N : Nat) (k : Nat) : ar Tryz.prog Tryz.f24 [0] 131068 (kL.cut (ci N k)) :=
  kL.loopT ai aA (jv N) Tryz.f24 [0] (cuts := [(4090, iu.cut (cZ N N)), (536856062, da.cut (ba N N)), (33553503, eI.cut (bh N))]) ⟨fZ N N, dG N N, gk N N, trivial⟩ (by decide +kernel) (by kernel_rfl) (k6 N) (ci N) (fun _ => rfl) (fun _ _ => rfl) (fun f x => by kernel_rfl) k
@[reducible] def Dc : LD := ⟨127, [7, 6, 5, 0], [(.ret, [2, 3, 4]), (.normal, [2, 3, 4])], ⟨[.int .i64, .int .i64, .int .i64, .adr 0 []], [.var (.agg [.sl 1, .int .i64, .int .i64]), .row (.bool) 4]⟩, [(.ret, ⟨[.sl 1, .sl 2, .int .i64], [.var (.agg [.sl 3, .int .i64, .int .i64]), .row (.int .i64) 3, .row (.int .i64) 3, .row (.bool) 4]⟩), (.ret, ⟨[.slp 1 (.c 0) .h, .slp 1 .h .h, .int .i64], [.var (.agg [.sl 2, .int .i64, .int .i64]), .row (.int .i64) 3, .row (.bool) 4]⟩)]⟩
noncomputable def qn (N : Nat) : (Int × Int × Int × Int × Int × (List Bool)) → Option (((Int × Int × Int × (List Int) × (List Int) × (List Bool)) ⊕ (Nat × Nat × Nat × Int × Int × Int × (List Int) × (List Bool))))
  | (x0, x1, x2, x3, x4, x5) =>
  Option.bind (F60 N ()) fun y0 =>
  Option.bind (cZ N N ((0 : Int), x0, x1, x2, x3, x4, List.replicate (19 : Nat) (0 : Int), y0, x5)) fun y1 =>
  ac (y1.2.2.2.1 != 0) (
  some (.inl ((y1.2.2.2.1, y1.2.2.1, y1.2.2.2.1, [], [], y1.2.2.2.2.2)))) (
  Option.bind (V4 N y1.2.2.2.2.1) fun y2 =>
  ac (y2.2 != 0) (
  some (.inl (((80 : Int), y1.2.2.1, y1.2.2.2.1, [], [], y1.2.2.2.2.2)))) (
  Option.bind (V3 N y1.2.2.2.2.1) fun y3 =>
  Option.bind (ci N N (y1.1, y1.2.1, y1.2.2.1, y1.2.2.2.1, y3, [], y1.2.2.2.2.2)) fun y4 =>
  match y4 with
  | .inl y5 =>
  some (.inl ((y5.1, y5.2.1, y5.2.2.1, y5.2.2.2.1, y5.2.2.2.2.1, y5.2.2.2.2.2)))
  | .inr y5 =>
  ac (decide ((0 : Int) ≤ y5.1 ∧ y5.1 ≤ (↑(List.length y5.2.2.2.1) : Int))) (
  ac (decide ((0 : Int) ≤ y5.1 ∧ y5.1 ≤ (↑(List.length y5.2.2.2.1) : Int))) (
  some (.inr ((Int.toNat y5.1 - 0, Int.toNat y5.1, List.length y5.2.2.2.1 - Int.toNat y5.1, (0 : Int), y5.2.1, y5.2.2.1, y5.2.2.2.1, y5.2.2.2.2)))) (
  none)) (
  none)))
theorem Jp (N : Nat) (k : Nat) : ar Tryz.prog Tryz.f24 [0] 127 (Dc.cut (qn N)) :=
  Dc.pieceT ai aA (jv N) Tryz.f24 [0] (cuts := [(4090, iu.cut (cZ N N)), (536856062, da.cut (ba N N)), (33553503, eI.cut (bh N)), (131068, kL.cut (ci N N))]) ⟨fZ N N, dG N N, gk N N, om N N, trivial⟩ (by decide +kernel) (by kernel_rfl) (qn N) (fun x => by kernel_rfl)
@[reducible] def w24 : List SP := [⟨[.tup [.sl 1, .sl 2, .int .i64]], [.var (.agg [.sl 3, .int .i64, .int .i64]), .row (.int .i64) 3, .row (.int .i64) 3, .row (.bool) 4]⟩, ⟨[.tup [.slp 1 (.c 0) .h, .slp 1 .h .h, .int .i64]], [.var (.agg [.sl 2, .int .i64, .int .i64]), .row (.int .i64) 3, .row (.bool) 4]⟩]
noncomputable def F24 (N : Nat) : (Int × Int × (List Bool)) → Option (((Int × Int × Int × (List Int) × (List Int) × (List Bool)) ⊕ (Nat × Nat × Nat × Int × Int × Int × (List Int) × (List Bool))))
  | (x0, x1, x2) =>
  Option.bind (Ar N ((5 : Int), x0, x1, x2)) fun y0 =>
  Option.bind (Ar N ((5 : Int), y0.2.1, y0.2.2.1, y0.2.2.2)) fun y1 =>
  Option.bind (Ar N ((4 : Int), y1.2.1, y1.2.2.1, y1.2.2.2)) fun y2 =>
  ac (y2.2.2.1 != 0) (
  some (.inl ((y2.2.2.1, y2.2.1, y2.2.2.1, [], [], y2.2.2.2)))) (
  ac (decide (IntKind.wrap .i64 (y0.1 + 257) > 286)) (
  some (.inl (((80 : Int), y2.2.1, y2.2.2.1, [], [], y2.2.2.2)))) (
  ac (decide (IntKind.wrap .i64 (y1.1 + 1) > 30)) (
  some (.inl (((80 : Int), y2.2.1, y2.2.2.1, [], [], y2.2.2.2)))) (
  Option.bind (qn N (IntKind.wrap .i64 (y2.1 + 4), IntKind.wrap .i64 (y1.1 + 1), IntKind.wrap .i64 (y0.1 + 257), y2.2.1, y2.2.2.1, y2.2.2.2)) fun y3 =>
  match y3 with
  | .inl y4 =>
  some (.inl ((y4.1, y4.2.1, y4.2.2.1, y4.2.2.2.1, y4.2.2.2.2.1, y4.2.2.2.2.2)))
  | .inr y4 =>
  some (.inr ((y4.1, y4.2.1, y4.2.2.1, y4.2.2.2.1, y4.2.2.2.2.1, y4.2.2.2.2.2.1, y4.2.2.2.2.2.2.1, y4.2.2.2.2.2.2.2))))))
noncomputable def T24 (N : Nat) : Pk → Tr Pk := ak s24 w24 (F24 N)
theorem Yg (N : Nat) : aO Tryz.prog 24 (T24 N) :=
  (ah ai aA (jv N) Tryz.func24 s24 w24 [0] (cuts := [(4090, iu.cut (cZ N N)), (536856062, da.cut (ba N N)), (33553503, eI.cut (bh N)), (131068, kL.cut (ci N N)), (127, Dc.cut (qn N))]) ⟨fZ N N, dG N N, gk N N, om N N, Jp N N, trivial⟩ (fun _ => by kernel_rfl) (by kernel_rfl) (F24 N) (fun x => by kernel_rfl))
@[reducible] def s106 : SP := ⟨[], []⟩
noncomputable def W7 (N : Nat) : av := []
theorem LF (N : Nat) : aj Tryz.prog (W7 N) := trivial
@[reducible] def w106 : List SP := [⟨[.tup [.sl 0, .sl 1]], [.row (.int .i64) 3, .row (.int .i64) 3]⟩]
noncomputable def Vy (N : Nat) : (Unit) → Option ((List Int) × (List Int))
  | () =>
  some (([(3 : Int), (4 : Int), (5 : Int), (6 : Int), (7 : Int), (8 : Int), (9 : Int), (10 : Int), (11 : Int), (13 : Int), (15 : Int), (17 : Int), (19 : Int), (23 : Int), (27 : Int), (31 : Int), (35 : Int), (43 : Int), (51 : Int), (59 : Int), (67 : Int), (83 : Int), (99 : Int), (115 : Int), (131 : Int), (163 : Int), (195 : Int), (227 : Int), (258 : Int)], [(0 : Int), (0 : Int), (0 : Int), (0 : Int), (0 : Int), (0 : Int), (0 : Int), (0 : Int), (1 : Int), (1 : Int), (1 : Int), (1 : Int), (2 : Int), (2 : Int), (2 : Int), (2 : Int), (3 : Int), (3 : Int), (3 : Int), (3 : Int), (4 : Int), (4 : Int), (4 : Int), (4 : Int), (5 : Int), (5 : Int), (5 : Int), (5 : Int), (0 : Int)]))
noncomputable def al9 (N : Nat) : Pk → Tr Pk := ak s106 w106 (Vy N)
theorem UZ (N : Nat) : aO Tryz.prog 106 (al9 N) :=
  (ah ai aA (LF N) Tryz.func106 s106 w106 [] (cuts := []) trivial (fun _ => by kernel_rfl) (by kernel_rfl) (Vy N) (fun x => by kernel_rfl))
@[reducible] def s107 : SP := ⟨[], []⟩
noncomputable def W6 (N : Nat) : av := []
theorem LC (N : Nat) : aj Tryz.prog (W6 N) := trivial
@[reducible] def w107 : List SP := [⟨[.tup [.sl 0, .sl 1]], [.row (.int .i64) 3, .row (.int .i64) 3]⟩]
noncomputable def Vx (N : Nat) : (Unit) → Option ((List Int) × (List Int))
  | () =>
  some (([(1 : Int), (2 : Int), (3 : Int), (4 : Int), (5 : Int), (7 : Int), (9 : Int), (13 : Int), (17 : Int), (25 : Int), (33 : Int), (49 : Int), (65 : Int), (97 : Int), (129 : Int), (193 : Int), (257 : Int), (385 : Int), (513 : Int), (769 : Int), (1025 : Int), (1537 : Int), (2049 : Int), (3073 : Int), (4097 : Int), (6145 : Int), (8193 : Int), (12289 : Int), (16385 : Int), (24577 : Int)], [(0 : Int), (0 : Int), (0 : Int), (0 : Int), (1 : Int), (1 : Int), (2 : Int), (2 : Int), (3 : Int), (3 : Int), (4 : Int), (4 : Int), (5 : Int), (5 : Int), (6 : Int), (6 : Int), (7 : Int), (7 : Int), (8 : Int), (8 : Int), (9 : Int), (9 : Int), (10 : Int), (10 : Int), (11 : Int), (11 : Int), (12 : Int), (12 : Int), (13 : Int), (13 : Int)]))
noncomputable def al8 (N : Nat) : Pk → Tr Pk := ak s107 w107 (Vx N)
theorem UY (N : Nat) : aO Tryz.prog 107 (al8 N) :=
  (ah ai aA (LC N) Tryz.func107 s107 w107 [] (cuts := []) trivial (fun _ => by kernel_rfl) (by kernel_rfl) (Vx N) (fun x => by kernel_rfl))
@[reducible] def s108 : SP := ⟨[.ro y2, .adr 0 []], [.var (.agg [.sl 1, .int .i64, .int .i64]), .row (.bool) 4]⟩
noncomputable def W5 (N : Nat) : av := [(100, YB N), (23, YZ N)]
theorem zu (N : Nat) : aj Tryz.prog (W5 N) := ⟨Ks N, wl N, trivial⟩
@[reducible] def Do : LD := ⟨14, [0, 6, 1], [(.ret, [4, 5]), (.exit 0, [4, 5])], ⟨[.ro y2, .sl 1, .adr 0 []], [.var (.agg [.sl 2, .int .i64, .int .i64]), .row (.bool) 4, .row (.bool) 4]⟩, [(.ret, ⟨[.int .i64, .int .i64], [.var (.agg [.sl 1, .int .i64, .int .i64]), .row (.bool) 4]⟩)]⟩
abbrev CU : Type := (List (Int × (Int × Unit))) × Int × Int × (List Bool) × (List Bool)
abbrev Cm : Type := Int × Int × Int × Int × (List Bool)
noncomputable def uj (N : Nat) (f : CU → Option Cm) : CU → Option Cm
  | (x0, x1, x2, x3, x4) =>
  Option.bind (yX N (x0, x3)) fun y0 =>
  ac (decide (y0 ≥ 0)) (
  some ((y0, (0 : Int), x1, x2, x4))) (
  ac (y0 == (-2 : Int)) (
  some (((0 : Int), (3 : Int), x1, x2, x4))) (
  Option.bind (Ar N ((1 : Int), x1, x2, x4)) fun y1 =>
  ac (y1.2.2.1 != 0) (
  some (((0 : Int), y1.2.2.1, y1.2.1, y1.2.2.1, y1.2.2.2))) (
  ac (decide ((List.length x3 + List.length [y1.1 == 1]) * 1 ≤ (140737488355328 : Nat) ∧ List.length x3 + List.length [y1.1 == 1] ≤ 140737488355328)) (
  Option.bind (f (x0, y1.2.1, y1.2.2.1, x3 ++ [y1.1 == 1], y1.2.2.2)) fun r => some r) (
  none))))
noncomputable def ja (N : Nat) : Nat → CU → Option Cm
  | 0, _ => none
  | k + 1, x => uj N (ja N k) x
theorem JA (N : Nat) (k : Nat) : ar Tryz.prog Tryz.f108 [0] 14 (Do.cut (ja N k)) :=
  Do.loopT ai aA (zu N) Tryz.f108 [0] (cuts := []) trivial (by decide +kernel) (by kernel_rfl) (uj N) (ja N) (fun _ => rfl) (fun _ _ => rfl) (fun f x => by kernel_rfl) k
@[reducible] def w108 : List SP := [⟨[.tup [.int .i64, .int .i64]], [.var (.agg [.sl 1, .int .i64, .int .i64]), .row (.bool) 4]⟩]
noncomputable def Nw (N : Nat) : ((List (Int × (Int × Unit))) × Int × Int × (List Bool)) → Option (Int × Int × Int × Int × (List Bool))
  | (x0, x1, x2, x3) =>
  Option.bind (ja N N (x0, x1, x2, [], x3)) fun y0 =>
  some ((y0.1, y0.2.1, y0.2.2.1, y0.2.2.2.1, y0.2.2.2.2))
noncomputable def al7 (N : Nat) : Pk → Tr Pk := ak s108 w108 (Nw N)
theorem UX (N : Nat) : aO Tryz.prog 108 (al7 N) :=
  (ah ai aA (zu N) Tryz.func108 s108 w108 [0] (cuts := [(14, Do.cut (ja N N))]) ⟨JA N N, trivial⟩ (fun _ => by kernel_rfl) (by kernel_rfl) (Nw N) (fun x => by kernel_rfl))
@[reducible] def s109 : SP := ⟨[.ro (.int .i64), .ro (.int .i64), .int .i64, .int .i64], []⟩
noncomputable def W4 (N : Nat) : av := []
theorem LB (N : Nat) : aj Tryz.prog (W4 N) := trivial
@[reducible] def w109 : List SP := [⟨[.tup [.int .i64, .int .i64]], []⟩]
noncomputable def Gp (N : Nat) : ((List Int) × (List Int) × Int × Int) → Option (Int × Int)
  | (x0, x1, x2, x3) =>
  ac (decide (x2 < x3)) (
  some (((0 : Int), (0 : Int)))) (
  ac (decide (IntKind.wrap .i64 (x2 - x3) ≥ (↑(List.length x0) : Int))) (
  some (((0 : Int), (0 : Int)))) (
  ac (within (IntKind.wrap .i64 (x2 - x3)) (List.length x0)) (
  Option.bind (x0[Int.toNat (IntKind.wrap .i64 (x2 - x3))]?) fun y0 =>
  ac (within (IntKind.wrap .i64 (x2 - x3)) (List.length x1)) (
  Option.bind (x1[Int.toNat (IntKind.wrap .i64 (x2 - x3))]?) fun y1 =>
  some ((y0, y1))) (
  none)) (
  none)))
noncomputable def al6 (N : Nat) : Pk → Tr Pk := ak s109 w109 (Gp N)
theorem UW (N : Nat) : aO Tryz.prog 109 (al6 N) :=
  (ah ai aA (LB N) Tryz.func109 s109 w109 [] (cuts := []) trivial (fun _ => by kernel_rfl) (by kernel_rfl) (Gp N) (fun x => by kernel_rfl))
@[reducible] def s74 : SP := ⟨[.adr 0 [], .ro (.int .i64), .ro (.int .i64), .int .i64], [.var (.agg [.sl 1, .int .i64, .int .i64]), .row (.bool) 4]⟩
noncomputable def ZH (N : Nat) : av := [(61, T61 N), (62, T62 N), (106, al9 N), (107, al8 N), (108, al7 N), (109, al6 N), (23, YZ N)]
theorem El (N : Nat) : aj Tryz.prog (ZH N) := ⟨Rb N, Ra N, UZ N, UY N, UX N, UW N, wl N, trivial⟩
@[reducible] def xx : LD := ⟨4094, [20, 0, 14, 15, 18, 19, 3, 17, 16, 21], [(.ret, [8, 9]), (.exit 0, [8, 9])], ⟨[.sl 1, .adr 0 [], .sl 2, .sl 3, .sl 4, .sl 5, .int .i64, .sl 6, .sl 7, .int .i64], [.var (.agg [.sl 8, .int .i64, .int .i64]), .row y0 52, .row y2 105, .row y2 105, .row (.int .i64) 3, .row (.int .i64) 3, .row (.int .i64) 3, .row (.int .i64) 3, .row (.bool) 4]⟩, [(.ret, ⟨[.sl 1, .int .i64], [.var (.agg [.sl 2, .int .i64, .int .i64]), .row y0 52, .row (.bool) 4]⟩)]⟩
abbrev wZ : Type := Int × Int × Int × Int × (List (Int × (Int × (Int × Unit)))) × (List (Int × (Int × Unit))) × (List (Int × (Int × Unit))) × (List Int) × (List Int) × (List Int) × (List Int) × (List Bool)
abbrev wq : Type := Int × Int × Int × (List (Int × (Int × (Int × Unit)))) × (List Bool)
noncomputable def nd (N : Nat) (f : wZ → Option wq) : wZ → Option wq
  | (x0, x1, x2, x3, x4, x5, x6, x7, x8, x9, x10, x11) =>
  Option.bind (Nw N (x5, x2, x3, x11)) fun y0 =>
  ac (y0.2.1 != 0) (
  some ((y0.2.1, y0.2.2.1, y0.2.2.2.1, [], y0.2.2.2.2))) (
  ac (y0.1 == 256) (
  some (((0 : Int), y0.2.2.1, y0.2.2.2.1, x4, y0.2.2.2.2))) (
  ac (decide (y0.1 > 285)) (
  some (((3 : Int), y0.2.2.1, y0.2.2.2.1, [], y0.2.2.2.2))) (
  ac (decide (y0.1 > 256)) (
  Option.bind (Gp N (x10, x9, y0.1, (257 : Int))) fun y1 =>
  Option.bind (Ar N (y1.2, y0.2.2.1, y0.2.2.2.1, y0.2.2.2.2)) fun y2 =>
  ac (y2.2.2.1 != 0) (
  some ((y2.2.2.1, y2.2.1, y2.2.2.1, [], y2.2.2.2))) (
  Option.bind (Nw N (x6, y2.2.1, y2.2.2.1, y2.2.2.2)) fun y3 =>
  ac (y3.2.1 != 0) (
  some ((y3.2.1, y3.2.2.1, y3.2.2.2.1, [], y3.2.2.2.2))) (
  ac (decide (y3.1 > 29)) (
  some (((3 : Int), y3.2.2.1, y3.2.2.2.1, [], y3.2.2.2.2))) (
  Option.bind (Gp N (x7, x8, y3.1, (0 : Int))) fun y4 =>
  Option.bind (Ar N (y4.2, y3.2.2.1, y3.2.2.2.1, y3.2.2.2.2)) fun y5 =>
  ac (y5.2.2.1 != 0) (
  some ((y5.2.2.1, y5.2.1, y5.2.2.1, [], y5.2.2.2))) (
  ac (decide (IntKind.wrap .i64 (x1 + if (1 : Int) > IntKind.wrap .i64 (y1.1 + y2.1) then (1 : Int) else IntKind.wrap .i64 (y1.1 + y2.1)) > x0)) (
  some (((4 : Int), y5.2.1, y5.2.2.1, [], y5.2.2.2))) (
  ac (decide ((List.length x4 + List.length [((0 : Int), IntKind.wrap .i64 (y1.1 + y2.1), IntKind.wrap .i64 (y4.1 + y5.1), ())]) * 24 ≤ (140737488355328 : Nat) ∧ List.length x4 + List.length [((0 : Int), IntKind.wrap .i64 (y1.1 + y2.1), IntKind.wrap .i64 (y4.1 + y5.1), ())] ≤ 140737488355328)) (
  Option.bind (f (x0, IntKind.wrap .i64 (x1 + if (1 : Int) > IntKind.wrap .i64 (y1.1 + y2.1) then (1 : Int) else IntKind.wrap .i64 (y1.1 + y2.1)), y5.2.1, y5.2.2.1, x4 ++ [((0 : Int), IntKind.wrap .i64 (y1.1 + y2.1), IntKind.wrap .i64 (y4.1 + y5.1), ())], x5, x6, x7, x8, x9, x10, y5.2.2.2)) fun r => some r) (
  none))))))) (
  ac (decide (IntKind.wrap .i64 (x1 + 1) > x0)) (
  some (((4 : Int), y0.2.2.1, y0.2.2.2.1, [], y0.2.2.2.2))) (
  ac (decide ((List.length x4 + List.length [(y0.1, (0 : Int), (0 : Int), ())]) * 24 ≤ (140737488355328 : Nat) ∧ List.length x4 + List.length [(y0.1, (0 : Int), (0 : Int), ())] ≤ 140737488355328)) (
  Option.bind (f (x0, IntKind.wrap .i64 (x1 + 1), y0.2.2.1, y0.2.2.2.1, x4 ++ [(y0.1, (0 : Int), (0 : Int), ())], x5, x6, x7, x8, x9, x10, y0.2.2.2.2)) fun r => some r) (
  none))))))
noncomputable def eM (N : Nat) : Nat → wZ → Option wq
  | 0, _ => none
  | k + 1, x => nd N (eM N k) x
theorem Gt (N : Nat) (k : Nat) : ar Tryz.prog Tryz.f74 [0] 4094 (xx.cut (eM N k)) :=
  xx.loopT ai aA (El N) Tryz.f74 [0] (cuts := []) trivial (by decide +kernel) (by kernel_rfl) (nd N) (eM N) (fun _ => rfl) (fun _ _ => rfl) (fun f x => by kernel_rfl) k
@[reducible] def w74 : List SP := [⟨[.tup [.sl 1, .int .i64]], [.var (.agg [.sl 2, .int .i64, .int .i64]), .row y0 52, .row (.bool) 4]⟩]
noncomputable def Y7 (N : Nat) : ((List Int) × (List Int) × Int × Int × Int × (List Bool)) → Option (Int × Int × Int × (List (Int × (Int × (Int × Unit)))) × (List Bool))
  | (x0, x1, x2, x3, x4, x5) =>
  Option.bind (V4 N x0) fun y0 =>
  Option.bind (V4 N x1) fun y1 =>
  ac (y0.2 != 0) (
  some (((50 : Int), x3, x4, [], x5))) (
  ac (y1.2 != 0) (
  some (((50 : Int), x3, x4, [], x5))) (
  Option.bind (V3 N x0) fun y2 =>
  Option.bind (V3 N x1) fun y3 =>
  Option.bind (Vy N ()) fun y4 =>
  Option.bind (Vx N ()) fun y5 =>
  Option.bind (eM N N (x2, (0 : Int), x3, x4, [], y2, y3, y5.1, y5.2, y4.2, y4.1, x5)) fun y6 =>
  some ((y6.1, y6.2.1, y6.2.2.1, y6.2.2.2.1, y6.2.2.2.2))))
noncomputable def T74 (N : Nat) : Pk → Tr Pk := ak s74 w74 (Y7 N)
theorem XO (N : Nat) : aO Tryz.prog 74 (T74 N) :=
  (ah ai aA (El N) Tryz.func74 s74 w74 [0] (cuts := [(4094, xx.cut (eM N N))]) ⟨Gt N N, trivial⟩ (fun _ => by kernel_rfl) (by kernel_rfl) (Y7 N) (fun x => by kernel_rfl))
@[reducible] def s70 : SP := ⟨[.str], []⟩
noncomputable def ZL (N : Nat) : av := []
theorem OG (N : Nat) : aj Tryz.prog (ZL N) := trivial
@[reducible] def w70 : List SP := [⟨[.str], []⟩]
noncomputable def F70 (N : Nat) : (ByteArray) → Option (ByteArray)
  | x0 =>
  ac (decide ((↑(ByteArray.size x0) : Int) > (32768 : Int))) (
  ac (decide ((0 : Int) ≤ IntKind.wrap .i64 ((↑(ByteArray.size x0) : Int) - (32768 : Int)) ∧ IntKind.wrap .i64 ((↑(ByteArray.size x0) : Int) - (32768 : Int)) ≤ (↑(ByteArray.size x0) : Int))) (
  some (ByteArray.extract x0 (Int.toNat (IntKind.wrap .i64 ((↑(ByteArray.size x0) : Int) - (32768 : Int)))) (ByteArray.size x0))) (
  none)) (
  some (x0))
noncomputable def T70 (N : Nat) : Pk → Tr Pk := ak s70 w70 (F70 N)
theorem XS (N : Nat) : aO Tryz.prog 70 (T70 N) :=
  (ah ai aA (OG N) Tryz.func70 s70 w70 [] (cuts := []) trivial (fun _ => by kernel_rfl) (by kernel_rfl) (F70 N) (fun x => by kernel_rfl))
@[reducible] def s71 : SP := ⟨[.agg [.int .i64, .int .i64, .int .i64]], []⟩
noncomputable def ZK (N : Nat) : av := []
theorem OF (N : Nat) : aj Tryz.prog (ZK N) := trivial
@[reducible] def w71 : List SP := [⟨[.bool], []⟩]
noncomputable def F71 (N : Nat) : (Int × Int × Int) → Option (Bool)
  | (x0, x1, x2) =>
  ac (x1 == 0) (
  ac (x2 == 0) (
  ac (decide (x0 ≥ 0)) (
  some (decide (x0 ≤ 255))) (
  some (false))) (
  some (false))) (
  ac (x0 == 0) (
  ac (decide (x1 ≥ 3)) (
  ac (decide (x1 ≤ 258)) (
  ac (decide (x2 ≥ 1)) (
  some (decide (x2 ≤ 32768))) (
  some (false))) (
  some (false))) (
  some (false))) (
  some (false)))
noncomputable def T71 (N : Nat) : Pk → Tr Pk := ak s71 w71 (F71 N)
theorem XR (N : Nat) : aO Tryz.prog 71 (T71 N) :=
  (ah ai aA (OF N) Tryz.func71 s71 w71 [] (cuts := []) trivial (fun _ => by kernel_rfl) (by kernel_rfl) (F71 N) (fun x => by kernel_rfl))
@[reducible] def s28 : SP := ⟨[.str, .ro y0], []⟩
noncomputable def ab4 (N : Nat) : av := [(70, T70 N), (71, T71 N)]
theorem uA (N : Nat) : aj Tryz.prog (ab4 N) := ⟨XS N, XR N, trivial⟩
@[reducible] def kK : LD := ⟨256318, [6, 10, 7, 1, 8], [(.ret, [4, 5]), (.exit 2, [8, 7, 1, 6]), (.exit 1, [8, 7, 1, 6]), (.exit 0, [6, 7])], ⟨[.sl 0, .int .i64, .int .i64, .ro y0, .int .i64], [.row (.int .u8) 5]⟩, [(.exit 2, ⟨[.int .i64, .int .i64, .ro y0, .sl 0], [.row (.int .u8) 5]⟩)]⟩
abbrev oV : Type := Int × Int × (List (Int × (Int × (Int × Unit)))) × Int × (List Int)
abbrev oM : Type := Int × Int × (List (Int × (Int × (Int × Unit)))) × (List Int)
noncomputable def k5 (N : Nat) (f : oV → Option oM) : oV → Option oM
  | (x0, x1, x2, x3, x4) =>
  ac (within x3 (List.length x2)) (
  Option.bind (x2[Int.toNat x3]?) fun y0 =>
  ac (decide (x0 < y0.2.1)) (
  ac (within x3 (List.length x2)) (
  Option.bind (x2[Int.toNat x3]?) fun y1 =>
  ac (within (IntKind.wrap .i64 ((↑(List.length x4) : Int) - y1.2.2.1)) (List.length x4)) (
  Option.bind (x4[Int.toNat (IntKind.wrap .i64 ((↑(List.length x4) : Int) - y1.2.2.1))]?) fun y2 =>
  ac (decide ((List.length x4 + List.length [y2]) * 1 ≤ (140737488355328 : Nat) ∧ List.length x4 + List.length [y2] ≤ 140737488355328)) (
  Option.bind (f (IntKind.wrap .i64 (x0 + 1), x1, x2, x3, x4 ++ [y2])) fun r => some r) (
  none)) (
  none)) (
  none)) (
  some ((x3, x1, x2, x4)))) (
  none)
noncomputable def cH (N : Nat) : Nat → oV → Option oM
  | 0, _ => none
  | k + 1, x => k5 N (cH N k) x
theorem ol (N : Nat) (k : Nat) : ar Tryz.prog Tryz.f28 [] 256318 (kK.cut (cH N k)) :=
  kK.loopT ai aA (uA N) Tryz.f28 [] (cuts := []) trivial (by decide +kernel) (by kernel_rfl) (k5 N) (cH N) (fun _ => rfl) (fun _ _ => rfl) (fun f x => by kernel_rfl) k
@[reducible] def Db : LD := ⟨250, [7, 1, 8, 6], [(.ret, [4, 5]), (.exit 0, [6, 7])], ⟨[.int .i64, .ro y0, .int .i64, .sl 0], [.row (.int .u8) 5]⟩, [(.ret, ⟨[.str, .int .i64], []⟩), (.exit 0, ⟨[.sl 0, .int .i64], [.row (.int .u8) 5]⟩)]⟩
abbrev CG : Type := Int × (List (Int × (Int × (Int × Unit)))) × Int × (List Int)
abbrev BZ : Type := ((ByteArray × Int) ⊕ (Int × (List Int)))
noncomputable def ub (N : Nat) (f : CG → Option BZ) : CG → Option BZ
  | (x0, x1, x2, x3) =>
  ac (decide (x2 < (↑(List.length x1) : Int))) (
  ac (within x2 (List.length x1)) (
  Option.bind (x1[Int.toNat x2]?) fun y0 =>
  Option.bind (F71 N (y0.1, y0.2.1, y0.2.2.1)) fun y1 =>
  ac (!y1) (
  some (.inl ((ByteArray.mk #[], (1 : Int))))) (
  ac (within x2 (List.length x1)) (
  Option.bind (x1[Int.toNat x2]?) fun y2 =>
  ac (y2.2.1 == 0) (
  ac (within x2 (List.length x1)) (
  Option.bind (x1[Int.toNat x2]?) fun y3 =>
  ac (decide ((List.length x3 + List.length [IntKind.wrap .u8 y3.1]) * 1 ≤ (140737488355328 : Nat) ∧ List.length x3 + List.length [IntKind.wrap .u8 y3.1] ≤ 140737488355328)) (
  Option.bind (f (x0, x1, IntKind.wrap .i64 (x2 + 1), x3 ++ [IntKind.wrap .u8 y3.1])) fun r => match r with | .inl y => some (.inl y) | .inr y => some (.inr y)) (
  none)) (
  none)) (
  ac (within x2 (List.length x1)) (
  Option.bind (x1[Int.toNat x2]?) fun y4 =>
  ac (decide (y4.2.2.1 > (↑(List.length x3) : Int))) (
  some (.inl ((ByteArray.mk #[], (60 : Int))))) (
  Option.bind (cH N N ((0 : Int), x0, x1, x2, x3)) fun y5 =>
  Option.bind (f (y5.2.1, y5.2.2.1, IntKind.wrap .i64 (y5.1 + 1), y5.2.2.2)) fun r => match r with | .inl y => some (.inl y) | .inr y => some (.inr y))) (
  none))) (
  none))) (
  none)) (
  some (.inr ((x0, x3))))
noncomputable def iV (N : Nat) : Nat → CG → Option BZ
  | 0, _ => none
  | k + 1, x => ub N (iV N k) x
theorem Jo (N : Nat) (k : Nat) : ar Tryz.prog Tryz.f28 [] 250 (Db.cut (iV N k)) :=
  Db.loopT ai aA (uA N) Tryz.f28 [] (cuts := [(256318, kK.cut (cH N N))]) ⟨ol N N, trivial⟩ (by decide +kernel) (by kernel_rfl) (ub N) (iV N) (fun _ => rfl) (fun _ _ => rfl) (fun f x => by kernel_rfl) k
@[reducible] def w28 : List SP := [⟨[.tup [.str, .int .i64]], []⟩]
noncomputable def Zf (N : Nat) : (ByteArray × (List (Int × (Int × (Int × Unit))))) → Option (ByteArray × Int)
  | (x0, x1) =>
  Option.bind (F70 N x0) fun y0 =>
  ac (decide (((0 : Nat) + List.length (bytesOf y0)) * 1 ≤ (140737488355328 : Nat) ∧ (0 : Nat) + List.length (bytesOf y0) ≤ 140737488355328)) (
  Option.bind (iV N N ((↑(List.length ([] ++ bytesOf y0)) : Int), x1, (0 : Int), [] ++ bytesOf y0)) fun y1 =>
  match y1 with
  | .inl y2 =>
  some ((y2.1, y2.2))
  | .inr y2 =>
  ac (decide ((0 : Int) ≤ y2.1 ∧ y2.1 ≤ (↑(List.length y2.2) : Int))) (
  some ((aI (List.take (List.length y2.2 - Int.toNat y2.1) (List.drop (Int.toNat y2.1) y2.2)), (0 : Int)))) (
  none)) (
  none)
noncomputable def T28 (N : Nat) : Pk → Tr Pk := ak s28 w28 (Zf N)
theorem Ye (N : Nat) : aO Tryz.prog 28 (T28 N) :=
  (ah ai aA (uA N) Tryz.func28 s28 w28 [] (cuts := [(256318, kK.cut (cH N N)), (250, Db.cut (iV N N))]) ⟨ol N N, Jo N N, trivial⟩ (fun _ => by kernel_rfl) (by kernel_rfl) (Zf N) (fun x => by kernel_rfl))
@[reducible] def s29 : SP := ⟨[.adr 0 [], .str, .int .i64], [.var (.agg [.sl 1, .int .i64, .int .i64]), .row (.bool) 4]⟩
noncomputable def ab3 (N : Nat) : av := [(23, YZ N), (72, T72 N), (73, T73 N), (24, T24 N), (74, T74 N), (28, T28 N)]
theorem uz (N : Nat) : aj Tryz.prog (ab3 N) := ⟨wl N, XQ N, XP N, Yg N, XO N, Ye N, trivial⟩
@[reducible] def qj : LD := ⟨511, [0, 14, 15, 2, 1, 11, 10], [(.ret, [6, 7, 8, 9]), (.normal, [6, 7, 8, 9])], ⟨[.adr 0 [], .sl 1, .sl 2, .int .i64, .str, .int .i64, .bool], [.var (.agg [.sl 3, .int .i64, .int .i64]), .row (.int .i64) 3, .row (.int .i64) 3, .row (.bool) 4]⟩, [(.ret, ⟨[.str, .bool, .int .i64, .int .i64], [.var (.agg [.sl 1, .int .i64, .int .i64]), .row (.bool) 4]⟩)]⟩
noncomputable def kS (N : Nat) : (Int × ByteArray × Int × Bool × Int × Int × (List Int) × (List Int) × (List Bool)) → Option (ByteArray × Bool × Int × Int × Int × Int × (List Bool))
  | (x0, x1, x2, x3, x4, x5, x6, x7, x8) =>
  Option.bind (Y7 N (x6, x7, x0, x4, x5, x8)) fun y0 =>
  ac (y0.1 == 50) (
  some ((ByteArray.mk #[], false, (0 : Int), (80 : Int), y0.2.1, y0.2.2.1, y0.2.2.2.2))) (
  ac (y0.1 == 3) (
  some ((ByteArray.mk #[], false, (0 : Int), (80 : Int), y0.2.1, y0.2.2.1, y0.2.2.2.2))) (
  ac (y0.1 != 0) (
  some ((ByteArray.mk #[], false, (0 : Int), y0.1, y0.2.1, y0.2.2.1, y0.2.2.2.2))) (
  Option.bind (Zf N (x1, y0.2.2.2.1)) fun y1 =>
  ac (y1.2 != 0) (
  some ((ByteArray.mk #[], false, (0 : Int), y1.2, y0.2.1, y0.2.2.1, y0.2.2.2.2))) (
  some ((y1.1, x3, x2, (0 : Int), y0.2.1, y0.2.2.1, y0.2.2.2.2))))))
theorem yt (N : Nat) (k : Nat) : ar Tryz.prog Tryz.f29 [0] 511 (qj.cut (kS N)) :=
  qj.pieceT ai aA (uz N) Tryz.f29 [0] (cuts := []) trivial (by decide +kernel) (by kernel_rfl) (kS N) (fun x => by kernel_rfl)
@[reducible] def xB : LD := ⟨511, [0, 14, 15, 2, 1, 11, 10], [(.ret, [6, 7, 8, 9]), (.normal, [6, 7, 8, 9])], ⟨[.adr 0 [], .slp 1 (.c 0) .h, .slp 1 .h .h, .int .i64, .str, .int .i64, .bool], [.var (.agg [.sl 2, .int .i64, .int .i64]), .row (.int .i64) 3, .row (.bool) 4]⟩, [(.ret, ⟨[.str, .bool, .int .i64, .int .i64], [.var (.agg [.sl 1, .int .i64, .int .i64]), .row (.bool) 4]⟩)]⟩
noncomputable def mO (N : Nat) : (Nat × Nat × Nat × Int × ByteArray × Int × Bool × Int × Int × (List Int) × (List Bool)) → Option (ByteArray × Bool × Int × Int × Int × Int × (List Bool))
  | (x0, x1, x2, x3, x4, x5, x6, x7, x8, x9, x10) =>
  Option.bind (Y7 N (List.take x0 x9, List.take x2 (List.drop x1 x9), x3, x7, x8, x10)) fun y0 =>
  ac (y0.1 == 50) (
  some ((ByteArray.mk #[], false, (0 : Int), (80 : Int), y0.2.1, y0.2.2.1, y0.2.2.2.2))) (
  ac (y0.1 == 3) (
  some ((ByteArray.mk #[], false, (0 : Int), (80 : Int), y0.2.1, y0.2.2.1, y0.2.2.2.2))) (
  ac (y0.1 != 0) (
  some ((ByteArray.mk #[], false, (0 : Int), y0.1, y0.2.1, y0.2.2.1, y0.2.2.2.2))) (
  Option.bind (Zf N (x4, y0.2.2.2.1)) fun y1 =>
  ac (y1.2 != 0) (
  some ((ByteArray.mk #[], false, (0 : Int), y1.2, y0.2.1, y0.2.2.1, y0.2.2.2.2))) (
  some ((y1.1, x6, x5, (0 : Int), y0.2.1, y0.2.2.1, y0.2.2.2.2))))))
theorem Gx (N : Nat) (k : Nat) : ar Tryz.prog Tryz.f29 [0] 511 (xB.cut (mO N)) :=
  xB.pieceT ai aA (uz N) Tryz.f29 [0] (cuts := [(511, qj.cut (kS N))]) ⟨yt N N, trivial⟩ (by decide +kernel) (by kernel_rfl) (mO N) (fun x => by kernel_rfl)
@[reducible] def w29 : List SP := [⟨[.tup [.str, .bool, .int .i64, .int .i64]], [.var (.agg [.sl 1, .int .i64, .int .i64]), .row (.bool) 4]⟩]
noncomputable def S1 (N : Nat) : (ByteArray × Int × Int × Int × (List Bool)) → Option (ByteArray × Bool × Int × Int × Int × Int × (List Bool))
  | (x0, x1, x2, x3, x4) =>
  Option.bind (Ar N ((1 : Int), x2, x3, x4)) fun y0 =>
  Option.bind (Ar N ((2 : Int), y0.2.1, y0.2.2.1, y0.2.2.2)) fun y1 =>
  ac (y1.2.2.1 != 0) (
  some ((ByteArray.mk #[], false, (0 : Int), y1.2.2.1, y1.2.1, y1.2.2.1, y1.2.2.2))) (
  ac (y1.1 == 0) (
  Option.bind (F72 N (x1, y1.2.1, y1.2.2.1, y1.2.2.2)) fun y2 =>
  ac (y2.2.1 != 0) (
  some ((ByteArray.mk #[], false, (0 : Int), y2.2.1, y2.2.2.1, y2.2.2.2.1, y2.2.2.2.2))) (
  some ((y2.1, y0.1 == 1, (0 : Int), (0 : Int), y2.2.2.1, y2.2.2.2.1, y2.2.2.2.2)))) (
  ac (y1.1 == 3) (
  some ((ByteArray.mk #[], false, (0 : Int), (80 : Int), y1.2.1, y1.2.2.1, y1.2.2.2))) (
  Option.bind (F73 N ()) fun y3 =>
  ac (y1.1 == 2) (
  Option.bind (F24 N (y1.2.1, y1.2.2.1, y1.2.2.2)) fun y4 =>
  match y4 with
  | .inl y5 =>
  ac (y5.1 != 0) (
  some ((ByteArray.mk #[], false, (0 : Int), y5.1, y5.2.1, y5.2.2.1, y5.2.2.2.2.2))) (
  Option.bind (kS N (x1, x0, y1.1, y0.1 == 1, y5.2.1, y5.2.2.1, y5.2.2.2.1, y5.2.2.2.2.1, y5.2.2.2.2.2)) fun y6 =>
  some ((y6.1, y6.2.1, y6.2.2.1, y6.2.2.2.1, y6.2.2.2.2.1, y6.2.2.2.2.2.1, y6.2.2.2.2.2.2)))
  | .inr y5 =>
  ac (y5.2.2.2.1 != 0) (
  some ((ByteArray.mk #[], false, (0 : Int), y5.2.2.2.1, y5.2.2.2.2.1, y5.2.2.2.2.2.1, y5.2.2.2.2.2.2.2))) (
  Option.bind (mO N (y5.1, y5.2.1, y5.2.2.1, x1, x0, y1.1, y0.1 == 1, y5.2.2.2.2.1, y5.2.2.2.2.2.1, y5.2.2.2.2.2.2.1, y5.2.2.2.2.2.2.2)) fun y7 =>
  some ((y7.1, y7.2.1, y7.2.2.1, y7.2.2.2.1, y7.2.2.2.2.1, y7.2.2.2.2.2.1, y7.2.2.2.2.2.2)))) (
  Option.bind (kS N (x1, x0, y1.1, y0.1 == 1, y1.2.1, y1.2.2.1, y3.1, y3.2, y1.2.2.2)) fun y8 =>
  some ((y8.1, y8.2.1, y8.2.2.1, y8.2.2.2.1, y8.2.2.2.2.1, y8.2.2.2.2.2.1, y8.2.2.2.2.2.2))))))
noncomputable def T29 (N : Nat) : Pk → Tr Pk := ak s29 w29 (S1 N)
theorem Yd (N : Nat) : aO Tryz.prog 29 (T29 N) :=
  (ah ai aA (uz N) Tryz.func29 s29 w29 [0] (cuts := [(511, JP qj.s.I (qj.cut (kS N)) (xB.cut (mO N)))]) ⟨fun c' h => gg (yt N N c' h) (Gx N N c' h) rfl rfl, trivial⟩ (fun _ => by kernel_rfl) (by kernel_rfl) (S1 N) (fun x => by kernel_rfl))
@[reducible] def s31 : SP := ⟨[.str, .str], []⟩
noncomputable def ab1 (N : Nat) : av := [(75, T75 N), (15, T15 N), (19, T19 N)]
theorem OZ (N : Nat) : aj Tryz.prog (ab1 N) := ⟨Q7 N, Rt N, Rs N, trivial⟩
@[reducible] def w31 : List SP := [⟨[.str], []⟩]
noncomputable def F31 (N : Nat) : (ByteArray × ByteArray) → Option (ByteArray)
  | (x0, x1) =>
  ac (!ByteArray.toList x1 == []) (
  Option.bind (Y6 N (x0, x1, false, (0 : Int), (0 : Int), [])) fun y0 =>
  Option.bind (Wa N (ByteArray.mk #[], false, y0.1, y0.2.1, y0.2.2)) fun y1 =>
  Option.bind (YK N (y1.2.2, y1.1, y1.2.1, ())) fun y2 =>
  some (y2)) (
  Option.bind (Wa N (ByteArray.mk #[], false, (0 : Int), (0 : Int), [])) fun y3 =>
  Option.bind (YK N (y3.2.2, y3.1, y3.2.1, ())) fun y4 =>
  some (y4))
noncomputable def T31 (N : Nat) : Pk → Tr Pk := ak s31 w31 (F31 N)
theorem Yb (N : Nat) : aO Tryz.prog 31 (T31 N) :=
  (ah ai aA (OZ N) Tryz.func31 s31 w31 [] (cuts := []) trivial (fun _ => by kernel_rfl) (by kernel_rfl) (F31 N) (fun x => by kernel_rfl))
@[reducible] def s33 : SP := ⟨[.str, .str, .int .i64], []⟩
noncomputable def ab0 (N : Nat) : av := [(22, T22 N), (29, T29 N)]
theorem Ev (N : Nat) : aj Tryz.prog (ab0 N) := ⟨Yh N, Yd N, trivial⟩
@[reducible] def Da : LD := ⟨124, [10, 9, 8, 0, 2], [(.ret, [6, 7]), (.exit 0, [10, 9])], ⟨[.bool, .str, .adr 0 [], .str, .int .i64], [.var (.agg [.sl 1, .int .i64, .int .i64]), .row (.bool) 4]⟩, [(.ret, ⟨[.str, .int .i64], []⟩), (.exit 0, ⟨[.bool, .str], []⟩)]⟩
abbrev CF : Type := Bool × ByteArray × ByteArray × Int × Int × Int × (List Bool)
abbrev BY : Type := ((ByteArray × Int) ⊕ (Bool × ByteArray))
noncomputable def ua (N : Nat) (f : CF → Option BY) : CF → Option BY
  | (x0, x1, x2, x3, x4, x5, x6) =>
  ac (decide (x4 < (↑(List.length x6) : Int))) (
  ac (decide ((↑(ByteArray.size x2 + ByteArray.size x1) : Int) > (9223372036854775807 : Int))) (
  none) (
  Option.bind (S1 N (x2 ++ x1, IntKind.wrap .i64 (x3 - (↑(ByteArray.size x1) : Int)), x4, x5, x6)) fun y0 =>
  ac (y0.2.2.2.1 != 0) (
  some (.inl ((ByteArray.mk #[], y0.2.2.2.1)))) (
  ac y0.2.1 (
  some (.inl ((ByteArray.mk #[], (81 : Int))))) (
  ac (decide ((↑(ByteArray.size x1 + ByteArray.size y0.1) : Int) > (9223372036854775807 : Int))) (
  none) (
  ac (y0.2.2.1 == 0) (
  Option.bind (f (ByteArray.toList y0.1 == [], x1 ++ y0.1, x2, x3, y0.2.2.2.2.1, y0.2.2.2.2.2.1, y0.2.2.2.2.2.2)) fun r => match r with | .inl y => some (.inl y) | .inr y => some (.inr y)) (
  Option.bind (f (false, x1 ++ y0.1, x2, x3, y0.2.2.2.2.1, y0.2.2.2.2.2.1, y0.2.2.2.2.2.2)) fun r => match r with | .inl y => some (.inl y) | .inr y => some (.inr y))))))) (
  some (.inr ((x0, x1))))
noncomputable def co (N : Nat) : Nat → CF → Option BY
  | 0, _ => none
  | k + 1, x => ua N (co N k) x
theorem Jn (N : Nat) (k : Nat) : ar Tryz.prog Tryz.f33 [] 124 (Da.cut (co N k)) :=
  Da.loopT ai aA (Ev N) Tryz.f33 [] (cuts := []) trivial (by decide +kernel) (by kernel_rfl) (ua N) (co N) (fun _ => rfl) (fun _ _ => rfl) (fun f x => by kernel_rfl) k
@[reducible] def w33 : List SP := [⟨[.tup [.str, .int .i64]], []⟩]
noncomputable def F33 (N : Nat) : (ByteArray × ByteArray × Int) → Option (ByteArray × Int)
  | (x0, x1, x2) =>
  Option.bind (F22 N x1) fun y0 =>
  Option.bind (co N N (false, ByteArray.mk #[], x0, x2, (0 : Int), (0 : Int), y0)) fun y1 =>
  match y1 with
  | .inl y2 =>
  some ((y2.1, y2.2))
  | .inr y2 =>
  ac (!y2.1) (
  some ((ByteArray.mk #[], (81 : Int)))) (
  some ((y2.2, (0 : Int))))
noncomputable def T33 (N : Nat) : Pk → Tr Pk := ak s33 w33 (F33 N)
theorem Ya (N : Nat) : aO Tryz.prog 33 (T33 N) :=
  (ah ai aA (Ev N) Tryz.func33 s33 w33 [] (cuts := [(124, Da.cut (co N N))]) ⟨Jn N N, trivial⟩ (fun _ => by kernel_rfl) (by kernel_rfl) (F33 N) (fun x => by kernel_rfl))
@[reducible] def s3 : SP := ⟨[.int .i64, .str, .bool], []⟩
@[reducible] def w3 : List SP := [⟨[.bool], []⟩]
@[reducible] def s4 : SP := ⟨[.int .i64, .ro (.int .i64), .ro (.int .i64)], []⟩
@[reducible] def w4 : List SP := [⟨[.bool], []⟩]
@[reducible] def s5 : SP := ⟨[.str, .ro y0, .bool, .bool, .int .i64], []⟩
@[reducible] def w5 : List SP := [⟨[.bool], []⟩]
@[reducible] def w6 : List SP := [⟨[.bool], []⟩]
@[reducible] def w7 : List SP := [⟨[.bool], []⟩]
@[reducible] def s77 : SP := ⟨[.str], []⟩
noncomputable def ZE (N : Nat) : av := []
theorem OC (N : Nat) : aj Tryz.prog (ZE N) := trivial
@[reducible] def w77 : List SP := [⟨[.adr 0 []], [.var (.agg [.str, .int .i64, .int .i64])]⟩]
noncomputable def YD (N : Nat) : (ByteArray) → Option (ByteArray × Int × Int)
  | x0 =>
  some ((x0, (0 : Int), (0 : Int)))
noncomputable def T77 (N : Nat) : Pk → Tr Pk := ak s77 w77 (YD N)
theorem Q6 (N : Nat) : aO Tryz.prog 77 (T77 N) :=
  (ah ai aA (OC N) Tryz.func77 s77 w77 [] (cuts := []) trivial (fun _ => by kernel_rfl) (by kernel_rfl) (YD N) (fun x => by kernel_rfl))
@[reducible] def s141 : SP := ⟨[.int .i64], []⟩
noncomputable def WF (N : Nat) : av := []
theorem Lh (N : Nat) : aj Tryz.prog (WF N) := trivial
@[reducible] def w141 : List SP := [⟨[.bool], []⟩]
noncomputable def Nl (N : Nat) : (Int) → Option (Bool)
  | x0 =>
  ac (x0 == 1) (
  some (true)) (
  ac (x0 == 2) (
  some (true)) (
  some (x0 == 4)))
noncomputable def Ys (N : Nat) : Pk → Tr Pk := ak s141 w141 (Nl N)
theorem Kl (N : Nat) : aO Tryz.prog 141 (Ys N) :=
  (ah ai aA (Lh N) Tryz.func141 s141 w141 [] (cuts := []) trivial (fun _ => by kernel_rfl) (by kernel_rfl) (Nl N) (fun x => by kernel_rfl))
@[reducible] def s142 : SP := ⟨[.adr 0 [], .int .i64], [.var (.agg [.str, .int .i64, .int .i64])]⟩
noncomputable def WE (N : Nat) : av := []
theorem Le (N : Nat) : aj Tryz.prog (WE N) := trivial
@[reducible] def w142 : List SP := [⟨[.tup []], [.var (.agg [.str, .int .i64, .int .i64])]⟩]
noncomputable def Nk (N : Nat) : (Int × ByteArray × Int × Int) → Option (ByteArray × Int × Int)
  | (x0, x1, x2, x3) =>
  ac (x3 == 0) (
  some ((x1, x2, x0))) (
  some ((x1, x2, x3)))
noncomputable def Yr (N : Nat) : Pk → Tr Pk := ak s142 w142 (Nk N)
theorem Kk (N : Nat) : aO Tryz.prog 142 (Yr N) :=
  (ah ai aA (Le N) Tryz.func142 s142 w142 [0] (cuts := []) trivial (fun _ => by kernel_rfl) (by kernel_rfl) (Nk N) (fun x => by kernel_rfl))
@[reducible] def y6 : Ty := (.cons .str (.cons (.int .i64) (.cons (.int .i64) .unit)))
@[reducible] def s161 : SP := ⟨[.radr y6 [.i 0 3]], []⟩
noncomputable def Wm (N : Nat) : av := []
theorem K2 (N : Nat) : aj Tryz.prog (Wm N) := trivial
@[reducible] def w161 : List SP := [⟨[.int .i64], []⟩]
noncomputable def Sp (N : Nat) : ((ByteArray × (Int × (Int × Unit)))) → Option (Int)
  | x0 =>
  some (IntKind.wrap .i64 ((↑(ByteArray.size x0.1) : Int) - x0.2.1))
noncomputable def ah9 (N : Nat) : Pk → Tr Pk := ak s161 w161 (Sp N)
theorem Uk (N : Nat) : aO Tryz.prog 161 (ah9 N) :=
  (ah ai aA (K2 N) Tryz.func161 s161 w161 [] (cuts := []) trivial (fun _ => by kernel_rfl) (by kernel_rfl) (Sp N) (fun x => by kernel_rfl))
@[reducible] def s143 : SP := ⟨[.adr 0 [], .int .i64], [.var (.agg [.str, .int .i64, .int .i64])]⟩
noncomputable def WC (N : Nat) : av := [(142, Yr N), (161, ah9 N)]
theorem Ld (N : Nat) : aj Tryz.prog (WC N) := ⟨Kk N, Uk N, trivial⟩
@[reducible] def w143 : List SP := [⟨[.str], [.var (.agg [.str, .int .i64, .int .i64])]⟩]
noncomputable def Gh (N : Nat) : (Int × ByteArray × Int × Int) → Option (ByteArray × ByteArray × Int × Int)
  | (x0, x1, x2, x3) =>
  ac (decide (x0 < 0)) (
  Option.bind (Nk N ((1 : Int), x1, x2, x3)) fun y0 =>
  ac (y0.2.2 != 0) (
  some ((ByteArray.mk #[], y0.1, y0.2.1, y0.2.2))) (
  ac (decide ((0 : Int) ≤ IntKind.wrap .i64 (y0.2.1 + x0) ∧ IntKind.wrap .i64 (y0.2.1 + x0) ≤ (↑(ByteArray.size y0.1) : Int))) (
  ac (decide ((0 : Int) ≤ IntKind.wrap .i64 (IntKind.wrap .i64 (y0.2.1 + x0) - x0) ∧ IntKind.wrap .i64 (IntKind.wrap .i64 (y0.2.1 + x0) - x0) ≤ (↑(Int.toNat (IntKind.wrap .i64 (y0.2.1 + x0))) : Int))) (
  some ((ByteArray.extract y0.1 (Int.toNat (IntKind.wrap .i64 (IntKind.wrap .i64 (y0.2.1 + x0) - x0))) (Int.toNat (IntKind.wrap .i64 (y0.2.1 + x0))), y0.1, IntKind.wrap .i64 (y0.2.1 + x0), y0.2.2))) (
  none)) (
  none))) (
  Option.bind (Sp N (x1, x2, x3, ())) fun y1 =>
  ac (decide (x0 > y1)) (
  Option.bind (Nk N ((2 : Int), x1, x2, x3)) fun y2 =>
  ac (y2.2.2 != 0) (
  some ((ByteArray.mk #[], y2.1, y2.2.1, y2.2.2))) (
  ac (decide ((0 : Int) ≤ IntKind.wrap .i64 (y2.2.1 + x0) ∧ IntKind.wrap .i64 (y2.2.1 + x0) ≤ (↑(ByteArray.size y2.1) : Int))) (
  ac (decide ((0 : Int) ≤ IntKind.wrap .i64 (IntKind.wrap .i64 (y2.2.1 + x0) - x0) ∧ IntKind.wrap .i64 (IntKind.wrap .i64 (y2.2.1 + x0) - x0) ≤ (↑(Int.toNat (IntKind.wrap .i64 (y2.2.1 + x0))) : Int))) (
  some ((ByteArray.extract y2.1 (Int.toNat (IntKind.wrap .i64 (IntKind.wrap .i64 (y2.2.1 + x0) - x0))) (Int.toNat (IntKind.wrap .i64 (y2.2.1 + x0))), y2.1, IntKind.wrap .i64 (y2.2.1 + x0), y2.2.2))) (
  none)) (
  none))) (
  ac (x3 != 0) (
  some ((ByteArray.mk #[], x1, x2, x3))) (
  ac (decide ((0 : Int) ≤ IntKind.wrap .i64 (x2 + x0) ∧ IntKind.wrap .i64 (x2 + x0) ≤ (↑(ByteArray.size x1) : Int))) (
  ac (decide ((0 : Int) ≤ IntKind.wrap .i64 (IntKind.wrap .i64 (x2 + x0) - x0) ∧ IntKind.wrap .i64 (IntKind.wrap .i64 (x2 + x0) - x0) ≤ (↑(Int.toNat (IntKind.wrap .i64 (x2 + x0))) : Int))) (
  some ((ByteArray.extract x1 (Int.toNat (IntKind.wrap .i64 (IntKind.wrap .i64 (x2 + x0) - x0))) (Int.toNat (IntKind.wrap .i64 (x2 + x0))), x1, IntKind.wrap .i64 (x2 + x0), x3))) (
  none)) (
  none))))
noncomputable def aj3 (N : Nat) : Pk → Tr Pk := ak s143 w143 (Gh N)
theorem Uz (N : Nat) : aO Tryz.prog 143 (aj3 N) :=
  (ah ai aA (Ld N) Tryz.func143 s143 w143 [0] (cuts := []) trivial (fun _ => by kernel_rfl) (by kernel_rfl) (Gh N) (fun x => by kernel_rfl))
@[reducible] def s144 : SP := ⟨[.slp 0 .h .h], [.row (.int .u8) 5]⟩
noncomputable def WB (N : Nat) : av := []
theorem zp (N : Nat) : aj Tryz.prog (WB N) := trivial
@[reducible] def IR : LD := ⟨6, [2, 3, 0], [(.ret, []), (.exit 0, [])], ⟨[.int .i64, .int .i64, .slp 0 .h .h], [.row (.int .u8) 5]⟩, [(.exit 0, ⟨[], [.row (.int .u8) 5]⟩)]⟩
abbrev Iy : Type := Int × Int × Nat × Nat × (List Int)
abbrev Ie : Type := (List Int)
noncomputable def sr (N : Nat) (f : Iy → Option Ie) : Iy → Option Ie
  | (x0, x1, x2, x3, x4) =>
  ac (decide (x0 < x1)) (
  ac (within x1 x3) (
  Option.bind (x4[x2 + Int.toNat x1]?) fun y0 =>
  ac (within x0 x3) (
  Option.bind (x4[x2 + Int.toNat x0]?) fun y1 =>
  ac (within x0 x3) (
  Option.bind (x4[x2 + Int.toNat x0]?) fun y2 =>
  ac (within x1 x3) (
  Option.bind ((List.set x4 (x2 + Int.toNat x0) y0)[x2 + Int.toNat x1]?) fun y3 =>
  Option.bind (f (IntKind.wrap .i64 (x0 + 1), IntKind.wrap .i64 (x1 - 1), x2, x3, List.set (List.set x4 (x2 + Int.toNat x0) y0) (x2 + Int.toNat x1) y1)) fun r => some r) (
  none)) (
  none)) (
  none)) (
  none)) (
  some (x4))
noncomputable def kV (N : Nat) : Nat → Iy → Option Ie
  | 0, _ => none
  | k + 1, x => sr N (kV N k) x
theorem NV (N : Nat) (k : Nat) : ar Tryz.prog Tryz.f144 [0] 6 (IR.cut (kV N k)) :=
  IR.loopT ai aA (zp N) Tryz.f144 [0] (cuts := []) trivial (by decide +kernel) (by kernel_rfl) (sr N) (kV N) (fun _ => rfl) (fun _ _ => rfl) (fun f x => by kernel_rfl) k
@[reducible] def w144 : List SP := [⟨[.tup []], [.row (.int .u8) 5]⟩]
noncomputable def Sy (N : Nat) : (Nat × Nat × (List Int)) → Option ((List Int))
  | (x0, x1, x2) =>
  Option.bind (kV N N ((0 : Int), IntKind.wrap .i64 ((↑x1 : Int) - (1 : Int)), x0, x1, x2)) fun y0 =>
  some (y0)
noncomputable def aj2 (N : Nat) : Pk → Tr Pk := ak s144 w144 (Sy N)
theorem Uy (N : Nat) : aO Tryz.prog 144 (aj2 N) :=
  (ah ai aA (zp N) Tryz.func144 s144 w144 [0] (cuts := [(6, IR.cut (kV N N))]) ⟨NV N N, trivial⟩ (fun _ => by kernel_rfl) (by kernel_rfl) (Sy N) (fun x => by kernel_rfl))
@[reducible] def s115 : SP := ⟨[.str], []⟩
noncomputable def WZ (N : Nat) : av := [(144, aj2 N)]
theorem Ly (N : Nat) : aj Tryz.prog (WZ N) := ⟨Uy N, trivial⟩
@[reducible] def w115 : List SP := [⟨[.str], []⟩]
noncomputable def DF (N : Nat) : (ByteArray) → Option (ByteArray)
  | x0 =>
  ac (decide (ByteArray.size x0 ≤ 140737488355328)) (
  Option.bind (Sy N ((0 : Nat), List.length (bytesOf x0), bytesOf x0)) fun y0 =>
  some (aI y0)) (
  none)
noncomputable def Yy (N : Nat) : Pk → Tr Pk := ak s115 w115 (DF N)
theorem Kp (N : Nat) : aO Tryz.prog 115 (Yy N) :=
  (ah ai aA (Ly N) Tryz.func115 s115 w115 [] (cuts := []) trivial (fun _ => by kernel_rfl) (by kernel_rfl) (DF N) (fun x => by kernel_rfl))
@[reducible] def s114a : SP := ⟨[.adr 0 [], .int .i64, .fn 115], [.var (.agg [.str, .int .i64, .int .i64])]⟩
noncomputable def Tj (N : Nat) : av := [(141, Ys N), (142, Yr N), (143, aj3 N), (115, Yy N)]
theorem uF (N : Nat) : aj Tryz.prog (Tj N) := ⟨Kl N, Kk N, Uz N, Kp N, trivial⟩
@[reducible] def sd : LD := ⟨122, [7, 22, 21, 20], [(.ret, [6]), (.exit 0, [7])], ⟨[.int .i64, .int .i64, .int .i64, .sl 1], [.var (.agg [.str, .int .i64, .int .i64]), .row (.int .u8) 5]⟩, [(.exit 0, ⟨[.int .i64], [.var (.agg [.str, .int .i64, .int .i64])]⟩)]⟩
abbrev r7 : Type := Int × Int × Int × ByteArray × Int × Int × (List Int)
abbrev rP : Type := Int × ByteArray × Int × Int
noncomputable def er (N : Nat) (f : r7 → Option rP) : r7 → Option rP
  | (x0, x1, x2, x3, x4, x5, x6) =>
  ac (decide (x1 < x2)) (
  ac (within x1 (List.length x6)) (
  Option.bind (x6[Int.toNat x1]?) fun y0 =>
  ac (decide (IntKind.wrap .i64 ((8 : Int) * x1) < 0)) (
  none) (
  Option.bind (f (IntKind.wrap .i64 (↑(BitVec.toNat (BitVec.ofInt (64 : Nat) x0 ||| BitVec.ofInt (64 : Nat) (IntKind.wrap .i64 (IntKind.wrap .i64 y0 * 2 ^ min (Int.toNat (IntKind.wrap .i64 ((8 : Int) * x1))) (64 : Nat))))) : Int), IntKind.wrap .i64 (x1 + 1), x2, x3, x4, x5, x6)) fun r => some r)) (
  none)) (
  some ((x0, x3, x4, x5)))
noncomputable def bE (N : Nat) : Nat → r7 → Option rP
  | 0, _ => none
  | k + 1, x => er N (bE N k) x
theorem DJ (N : Nat) (k : Nat) : ar Tryz.prog Tryz.f114 [0] 122 (sd.cut (bE N k)) :=
  sd.loopT ai aA (uF N) Tryz.f114 [0] (cuts := []) trivial (by decide +kernel) (by kernel_rfl) (er N) (bE N) (fun _ => rfl) (fun _ _ => rfl) (fun f x => by kernel_rfl) k
@[reducible] def w114a : List SP := [⟨[.int .i64], [.var (.agg [.str, .int .i64, .int .i64])]⟩]
noncomputable def Gn (N : Nat) : (Int × ByteArray × Int × Int) → Option (Int × ByteArray × Int × Int)
  | (x0, x1, x2, x3) =>
  Option.bind (Nl N x0) fun y0 =>
  ac (!y0) (
  Option.bind (Nk N ((1 : Int), x1, x2, x3)) fun y1 =>
  Option.bind (Gh N (x0, y1.1, y1.2.1, y1.2.2)) fun y2 =>
  Option.bind (DF N y2.1) fun y3 =>
  ac (decide (ByteArray.size y3 ≤ 140737488355328)) (
  Option.bind (bE N N ((0 : Int), (0 : Int), (↑(List.length (bytesOf y3)) : Int), y2.2.1, y2.2.2.1, y2.2.2.2, bytesOf y3)) fun y4 =>
  some ((y4.1, y4.2.1, y4.2.2.1, y4.2.2.2))) (
  none)) (
  Option.bind (Gh N (x0, x1, x2, x3)) fun y5 =>
  Option.bind (DF N y5.1) fun y6 =>
  ac (decide (ByteArray.size y6 ≤ 140737488355328)) (
  Option.bind (bE N N ((0 : Int), (0 : Int), (↑(List.length (bytesOf y6)) : Int), y5.2.1, y5.2.2.1, y5.2.2.2, bytesOf y6)) fun y7 =>
  some ((y7.1, y7.2.1, y7.2.2.1, y7.2.2.2))) (
  none))
noncomputable def V0 (N : Nat) : Pk → Tr Pk := ak s114a w114a (Gn N)
theorem QW (N : Nat) : aO Tryz.prog 114 (V0 N) :=
  (ah ai aA (uF N) Tryz.func114 s114a w114a [0] (cuts := [(122, sd.cut (bE N N))]) ⟨DJ N N, trivial⟩ (fun _ => by kernel_rfl) (by kernel_rfl) (Gn N) (fun x => by kernel_rfl))
noncomputable def al1 (N : Nat) : Pk → Tr Pk := (V0 N)
theorem UR (N : Nat) : aO Tryz.prog 114 (al1 N) := (QW N)
@[reducible] def s78 : SP := ⟨[.adr 0 [], .int .i64], [.var (.agg [.str, .int .i64, .int .i64])]⟩
noncomputable def ZD (N : Nat) : av := [(114, al1 N)]
theorem OB (N : Nat) : aj Tryz.prog (ZD N) := ⟨UR N, trivial⟩
@[reducible] def w78 : List SP := [⟨[.int .i64], [.var (.agg [.str, .int .i64, .int .i64])]⟩]
noncomputable def Va (N : Nat) : (Int × ByteArray × Int × Int) → Option (Int × ByteArray × Int × Int)
  | (x0, x1, x2, x3) =>
  Option.bind (Gn N (x0, x1, x2, x3)) fun y0 =>
  some ((y0.1, y0.2.1, y0.2.2.1, y0.2.2.2))
noncomputable def T78 (N : Nat) : Pk → Tr Pk := ak s78 w78 (Va N)
theorem Q5 (N : Nat) : aO Tryz.prog 78 (T78 N) :=
  (ah ai aA (OB N) Tryz.func78 s78 w78 [0] (cuts := []) trivial (fun _ => by kernel_rfl) (by kernel_rfl) (Va N) (fun x => by kernel_rfl))
@[reducible] def s79 : SP := ⟨[.radr y6 [.i 0 3]], []⟩
noncomputable def ZC (N : Nat) : av := []
theorem OA (N : Nat) : aj Tryz.prog (ZC N) := trivial
@[reducible] def w79 : List SP := [⟨[.int .i64], []⟩]
noncomputable def U9 (N : Nat) : ((ByteArray × (Int × (Int × Unit)))) → Option (Int)
  | x0 =>
  some x0.2.2.1
noncomputable def T79 (N : Nat) : Pk → Tr Pk := ak s79 w79 (U9 N)
theorem Q4 (N : Nat) : aO Tryz.prog 79 (T79 N) :=
  (ah ai aA (OA N) Tryz.func79 s79 w79 [] (cuts := []) trivial (fun _ => by kernel_rfl) (by kernel_rfl) (U9 N) (fun x => by kernel_rfl))
@[reducible] def s35 : SP := ⟨[.str], []⟩
noncomputable def aa8 (N : Nat) : av := [(77, T77 N), (78, T78 N), (79, T79 N)]
theorem OX (N : Nat) : aj Tryz.prog (aa8 N) := ⟨Q6 N, Q5 N, Q4 N, trivial⟩
@[reducible] def w35 : List SP := [⟨[.int .i64], []⟩]
noncomputable def FV (N : Nat) : (ByteArray) → Option (Int)
  | x0 =>
  Option.bind (YD N x0) fun y0 =>
  Option.bind (Va N ((1 : Int), y0.1, y0.2.1, y0.2.2)) fun y1 =>
  Option.bind (Va N ((1 : Int), y1.2.1, y1.2.2.1, y1.2.2.2)) fun y2 =>
  Option.bind (U9 N (y2.2.1, y2.2.2.1, y2.2.2.2, ())) fun y3 =>
  ac (y3 != 0) (
  Option.bind (U9 N (y2.2.1, y2.2.2.1, y2.2.2.2, ())) fun y4 =>
  some (y4)) (
  ac (IntKind.wrap .i64 (↑(BitVec.toNat (BitVec.ofInt (64 : Nat) y1.1 &&& BitVec.ofInt (64 : Nat) (15 : Int))) : Int) != (8 : Int)) (
  some ((100 : Int))) (
  ac (decide (Int.fdiv y1.1 (16 : Int) > (7 : Int))) (
  some ((100 : Int))) (
  ac (IntKind.wrap .i64 (↑(BitVec.toNat (BitVec.ofInt (64 : Nat) y2.1 &&& BitVec.ofInt (64 : Nat) (32 : Int))) : Int) != (0 : Int)) (
  some ((100 : Int))) (
  ac (Int.tmod (IntKind.wrap .i64 (↑(BitVec.toNat (BitVec.ofInt (64 : Nat) (IntKind.wrap .i64 (y1.1 * 256)) ||| BitVec.ofInt (64 : Nat) y2.1)) : Int)) (31 : Int) != (0 : Int)) (
  some ((100 : Int))) (
  some ((0 : Int)))))))
noncomputable def T35 (N : Nat) : Pk → Tr Pk := ak s35 w35 (FV N)
theorem BG (N : Nat) : aO Tryz.prog 35 (T35 N) :=
  (ah ai aA (OX N) Tryz.func35 s35 w35 [] (cuts := []) trivial (fun _ => by kernel_rfl) (by kernel_rfl) (FV N) (fun x => by kernel_rfl))
noncomputable def Oz (N : Nat) : av := [(88, YY N)]
theorem Oy (N : Nat) : aj Tryz.prog (Oz N) := ⟨wj N, trivial⟩
noncomputable def T80 (N : Nat) : Pk → Tr Pk := Hq (yB Tryz.prog ai (Oz N) []) Tryz.f80
theorem Q3 (N : Nat) : aO Tryz.prog 80 (T80 N) :=
  vC (E := yB Tryz.prog ai (Oz N) []) (kA aA (Oy N)) Tryz.func80 (show Tryz.f80.body = some (ta Tryz.f80) by kernel_rfl) (by decide +kernel) (fun _ => dA trivial)
@[reducible] def s37 : SP := ⟨[.adr 0 [], .str], [.var (.agg [.agg [.bool, .str]])]⟩
noncomputable def aa7 (N : Nat) : av := [(31, T31 N), (80, T80 N)]
theorem OW (N : Nat) : aj Tryz.prog (aa7 N) := ⟨Yb N, Q3 N, trivial⟩
@[reducible] def w37 : List SP := [⟨[.str], [.var (.agg [.agg [.bool, .str]])]⟩]
noncomputable def NY (N : Nat) : (ByteArray × Bool × ByteArray) → Option (ByteArray × Bool × ByteArray)
  | (x0, x1, x2) =>
  Option.bind (F31 N (x2, x0)) fun y0 =>
  ac (!x1) (
  ac (decide ((↑((2 : Nat) + ByteArray.size y0) : Int) > (9223372036854775807 : Int))) (
  none) (
  ac (decide ((↑(ByteArray.size x2 + ByteArray.size x0) : Int) > (9223372036854775807 : Int))) (
  none) (
  Option.bind (RI N (x2 ++ x0)) fun y1 =>
  some ((ByteArray.mk #[(120 : UInt8), (156 : UInt8)] ++ y0, true, y1))))) (
  ac (decide ((↑(ByteArray.size x2 + ByteArray.size x0) : Int) > (9223372036854775807 : Int))) (
  none) (
  Option.bind (RI N (x2 ++ x0)) fun y2 =>
  some ((y0, true, y2))))
noncomputable def T37 (N : Nat) : Pk → Tr Pk := ak s37 w37 (NY N)
theorem Rr (N : Nat) : aO Tryz.prog 37 (T37 N) :=
  (ah ai aA (OW N) Tryz.func37 s37 w37 [0] (cuts := []) trivial (fun _ => by kernel_rfl) (by kernel_rfl) (NY N) (fun x => by kernel_rfl))
@[reducible] def s85 : SP := ⟨[.str], []⟩
noncomputable def Zz (N : Nat) : av := []
theorem Ow (N : Nat) : aj Tryz.prog (Zz N) := trivial
@[reducible] def w85 : List SP := [⟨[.adr 0 []], [.var (.agg [.str, .int .i64, .int .i64])]⟩]
noncomputable def F85 (N : Nat) : (ByteArray) → Option (ByteArray × Int × Int)
  | x0 =>
  some ((x0, (0 : Int), (0 : Int)))
noncomputable def T85 (N : Nat) : Pk → Tr Pk := ak s85 w85 (F85 N)
theorem Q1 (N : Nat) : aO Tryz.prog 85 (T85 N) :=
  (ah ai aA (Ow N) Tryz.func85 s85 w85 [] (cuts := []) trivial (fun _ => by kernel_rfl) (by kernel_rfl) (F85 N) (fun x => by kernel_rfl))
@[reducible] def s86 : SP := ⟨[.radr y6 [.i 0 3]], []⟩
noncomputable def Zy (N : Nat) : av := []
theorem Ov (N : Nat) : aj Tryz.prog (Zy N) := trivial
@[reducible] def w86 : List SP := [⟨[.int .i64], []⟩]
noncomputable def U8 (N : Nat) : ((ByteArray × (Int × (Int × Unit)))) → Option (Int)
  | x0 =>
  some (IntKind.wrap .i64 (IntKind.wrap .i64 ((8 : Int) * (↑(ByteArray.size x0.1) : Int)) - x0.2.1))
noncomputable def T86 (N : Nat) : Pk → Tr Pk := ak s86 w86 (U8 N)
theorem HS (N : Nat) : aO Tryz.prog 86 (T86 N) :=
  (ah ai aA (Ov N) Tryz.func86 s86 w86 [] (cuts := []) trivial (fun _ => by kernel_rfl) (by kernel_rfl) (U8 N) (fun x => by kernel_rfl))
@[reducible] def s146 : SP := ⟨[.adr 0 [], .int .i64], [.var (.agg [.str, .int .i64, .int .i64])]⟩
noncomputable def Wz (N : Nat) : av := [(86, T86 N)]
theorem Lb (N : Nat) : aj Tryz.prog (Wz N) := ⟨HS N, trivial⟩
@[reducible] def w146 : List SP := [⟨[.bool], [.var (.agg [.str, .int .i64, .int .i64])]⟩]
noncomputable def yj (N : Nat) : (Int × ByteArray × Int × Int) → Option (Bool × ByteArray × Int × Int)
  | (x0, x1, x2, x3) =>
  ac (x3 == 0) (
  Option.bind (U8 N (x1, x2, x3, ())) fun y0 =>
  ac (decide (x0 > y0)) (
  some ((false, x1, x2, (2 : Int)))) (
  some ((x3 == 0, x1, x2, x3)))) (
  some ((x3 == 0, x1, x2, x3)))
noncomputable def Yq (N : Nat) : Pk → Tr Pk := ak s146 w146 (yj N)
theorem Kj (N : Nat) : aO Tryz.prog 146 (Yq N) :=
  (ah ai aA (Lb N) Tryz.func146 s146 w146 [0] (cuts := []) trivial (fun _ => by kernel_rfl) (by kernel_rfl) (yj N) (fun x => by kernel_rfl))
end Go.Proofs.YteddgkplkjldcaaGreat.Am
