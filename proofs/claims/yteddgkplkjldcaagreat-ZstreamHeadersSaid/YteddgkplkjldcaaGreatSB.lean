/- The seat's Go functions come to the Lean functions written here, wherever these give an answer (part B). -/
import Derived.Test.YteddgkplkjldcaaGreatSA
set_option linter.unusedVariables false
set_option maxRecDepth 100000
namespace Go.Proofs.YteddgkplkjldcaaGreat.Am
open Go.Am
@[reducible] def s75 : SP := ⟨[.adr 0 [], .str, .str, .bool], [.var (.agg [.sl 1, .int .i64, .int .i64]), .row (.int .u8) 5]⟩
noncomputable def tab75 (N : Nat) : List (Nat × (Pk → Tr Pk)) := [(110, T110 N), (111, T111 N)]
theorem tab75_ok (N : Nat) : TabOK Tryz.prog (tab75 N) := ⟨T110_ok N, T111_ok N, trivial⟩
@[reducible] def L75_7322 : LD := ⟨7322, [11, 30, 29, 0, 3, 2, 10, 8, 28], [(.ret, []), (.exit 2, [8, 10, 2, 11, 3, 0]), (.exit 1, [3, 0, 2, 8]), (.exit 0, [])], ⟨[.int .i64, .int .i64, .int .i64, .adr 0 [], .bool, .str, .int .i64, .sl 1, .slp 1 (.c 0) .h], [.var (.agg [.sl 2, .int .i64, .int .i64]), .row y0 52, .row (.int .u8) 5]⟩, [(.exit 2, ⟨[.sl 1, .int .i64, .str, .int .i64, .bool, .adr 0 []], [.var (.agg [.sl 2, .int .i64, .int .i64]), .row y0 52, .row (.int .u8) 5]⟩)]⟩
abbrev P75_7322 : Type := Int × Int × Int × Bool × ByteArray × Int × Nat × Int × Int × (List (Int × (Int × (Int × Unit)))) × (List Int)
abbrev R75_7322 : Type := Int × ByteArray × Int × Bool × Int × Int × (List (Int × (Int × (Int × Unit)))) × (List Int)
noncomputable def B75_7322 (N : Nat) (f : P75_7322 → Option R75_7322) : P75_7322 → Option R75_7322
  | (x0, x1, x2, x3, x4, x5, x6, x7, x8, x9, x10) =>
  iteP (decide (x1 < x2)) (
    iteP (within x1 x6) (
      Option.bind (x9[(0 : Nat) + Int.toNat x1]?) fun y0 =>
      Option.bind (f (IntKind.wrap IntKind.i64 (x0 + if (1 : Int) > y0.2.1 then (1 : Int) else y0.2.1), IntKind.wrap IntKind.i64 (x1 + (1 : Int)), x2, x3, x4, x5, x6, x7, x8, x9, x10)) fun r => some r) (
      none)) (
    some ((x5, x4, x0, x3, x7, x8, x9, x10)))
noncomputable def F75_7322 (N : Nat) : Nat → P75_7322 → Option R75_7322
  | 0, _ => none
  | k + 1, x => B75_7322 N (F75_7322 N k) x
noncomputable def C75_7322 (N : Nat) (k : Nat) : Cut := L75_7322.cut (F75_7322 N k)
theorem C75_7322_ok (N : Nat) (k : Nat) : CutAt Tryz.prog Tryz.f75 [0] 7322 (C75_7322 N k) :=
  L75_7322.loopT ownT mix (tab75_ok N) Tryz.f75 [0] (cuts := []) trivial (by decide +kernel) (by kernel_rfl) (B75_7322 N) (F75_7322 N) (fun _ => rfl) (fun _ _ => rfl) (fun f x => by kernel_rfl) k
@[reducible] def L75_7322b : LD := ⟨7322, [11, 30, 29, 0, 3, 2, 10, 8, 28], [(.ret, []), (.exit 2, [8, 10, 2, 11, 3, 0]), (.exit 1, [3, 0, 2, 8]), (.exit 0, [])], ⟨[.int .i64, .int .i64, .int .i64, .adr 0 [], .bool, .str, .int .i64, .slp 1 .h .h, .slp 1 .h .h], [.var (.agg [.sl 2, .int .i64, .int .i64]), .row y0 52, .row (.int .u8) 5]⟩, [(.exit 2, ⟨[.slp 1 .h .h, .int .i64, .str, .int .i64, .bool, .adr 0 []], [.var (.agg [.sl 2, .int .i64, .int .i64]), .row y0 52, .row (.int .u8) 5]⟩)]⟩
abbrev P75_7322b : Type := Int × Int × Int × Bool × ByteArray × Int × Nat × Nat × Nat × Nat × Int × Int × (List (Int × (Int × (Int × Unit)))) × (List Int)
abbrev R75_7322b : Type := Nat × Nat × Int × ByteArray × Int × Bool × Int × Int × (List (Int × (Int × (Int × Unit)))) × (List Int)
noncomputable def B75_7322b (N : Nat) (f : P75_7322b → Option R75_7322b) : P75_7322b → Option R75_7322b
  | (x0, x1, x2, x3, x4, x5, x6, x7, x8, x9, x10, x11, x12, x13) =>
  iteP (decide (x1 < x2)) (
    iteP (within x1 x9) (
      Option.bind (x12[x8 + Int.toNat x1]?) fun y0 =>
      Option.bind (f (IntKind.wrap IntKind.i64 (x0 + if (1 : Int) > y0.2.1 then (1 : Int) else y0.2.1), IntKind.wrap IntKind.i64 (x1 + (1 : Int)), x2, x3, x4, x5, x6, x7, x8, x9, x10, x11, x12, x13)) fun r => some r) (
      none)) (
    some ((x6, x7, x5, x4, x0, x3, x10, x11, x12, x13)))
noncomputable def F75_7322b (N : Nat) : Nat → P75_7322b → Option R75_7322b
  | 0, _ => none
  | k + 1, x => B75_7322b N (F75_7322b N k) x
noncomputable def C75_7322b (N : Nat) (k : Nat) : Cut := L75_7322b.cut (F75_7322b N k)
theorem C75_7322b_ok (N : Nat) (k : Nat) : CutAt Tryz.prog Tryz.f75 [0] 7322 (C75_7322b N k) :=
  L75_7322b.loopT ownT mix (tab75_ok N) Tryz.f75 [0] (cuts := [(7322, C75_7322 N N)]) ⟨C75_7322_ok N N, trivial⟩ (by decide +kernel) (by kernel_rfl) (B75_7322b N) (F75_7322b N) (fun _ => rfl) (fun _ _ => rfl) (fun f x => by kernel_rfl) k
@[reducible] def L75_14n : LD := ⟨14, [9, 3, 0, 2, 8], [(.ret, []), (.exit 0, [])], ⟨[.bool, .bool, .adr 0 [], .str, .slp 1 .h .h], [.var (.agg [.sl 2, .int .i64, .int .i64]), .row y0 52, .row (.int .u8) 5]⟩, [(.exit 0, ⟨[], [.var (.agg [.sl 1, .int .i64, .int .i64]), .row (.int .u8) 5]⟩)]⟩
abbrev P75_14n : Type := Bool × Bool × ByteArray × Nat × Nat × Int × Int × (List (Int × (Int × (Int × Unit)))) × (List Int)
abbrev R75_14n : Type := Int × Int × (List Int)
noncomputable def B75_14n (N : Nat) (f : P75_14n → Option R75_14n) : P75_14n → Option R75_14n
  | (x0, x1, x2, x3, x4, x5, x6, x7, x8) =>
  iteP (x0) (
    iteP (decide (((0 : Int) ≤ if (8192 : Int) < (↑x4 : Int) then (8192 : Int) else (↑x4 : Int)) ∧ (if (8192 : Int) < (↑x4 : Int) then (8192 : Int) else (↑x4 : Int)) ≤ (↑x4 : Int))) (
      Option.bind (F75_7322b N N ((0 : Int), (0 : Int), (↑(Int.toNat (if (8192 : Int) < (↑x4 : Int) then (8192 : Int) else (↑x4 : Int)) - (0 : Nat)) : Int), x1, x2, if (8192 : Int) < (↑x4 : Int) then (8192 : Int) else (↑x4 : Int), x3, x4, x3 + (0 : Nat), Int.toNat (if (8192 : Int) < (↑x4 : Int) then (8192 : Int) else (↑x4 : Int)) - (0 : Nat), x5, x6, x7, x8)) fun y0 =>
      iteP (decide ((0 : Int) ≤ y0.2.2.1 ∧ y0.2.2.1 ≤ (↑y0.2.1 : Int))) (
        iteP (decide ((0 : Int) ≤ y0.2.2.2.2.1 ∧ y0.2.2.2.2.1 ≤ (↑(ByteArray.size y0.2.2.2.1) : Int))) (
          iteP y0.2.2.2.2.2.1 (
            Option.bind (F111 N (List.take (Int.toNat y0.2.2.1 - (0 : Nat)) (List.drop (y0.1 + (0 : Nat)) y0.2.2.2.2.2.2.2.2.1), ByteArray.extract y0.2.2.2.1 (0 : Nat) (Int.toNat y0.2.2.2.2.1), y0.2.2.1 == (↑y0.2.1 : Int), y0.2.2.2.2.2.2.1, y0.2.2.2.2.2.2.2.1, y0.2.2.2.2.2.2.2.2.2)) fun y1 =>
            iteP (decide ((0 : Int) ≤ y0.2.2.1 ∧ y0.2.2.1 ≤ (↑y0.2.1 : Int))) (
              iteP (decide ((0 : Int) ≤ y0.2.2.2.2.1 ∧ y0.2.2.2.2.1 ≤ (↑(ByteArray.size y0.2.2.2.1) : Int))) (
                Option.bind (f (false, y0.2.2.2.2.2.1, ByteArray.extract y0.2.2.2.1 (Int.toNat y0.2.2.2.2.1) (ByteArray.size y0.2.2.2.1), y0.1 + Int.toNat y0.2.2.1, y0.2.1 - Int.toNat y0.2.2.1, y1.1, y1.2.1, y0.2.2.2.2.2.2.2.2.1, y1.2.2)) fun r => some r) (
                none)) (
              none)) (
            Option.bind (F111 N (List.take (Int.toNat y0.2.2.1 - (0 : Nat)) (List.drop (y0.1 + (0 : Nat)) y0.2.2.2.2.2.2.2.2.1), ByteArray.extract y0.2.2.2.1 (0 : Nat) (Int.toNat y0.2.2.2.2.1), false, y0.2.2.2.2.2.2.1, y0.2.2.2.2.2.2.2.1, y0.2.2.2.2.2.2.2.2.2)) fun y2 =>
            iteP (decide ((0 : Int) ≤ y0.2.2.1 ∧ y0.2.2.1 ≤ (↑y0.2.1 : Int))) (
              iteP (decide ((0 : Int) ≤ y0.2.2.2.2.1 ∧ y0.2.2.2.2.1 ≤ (↑(ByteArray.size y0.2.2.2.1) : Int))) (
                Option.bind (f (false, y0.2.2.2.2.2.1, ByteArray.extract y0.2.2.2.1 (Int.toNat y0.2.2.2.2.1) (ByteArray.size y0.2.2.2.1), y0.1 + Int.toNat y0.2.2.1, y0.2.1 - Int.toNat y0.2.2.1, y2.1, y2.2.1, y0.2.2.2.2.2.2.2.2.1, y2.2.2)) fun r => some r) (
                none)) (
              none))) (
          none)) (
        none)) (
      none)) (
    iteP (decide ((↑x4 : Int) > (0 : Int))) (
      iteP (decide (((0 : Int) ≤ if (8192 : Int) < (↑x4 : Int) then (8192 : Int) else (↑x4 : Int)) ∧ (if (8192 : Int) < (↑x4 : Int) then (8192 : Int) else (↑x4 : Int)) ≤ (↑x4 : Int))) (
        Option.bind (F75_7322b N N ((0 : Int), (0 : Int), (↑(Int.toNat (if (8192 : Int) < (↑x4 : Int) then (8192 : Int) else (↑x4 : Int)) - (0 : Nat)) : Int), x1, x2, if (8192 : Int) < (↑x4 : Int) then (8192 : Int) else (↑x4 : Int), x3, x4, x3 + (0 : Nat), Int.toNat (if (8192 : Int) < (↑x4 : Int) then (8192 : Int) else (↑x4 : Int)) - (0 : Nat), x5, x6, x7, x8)) fun y3 =>
        iteP (decide ((0 : Int) ≤ y3.2.2.1 ∧ y3.2.2.1 ≤ (↑y3.2.1 : Int))) (
          iteP (decide ((0 : Int) ≤ y3.2.2.2.2.1 ∧ y3.2.2.2.2.1 ≤ (↑(ByteArray.size y3.2.2.2.1) : Int))) (
            iteP y3.2.2.2.2.2.1 (
              Option.bind (F111 N (List.take (Int.toNat y3.2.2.1 - (0 : Nat)) (List.drop (y3.1 + (0 : Nat)) y3.2.2.2.2.2.2.2.2.1), ByteArray.extract y3.2.2.2.1 (0 : Nat) (Int.toNat y3.2.2.2.2.1), y3.2.2.1 == (↑y3.2.1 : Int), y3.2.2.2.2.2.2.1, y3.2.2.2.2.2.2.2.1, y3.2.2.2.2.2.2.2.2.2)) fun y4 =>
              iteP (decide ((0 : Int) ≤ y3.2.2.1 ∧ y3.2.2.1 ≤ (↑y3.2.1 : Int))) (
                iteP (decide ((0 : Int) ≤ y3.2.2.2.2.1 ∧ y3.2.2.2.2.1 ≤ (↑(ByteArray.size y3.2.2.2.1) : Int))) (
                  Option.bind (f (false, y3.2.2.2.2.2.1, ByteArray.extract y3.2.2.2.1 (Int.toNat y3.2.2.2.2.1) (ByteArray.size y3.2.2.2.1), y3.1 + Int.toNat y3.2.2.1, y3.2.1 - Int.toNat y3.2.2.1, y4.1, y4.2.1, y3.2.2.2.2.2.2.2.2.1, y4.2.2)) fun r => some r) (
                  none)) (
                none)) (
              Option.bind (F111 N (List.take (Int.toNat y3.2.2.1 - (0 : Nat)) (List.drop (y3.1 + (0 : Nat)) y3.2.2.2.2.2.2.2.2.1), ByteArray.extract y3.2.2.2.1 (0 : Nat) (Int.toNat y3.2.2.2.2.1), false, y3.2.2.2.2.2.2.1, y3.2.2.2.2.2.2.2.1, y3.2.2.2.2.2.2.2.2.2)) fun y5 =>
              iteP (decide ((0 : Int) ≤ y3.2.2.1 ∧ y3.2.2.1 ≤ (↑y3.2.1 : Int))) (
                iteP (decide ((0 : Int) ≤ y3.2.2.2.2.1 ∧ y3.2.2.2.2.1 ≤ (↑(ByteArray.size y3.2.2.2.1) : Int))) (
                  Option.bind (f (false, y3.2.2.2.2.2.1, ByteArray.extract y3.2.2.2.1 (Int.toNat y3.2.2.2.2.1) (ByteArray.size y3.2.2.2.1), y3.1 + Int.toNat y3.2.2.1, y3.2.1 - Int.toNat y3.2.2.1, y5.1, y5.2.1, y3.2.2.2.2.2.2.2.2.1, y5.2.2)) fun r => some r) (
                  none)) (
                none))) (
            none)) (
          none)) (
        none)) (
      some ((x5, x6, x8))))
noncomputable def F75_14n (N : Nat) : Nat → P75_14n → Option R75_14n
  | 0, _ => none
  | k + 1, x => B75_14n N (F75_14n N k) x
noncomputable def C75_14n (N : Nat) (k : Nat) : Cut := L75_14n.cut (F75_14n N k)
theorem C75_14n_ok (N : Nat) (k : Nat) : CutAt Tryz.prog Tryz.f75 [0] 14 (C75_14n N k) :=
  L75_14n.loopT ownT mix (tab75_ok N) Tryz.f75 [0] (cuts := [(7322, orC L75_7322.s.I (C75_7322 N N) (C75_7322b N N))]) ⟨fun c' h => orC_ok (C75_7322_ok N N c' h) (C75_7322b_ok N N c' h) rfl rfl, trivial⟩ (by decide +kernel) (by kernel_rfl) (B75_14n N) (F75_14n N) (fun _ => rfl) (fun _ _ => rfl) (fun f x => by kernel_rfl) k
@[reducible] def L75_14 : LD := ⟨14, L75_14n.live, L75_14n.out, ⟨[.bool, .bool, .adr 0 [], .str, .sl 1], [.var (.agg [.sl 2, .int .i64, .int .i64]), .row y0 52, .row (.int .u8) 5]⟩, L75_14n.w⟩
noncomputable def B75_14 (N : Nat) (f : (Bool × Bool × ByteArray × Nat × Nat × Int × Int × (List (Int × (Int × (Int × Unit)))) × (List Int)) → Option (Int × Int × (List Int))) : (Bool × Bool × ByteArray × Int × Int × (List (Int × (Int × (Int × Unit)))) × (List Int)) → Option (Int × Int × (List Int))
  | (x0, x1, x2, x3, x4, x5, x6) =>
  iteP (x0) (
    iteP (decide (((0 : Int) ≤ if (8192 : Int) < (↑(List.length x5) : Int) then (8192 : Int) else (↑(List.length x5) : Int)) ∧ (if (8192 : Int) < (↑(List.length x5) : Int) then (8192 : Int) else (↑(List.length x5) : Int)) ≤ (↑(List.length x5) : Int))) (
      Option.bind (F75_7322 N N ((0 : Int), (0 : Int), (↑(Int.toNat (if (8192 : Int) < (↑(List.length x5) : Int) then (8192 : Int) else (↑(List.length x5) : Int)) - (0 : Nat)) : Int), x1, x2, if (8192 : Int) < (↑(List.length x5) : Int) then (8192 : Int) else (↑(List.length x5) : Int), Int.toNat (if (8192 : Int) < (↑(List.length x5) : Int) then (8192 : Int) else (↑(List.length x5) : Int)) - (0 : Nat), x3, x4, x5, x6)) fun y0 =>
      iteP (decide ((0 : Int) ≤ y0.1 ∧ y0.1 ≤ (↑(List.length y0.2.2.2.2.2.2.1) : Int))) (
        iteP (decide ((0 : Int) ≤ y0.2.2.1 ∧ y0.2.2.1 ≤ (↑(ByteArray.size y0.2.1) : Int))) (
          iteP y0.2.2.2.1 (
            Option.bind (F111 N (List.take (Int.toNat y0.1 - (0 : Nat)) (List.drop (0 : Nat) y0.2.2.2.2.2.2.1), ByteArray.extract y0.2.1 (0 : Nat) (Int.toNat y0.2.2.1), y0.1 == (↑(List.length y0.2.2.2.2.2.2.1) : Int), y0.2.2.2.2.1, y0.2.2.2.2.2.1, y0.2.2.2.2.2.2.2)) fun y1 =>
            iteP (decide ((0 : Int) ≤ y0.1 ∧ y0.1 ≤ (↑(List.length y0.2.2.2.2.2.2.1) : Int))) (
              iteP (decide ((0 : Int) ≤ y0.2.2.1 ∧ y0.2.2.1 ≤ (↑(ByteArray.size y0.2.1) : Int))) (
                Option.bind (f (false, y0.2.2.2.1, ByteArray.extract y0.2.1 (Int.toNat y0.2.2.1) (ByteArray.size y0.2.1), Int.toNat y0.1, List.length y0.2.2.2.2.2.2.1 - Int.toNat y0.1, y1.1, y1.2.1, y0.2.2.2.2.2.2.1, y1.2.2)) fun r => some r) (
                none)) (
              none)) (
            Option.bind (F111 N (List.take (Int.toNat y0.1 - (0 : Nat)) (List.drop (0 : Nat) y0.2.2.2.2.2.2.1), ByteArray.extract y0.2.1 (0 : Nat) (Int.toNat y0.2.2.1), false, y0.2.2.2.2.1, y0.2.2.2.2.2.1, y0.2.2.2.2.2.2.2)) fun y2 =>
            iteP (decide ((0 : Int) ≤ y0.1 ∧ y0.1 ≤ (↑(List.length y0.2.2.2.2.2.2.1) : Int))) (
              iteP (decide ((0 : Int) ≤ y0.2.2.1 ∧ y0.2.2.1 ≤ (↑(ByteArray.size y0.2.1) : Int))) (
                Option.bind (f (false, y0.2.2.2.1, ByteArray.extract y0.2.1 (Int.toNat y0.2.2.1) (ByteArray.size y0.2.1), Int.toNat y0.1, List.length y0.2.2.2.2.2.2.1 - Int.toNat y0.1, y2.1, y2.2.1, y0.2.2.2.2.2.2.1, y2.2.2)) fun r => some r) (
                none)) (
              none))) (
          none)) (
        none)) (
      none)) (
    iteP (decide ((↑(List.length x5) : Int) > (0 : Int))) (
      iteP (decide (((0 : Int) ≤ if (8192 : Int) < (↑(List.length x5) : Int) then (8192 : Int) else (↑(List.length x5) : Int)) ∧ (if (8192 : Int) < (↑(List.length x5) : Int) then (8192 : Int) else (↑(List.length x5) : Int)) ≤ (↑(List.length x5) : Int))) (
        Option.bind (F75_7322 N N ((0 : Int), (0 : Int), (↑(Int.toNat (if (8192 : Int) < (↑(List.length x5) : Int) then (8192 : Int) else (↑(List.length x5) : Int)) - (0 : Nat)) : Int), x1, x2, if (8192 : Int) < (↑(List.length x5) : Int) then (8192 : Int) else (↑(List.length x5) : Int), Int.toNat (if (8192 : Int) < (↑(List.length x5) : Int) then (8192 : Int) else (↑(List.length x5) : Int)) - (0 : Nat), x3, x4, x5, x6)) fun y3 =>
        iteP (decide ((0 : Int) ≤ y3.1 ∧ y3.1 ≤ (↑(List.length y3.2.2.2.2.2.2.1) : Int))) (
          iteP (decide ((0 : Int) ≤ y3.2.2.1 ∧ y3.2.2.1 ≤ (↑(ByteArray.size y3.2.1) : Int))) (
            iteP y3.2.2.2.1 (
              Option.bind (F111 N (List.take (Int.toNat y3.1 - (0 : Nat)) (List.drop (0 : Nat) y3.2.2.2.2.2.2.1), ByteArray.extract y3.2.1 (0 : Nat) (Int.toNat y3.2.2.1), y3.1 == (↑(List.length y3.2.2.2.2.2.2.1) : Int), y3.2.2.2.2.1, y3.2.2.2.2.2.1, y3.2.2.2.2.2.2.2)) fun y4 =>
              iteP (decide ((0 : Int) ≤ y3.1 ∧ y3.1 ≤ (↑(List.length y3.2.2.2.2.2.2.1) : Int))) (
                iteP (decide ((0 : Int) ≤ y3.2.2.1 ∧ y3.2.2.1 ≤ (↑(ByteArray.size y3.2.1) : Int))) (
                  Option.bind (f (false, y3.2.2.2.1, ByteArray.extract y3.2.1 (Int.toNat y3.2.2.1) (ByteArray.size y3.2.1), Int.toNat y3.1, List.length y3.2.2.2.2.2.2.1 - Int.toNat y3.1, y4.1, y4.2.1, y3.2.2.2.2.2.2.1, y4.2.2)) fun r => some r) (
                  none)) (
                none)) (
              Option.bind (F111 N (List.take (Int.toNat y3.1 - (0 : Nat)) (List.drop (0 : Nat) y3.2.2.2.2.2.2.1), ByteArray.extract y3.2.1 (0 : Nat) (Int.toNat y3.2.2.1), false, y3.2.2.2.2.1, y3.2.2.2.2.2.1, y3.2.2.2.2.2.2.2)) fun y5 =>
              iteP (decide ((0 : Int) ≤ y3.1 ∧ y3.1 ≤ (↑(List.length y3.2.2.2.2.2.2.1) : Int))) (
                iteP (decide ((0 : Int) ≤ y3.2.2.1 ∧ y3.2.2.1 ≤ (↑(ByteArray.size y3.2.1) : Int))) (
                  Option.bind (f (false, y3.2.2.2.1, ByteArray.extract y3.2.1 (Int.toNat y3.2.2.1) (ByteArray.size y3.2.1), Int.toNat y3.1, List.length y3.2.2.2.2.2.2.1 - Int.toNat y3.1, y5.1, y5.2.1, y3.2.2.2.2.2.2.1, y5.2.2)) fun r => some r) (
                  none)) (
                none))) (
            none)) (
          none)) (
        none)) (
      some ((x3, x4, x6))))
noncomputable def F75_14 (N : Nat) (k : Nat) : (Bool × Bool × ByteArray × Int × Int × (List (Int × (Int × (Int × Unit)))) × (List Int)) → Option (Int × Int × (List Int)) := B75_14 N (F75_14n N k)
noncomputable def C75_14 (N : Nat) (k : Nat) : Cut := L75_14.cut (F75_14 N k)
theorem C75_14_ok (N : Nat) (k : Nat) : CutAt Tryz.prog Tryz.f75 [0] 14 (C75_14 N k) :=
  L75_14.loop2T ownT mix (tab75_ok N) L75_14n.s Tryz.f75 [0] (cuts := [(7322, orC L75_7322.s.I (C75_7322 N N) (C75_7322b N N)), (14, C75_14n N N)]) ⟨fun c' h => orC_ok (C75_7322_ok N N c' h) (C75_7322b_ok N N c' h) rfl rfl, C75_14n_ok N N, trivial⟩ (by decide +kernel) (by kernel_rfl) (B75_14 N) (B75_14n N) (F75_14n N) (fun _ => rfl) (fun _ _ => rfl) (fun f g x => by kernel_rfl) (fun f g x => by kernel_rfl) k
@[reducible] def w75 : List SP := [⟨[.tup []], [.var (.agg [.sl 1, .int .i64, .int .i64]), .row (.int .u8) 5]⟩]
noncomputable def F75 (N : Nat) : (ByteArray × ByteArray × Bool × Int × Int × (List Int)) → Option (Int × Int × (List Int))
  | (x0, x1, x2, x3, x4, x5) =>
  Option.bind (F110 N (x0, x1)) fun y0 =>
  Option.bind (F75_14 N N (true, x2, x1, x3, x4, y0, x5)) fun y1 =>
  some ((y1.1, y1.2.1, y1.2.2))
noncomputable def T75 (N : Nat) : Pk → Tr Pk := tellS s75 w75 (F75 N)
theorem T75_ok (N : Nat) : FOK Tryz.prog 75 (T75 N) :=
  (fn_ok ownT mix (tab75_ok N) Tryz.func75 (show Tryz.f75.body = some (bod Tryz.f75) by kernel_rfl) (by decide +kernel) s75 w75 [0] (cuts := [(7322, orC L75_7322.s.I (C75_7322 N N) (C75_7322b N N)), (14, orC L75_14n.s.I (C75_14n N N) (C75_14 N N))]) ⟨fun c' h => orC_ok (C75_7322_ok N N c' h) (C75_7322b_ok N N c' h) rfl rfl, fun c' h => orC_ok (C75_14n_ok N N c' h) (C75_14_ok N N c' h) rfl rfl, trivial⟩ (fun _ => by kernel_rfl) (by decide +kernel) (F75 N) (fun x => by kernel_rfl))
@[reducible] def s19 : SP := ⟨[.radr y1 [.i 0 3]], []⟩
noncomputable def tab19 (N : Nat) : List (Nat × (Pk → Tr Pk)) := []
theorem tab19_ok (N : Nat) : TabOK Tryz.prog (tab19 N) := trivial
@[reducible] def w19 : List SP := [⟨[.str], []⟩]
noncomputable def F19 (N : Nat) : (((List Int) × (Int × (Int × Unit)))) → Option (ByteArray)
  | x0 =>
  iteP (decide (x0.2.2.1 > (0 : Int))) (
    iteP (decide ((↑(ByteArray.size (stringOf x0.1) + ByteArray.size (stringOf [IntKind.wrap IntKind.u8 x0.2.1])) : Int) > (9223372036854775807 : Int))) (
      none) (
      some (stringOf x0.1 ++ stringOf [IntKind.wrap IntKind.u8 x0.2.1]))) (
    some (stringOf x0.1))
noncomputable def T19 (N : Nat) : Pk → Tr Pk := tellS s19 w19 (F19 N)
theorem T19_ok (N : Nat) : FOK Tryz.prog 19 (T19 N) :=
  (fn_ok ownT mix (tab19_ok N) Tryz.func19 (show Tryz.f19.body = some (bod Tryz.f19) by kernel_rfl) (by decide +kernel) s19 w19 [] (cuts := []) trivial (fun _ => by kernel_rfl) (by decide +kernel) (F19 N) (fun x => by kernel_rfl))
@[reducible] def s30 : SP := ⟨[.str, .str], []⟩
noncomputable def tab30 (N : Nat) : List (Nat × (Pk → Tr Pk)) := [(75, T75 N), (19, T19 N)]
theorem tab30_ok (N : Nat) : TabOK Tryz.prog (tab30 N) := ⟨T75_ok N, T19_ok N, trivial⟩
@[reducible] def w30 : List SP := [⟨[.str], []⟩]
noncomputable def F30 (N : Nat) : (ByteArray × ByteArray) → Option (ByteArray)
  | (x0, x1) =>
  Option.bind (F75 N (x0, x1, true, (0 : Int), (0 : Int), [])) fun y0 =>
  Option.bind (F19 N (y0.2.2, y0.1, y0.2.1, ())) fun y1 =>
  some (y1)
noncomputable def T30 (N : Nat) : Pk → Tr Pk := tellS s30 w30 (F30 N)
theorem T30_ok (N : Nat) : FOK Tryz.prog 30 (T30 N) :=
  (fn_ok ownT mix (tab30_ok N) Tryz.func30 (show Tryz.f30.body = some (bod Tryz.f30) by kernel_rfl) (by decide +kernel) s30 w30 [] (cuts := []) trivial (fun _ => by kernel_rfl) (by decide +kernel) (F30 N) (fun x => by kernel_rfl))
@[reducible] def y5 : Ty := (.cons (.sl .bool) (.cons (.int .i64) (.cons (.int .i64) .unit)))
@[reducible] def s31 : SP := ⟨[.str, .str], []⟩
noncomputable def tab31 (N : Nat) : List (Nat × (Pk → Tr Pk)) := [(75, T75 N), (15, T15 N), (19, T19 N)]
theorem tab31_ok (N : Nat) : TabOK Tryz.prog (tab31 N) := ⟨T75_ok N, T15_ok N, T19_ok N, trivial⟩
@[reducible] def w31 : List SP := [⟨[.str], []⟩]
noncomputable def F31 (N : Nat) : (ByteArray × ByteArray) → Option (ByteArray)
  | (x0, x1) =>
  iteP (!ByteArray.toList x1 == []) (
    Option.bind (F75 N (x0, x1, false, (0 : Int), (0 : Int), [])) fun y0 =>
    Option.bind (F15 N (ByteArray.mk #[], false, y0.1, y0.2.1, y0.2.2)) fun y1 =>
    Option.bind (F19 N (y1.2.2, y1.1, y1.2.1, ())) fun y2 =>
    some (y2)) (
    Option.bind (F15 N (ByteArray.mk #[], false, (0 : Int), (0 : Int), [])) fun y3 =>
    Option.bind (F19 N (y3.2.2, y3.1, y3.2.1, ())) fun y4 =>
    some (y4))
noncomputable def T31 (N : Nat) : Pk → Tr Pk := tellS s31 w31 (F31 N)
theorem T31_ok (N : Nat) : FOK Tryz.prog 31 (T31 N) :=
  (fn_ok ownT mix (tab31_ok N) Tryz.func31 (show Tryz.f31.body = some (bod Tryz.f31) by kernel_rfl) (by decide +kernel) s31 w31 [] (cuts := []) trivial (fun _ => by kernel_rfl) (by decide +kernel) (F31 N) (fun x => by kernel_rfl))
@[reducible] def s3 : SP := ⟨[.int .i64, .str, .bool], []⟩
@[reducible] def w3 : List SP := [⟨[.bool], []⟩]
@[reducible] def s4 : SP := ⟨[.int .i64, .ro (.int .i64), .ro (.int .i64)], []⟩
@[reducible] def s77 : SP := ⟨[.str], []⟩
noncomputable def tab77 (N : Nat) : List (Nat × (Pk → Tr Pk)) := []
theorem tab77_ok (N : Nat) : TabOK Tryz.prog (tab77 N) := trivial
@[reducible] def w77 : List SP := [⟨[.adr 0 []], [.var (.agg [.str, .int .i64, .int .i64])]⟩]
noncomputable def F77 (N : Nat) : (ByteArray) → Option (ByteArray × Int × Int)
  | x0 =>
  some ((x0, (0 : Int), (0 : Int)))
noncomputable def T77 (N : Nat) : Pk → Tr Pk := tellS s77 w77 (F77 N)
theorem T77_ok (N : Nat) : FOK Tryz.prog 77 (T77 N) :=
  (fn_ok ownT mix (tab77_ok N) Tryz.func77 (show Tryz.f77.body = some (bod Tryz.f77) by kernel_rfl) (by decide +kernel) s77 w77 [] (cuts := []) trivial (fun _ => by kernel_rfl) (by decide +kernel) (F77 N) (fun x => by kernel_rfl))
@[reducible] def s141 : SP := ⟨[.int .i64], []⟩
noncomputable def tab141 (N : Nat) : List (Nat × (Pk → Tr Pk)) := []
theorem tab141_ok (N : Nat) : TabOK Tryz.prog (tab141 N) := trivial
@[reducible] def w141 : List SP := [⟨[.bool], []⟩]
noncomputable def F141 (N : Nat) : (Int) → Option (Bool)
  | x0 =>
  iteP (x0 == (1 : Int)) (
    some (true)) (
    iteP (x0 == (2 : Int)) (
      some (true)) (
      some (x0 == (4 : Int))))
noncomputable def T141 (N : Nat) : Pk → Tr Pk := tellS s141 w141 (F141 N)
theorem T141_ok (N : Nat) : FOK Tryz.prog 141 (T141 N) :=
  (fn_ok ownT mix (tab141_ok N) Tryz.func141 (show Tryz.f141.body = some (bod Tryz.f141) by kernel_rfl) (by decide +kernel) s141 w141 [] (cuts := []) trivial (fun _ => by kernel_rfl) (by decide +kernel) (F141 N) (fun x => by kernel_rfl))
@[reducible] def s142 : SP := ⟨[.adr 0 [], .int .i64], [.var (.agg [.str, .int .i64, .int .i64])]⟩
noncomputable def tab142 (N : Nat) : List (Nat × (Pk → Tr Pk)) := []
theorem tab142_ok (N : Nat) : TabOK Tryz.prog (tab142 N) := trivial
@[reducible] def w142 : List SP := [⟨[.tup []], [.var (.agg [.str, .int .i64, .int .i64])]⟩]
noncomputable def F142 (N : Nat) : (Int × ByteArray × Int × Int) → Option (ByteArray × Int × Int)
  | (x0, x1, x2, x3) =>
  iteP (x3 == (0 : Int)) (
    some ((x1, x2, x0))) (
    some ((x1, x2, x3)))
noncomputable def T142 (N : Nat) : Pk → Tr Pk := tellS s142 w142 (F142 N)
theorem T142_ok (N : Nat) : FOK Tryz.prog 142 (T142 N) :=
  (fn_ok ownT mix (tab142_ok N) Tryz.func142 (show Tryz.f142.body = some (bod Tryz.f142) by kernel_rfl) (by decide +kernel) s142 w142 [0] (cuts := []) trivial (fun _ => by kernel_rfl) (by decide +kernel) (F142 N) (fun x => by kernel_rfl))
@[reducible] def y6 : Ty := (.cons .str (.cons (.int .i64) (.cons (.int .i64) .unit)))
@[reducible] def s161 : SP := ⟨[.radr y6 [.i 0 3]], []⟩
noncomputable def tab161 (N : Nat) : List (Nat × (Pk → Tr Pk)) := []
theorem tab161_ok (N : Nat) : TabOK Tryz.prog (tab161 N) := trivial
@[reducible] def w161 : List SP := [⟨[.int .i64], []⟩]
noncomputable def F161 (N : Nat) : ((ByteArray × (Int × (Int × Unit)))) → Option (Int)
  | x0 =>
  some (IntKind.wrap IntKind.i64 ((↑(ByteArray.size x0.1) : Int) - x0.2.1))
noncomputable def T161 (N : Nat) : Pk → Tr Pk := tellS s161 w161 (F161 N)
theorem T161_ok (N : Nat) : FOK Tryz.prog 161 (T161 N) :=
  (fn_ok ownT mix (tab161_ok N) Tryz.func161 (show Tryz.f161.body = some (bod Tryz.f161) by kernel_rfl) (by decide +kernel) s161 w161 [] (cuts := []) trivial (fun _ => by kernel_rfl) (by decide +kernel) (F161 N) (fun x => by kernel_rfl))
@[reducible] def s143 : SP := ⟨[.adr 0 [], .int .i64], [.var (.agg [.str, .int .i64, .int .i64])]⟩
noncomputable def tab143 (N : Nat) : List (Nat × (Pk → Tr Pk)) := [(142, T142 N), (161, T161 N)]
theorem tab143_ok (N : Nat) : TabOK Tryz.prog (tab143 N) := ⟨T142_ok N, T161_ok N, trivial⟩
@[reducible] def w143 : List SP := [⟨[.str], [.var (.agg [.str, .int .i64, .int .i64])]⟩]
noncomputable def F143 (N : Nat) : (Int × ByteArray × Int × Int) → Option (ByteArray × ByteArray × Int × Int)
  | (x0, x1, x2, x3) =>
  iteP (decide (x0 < (0 : Int))) (
    Option.bind (F142 N ((1 : Int), x1, x2, x3)) fun y0 =>
    iteP (y0.2.2 != (0 : Int)) (
      some ((ByteArray.mk #[], y0.1, y0.2.1, y0.2.2))) (
      iteP (decide ((0 : Int) ≤ IntKind.wrap IntKind.i64 (y0.2.1 + x0) ∧ IntKind.wrap IntKind.i64 (y0.2.1 + x0) ≤ (↑(ByteArray.size y0.1) : Int))) (
        iteP (decide ((0 : Int) ≤ IntKind.wrap IntKind.i64 (IntKind.wrap IntKind.i64 (y0.2.1 + x0) - x0) ∧ IntKind.wrap IntKind.i64 (IntKind.wrap IntKind.i64 (y0.2.1 + x0) - x0) ≤ (↑(Int.toNat (IntKind.wrap IntKind.i64 (y0.2.1 + x0))) : Int))) (
          some ((ByteArray.extract y0.1 (Int.toNat (IntKind.wrap IntKind.i64 (IntKind.wrap IntKind.i64 (y0.2.1 + x0) - x0))) (Int.toNat (IntKind.wrap IntKind.i64 (y0.2.1 + x0))), y0.1, IntKind.wrap IntKind.i64 (y0.2.1 + x0), y0.2.2))) (
          none)) (
        none))) (
    Option.bind (F161 N (x1, x2, x3, ())) fun y1 =>
    iteP (decide (x0 > y1)) (
      Option.bind (F142 N ((2 : Int), x1, x2, x3)) fun y2 =>
      iteP (y2.2.2 != (0 : Int)) (
        some ((ByteArray.mk #[], y2.1, y2.2.1, y2.2.2))) (
        iteP (decide ((0 : Int) ≤ IntKind.wrap IntKind.i64 (y2.2.1 + x0) ∧ IntKind.wrap IntKind.i64 (y2.2.1 + x0) ≤ (↑(ByteArray.size y2.1) : Int))) (
          iteP (decide ((0 : Int) ≤ IntKind.wrap IntKind.i64 (IntKind.wrap IntKind.i64 (y2.2.1 + x0) - x0) ∧ IntKind.wrap IntKind.i64 (IntKind.wrap IntKind.i64 (y2.2.1 + x0) - x0) ≤ (↑(Int.toNat (IntKind.wrap IntKind.i64 (y2.2.1 + x0))) : Int))) (
            some ((ByteArray.extract y2.1 (Int.toNat (IntKind.wrap IntKind.i64 (IntKind.wrap IntKind.i64 (y2.2.1 + x0) - x0))) (Int.toNat (IntKind.wrap IntKind.i64 (y2.2.1 + x0))), y2.1, IntKind.wrap IntKind.i64 (y2.2.1 + x0), y2.2.2))) (
            none)) (
          none))) (
      iteP (x3 != (0 : Int)) (
        some ((ByteArray.mk #[], x1, x2, x3))) (
        iteP (decide ((0 : Int) ≤ IntKind.wrap IntKind.i64 (x2 + x0) ∧ IntKind.wrap IntKind.i64 (x2 + x0) ≤ (↑(ByteArray.size x1) : Int))) (
          iteP (decide ((0 : Int) ≤ IntKind.wrap IntKind.i64 (IntKind.wrap IntKind.i64 (x2 + x0) - x0) ∧ IntKind.wrap IntKind.i64 (IntKind.wrap IntKind.i64 (x2 + x0) - x0) ≤ (↑(Int.toNat (IntKind.wrap IntKind.i64 (x2 + x0))) : Int))) (
            some ((ByteArray.extract x1 (Int.toNat (IntKind.wrap IntKind.i64 (IntKind.wrap IntKind.i64 (x2 + x0) - x0))) (Int.toNat (IntKind.wrap IntKind.i64 (x2 + x0))), x1, IntKind.wrap IntKind.i64 (x2 + x0), x3))) (
            none)) (
          none))))
noncomputable def T143 (N : Nat) : Pk → Tr Pk := tellS s143 w143 (F143 N)
theorem T143_ok (N : Nat) : FOK Tryz.prog 143 (T143 N) :=
  (fn_ok ownT mix (tab143_ok N) Tryz.func143 (show Tryz.f143.body = some (bod Tryz.f143) by kernel_rfl) (by decide +kernel) s143 w143 [0] (cuts := []) trivial (fun _ => by kernel_rfl) (by decide +kernel) (F143 N) (fun x => by kernel_rfl))
@[reducible] def s144 : SP := ⟨[.slp 0 .h .h], [.row (.int .u8) 5]⟩
noncomputable def tab144 (N : Nat) : List (Nat × (Pk → Tr Pk)) := []
theorem tab144_ok (N : Nat) : TabOK Tryz.prog (tab144 N) := trivial
@[reducible] def L144_6 : LD := ⟨6, [2, 3, 0], [(.ret, []), (.exit 0, [])], ⟨[.int .i64, .int .i64, .slp 0 .h .h], [.row (.int .u8) 5]⟩, [(.exit 0, ⟨[], [.row (.int .u8) 5]⟩)]⟩
abbrev P144_6 : Type := Int × Int × Nat × Nat × (List Int)
abbrev R144_6 : Type := (List Int)
noncomputable def B144_6 (N : Nat) (f : P144_6 → Option R144_6) : P144_6 → Option R144_6
  | (x0, x1, x2, x3, x4) =>
  iteP (decide (x0 < x1)) (
    iteP (within x1 x3) (
      Option.bind (x4[x2 + Int.toNat x1]?) fun y0 =>
      iteP (within x0 x3) (
        Option.bind (x4[x2 + Int.toNat x0]?) fun y1 =>
        iteP (within x0 x3) (
          Option.bind (x4[x2 + Int.toNat x0]?) fun y2 =>
          iteP (within x1 x3) (
            Option.bind ((List.set x4 (x2 + Int.toNat x0) y0)[x2 + Int.toNat x1]?) fun y3 =>
            Option.bind (f (IntKind.wrap IntKind.i64 (x0 + (1 : Int)), IntKind.wrap IntKind.i64 (x1 - (1 : Int)), x2, x3, List.set (List.set x4 (x2 + Int.toNat x0) y0) (x2 + Int.toNat x1) y1)) fun r => some r) (
            none)) (
          none)) (
        none)) (
      none)) (
    some (x4))
noncomputable def F144_6 (N : Nat) : Nat → P144_6 → Option R144_6
  | 0, _ => none
  | k + 1, x => B144_6 N (F144_6 N k) x
noncomputable def C144_6 (N : Nat) (k : Nat) : Cut := L144_6.cut (F144_6 N k)
theorem C144_6_ok (N : Nat) (k : Nat) : CutAt Tryz.prog Tryz.f144 [0] 6 (C144_6 N k) :=
  L144_6.loopT ownT mix (tab144_ok N) Tryz.f144 [0] (cuts := []) trivial (by decide +kernel) (by kernel_rfl) (B144_6 N) (F144_6 N) (fun _ => rfl) (fun _ _ => rfl) (fun f x => by kernel_rfl) k
@[reducible] def w144 : List SP := [⟨[.tup []], [.row (.int .u8) 5]⟩]
noncomputable def F144 (N : Nat) : (Nat × Nat × (List Int)) → Option ((List Int))
  | (x0, x1, x2) =>
  Option.bind (F144_6 N N ((0 : Int), IntKind.wrap IntKind.i64 ((↑x1 : Int) - (1 : Int)), x0, x1, x2)) fun y0 =>
  some (y0)
noncomputable def T144 (N : Nat) : Pk → Tr Pk := tellS s144 w144 (F144 N)
theorem T144_ok (N : Nat) : FOK Tryz.prog 144 (T144 N) :=
  (fn_ok ownT mix (tab144_ok N) Tryz.func144 (show Tryz.f144.body = some (bod Tryz.f144) by kernel_rfl) (by decide +kernel) s144 w144 [0] (cuts := [(6, C144_6 N N)]) ⟨C144_6_ok N N, trivial⟩ (fun _ => by kernel_rfl) (by decide +kernel) (F144 N) (fun x => by kernel_rfl))
@[reducible] def s115 : SP := ⟨[.str], []⟩
noncomputable def tab115 (N : Nat) : List (Nat × (Pk → Tr Pk)) := [(144, T144 N)]
theorem tab115_ok (N : Nat) : TabOK Tryz.prog (tab115 N) := ⟨T144_ok N, trivial⟩
@[reducible] def w115 : List SP := [⟨[.str], []⟩]
noncomputable def F115 (N : Nat) : (ByteArray) → Option (ByteArray)
  | x0 =>
  iteP (decide (ByteArray.size x0 ≤ (140737488355328 : Nat))) (
    Option.bind (F144 N ((0 : Nat), List.length (bytesOf x0), bytesOf x0)) fun y0 =>
    some (stringOf y0)) (
    none)
noncomputable def T115 (N : Nat) : Pk → Tr Pk := tellS s115 w115 (F115 N)
theorem T115_ok (N : Nat) : FOK Tryz.prog 115 (T115 N) :=
  (fn_ok ownT mix (tab115_ok N) Tryz.func115 (show Tryz.f115.body = some (bod Tryz.f115) by kernel_rfl) (by decide +kernel) s115 w115 [] (cuts := []) trivial (fun _ => by kernel_rfl) (by decide +kernel) (F115 N) (fun x => by kernel_rfl))
@[reducible] def s114a : SP := ⟨[.adr 0 [], .int .i64, .fn 115], [.var (.agg [.str, .int .i64, .int .i64])]⟩
noncomputable def tab114a (N : Nat) : List (Nat × (Pk → Tr Pk)) := [(141, T141 N), (142, T142 N), (143, T143 N), (115, T115 N)]
theorem tab114a_ok (N : Nat) : TabOK Tryz.prog (tab114a N) := ⟨T141_ok N, T142_ok N, T143_ok N, T115_ok N, trivial⟩
@[reducible] def L114a_122 : LD := ⟨122, [7, 22, 21, 20], [(.ret, [6]), (.exit 0, [7])], ⟨[.int .i64, .int .i64, .int .i64, .sl 1], [.var (.agg [.str, .int .i64, .int .i64]), .row (.int .u8) 5]⟩, [(.exit 0, ⟨[.int .i64], [.var (.agg [.str, .int .i64, .int .i64])]⟩)]⟩
abbrev P114a_122 : Type := Int × Int × Int × ByteArray × Int × Int × (List Int)
abbrev R114a_122 : Type := Int × ByteArray × Int × Int
noncomputable def B114a_122 (N : Nat) (f : P114a_122 → Option R114a_122) : P114a_122 → Option R114a_122
  | (x0, x1, x2, x3, x4, x5, x6) =>
  iteP (decide (x1 < x2)) (
    iteP (within x1 (List.length x6)) (
      Option.bind (x6[Int.toNat x1]?) fun y0 =>
      iteP (decide (IntKind.wrap IntKind.i64 ((8 : Int) * x1) < (0 : Int))) (
        none) (
        Option.bind (f (IntKind.wrap IntKind.i64 (↑(BitVec.toNat (BitVec.ofInt (64 : Nat) x0 ||| BitVec.ofInt (64 : Nat) (IntKind.wrap IntKind.i64 (IntKind.wrap IntKind.i64 y0 * (2 : Int) ^ min (Int.toNat (IntKind.wrap IntKind.i64 ((8 : Int) * x1))) (64 : Nat))))) : Int), IntKind.wrap IntKind.i64 (x1 + (1 : Int)), x2, x3, x4, x5, x6)) fun r => some r)) (
      none)) (
    some ((x0, x3, x4, x5)))
noncomputable def F114a_122 (N : Nat) : Nat → P114a_122 → Option R114a_122
  | 0, _ => none
  | k + 1, x => B114a_122 N (F114a_122 N k) x
noncomputable def C114a_122 (N : Nat) (k : Nat) : Cut := L114a_122.cut (F114a_122 N k)
theorem C114a_122_ok (N : Nat) (k : Nat) : CutAt Tryz.prog Tryz.f114 [0] 122 (C114a_122 N k) :=
  L114a_122.loopT ownT mix (tab114a_ok N) Tryz.f114 [0] (cuts := []) trivial (by decide +kernel) (by kernel_rfl) (B114a_122 N) (F114a_122 N) (fun _ => rfl) (fun _ _ => rfl) (fun f x => by kernel_rfl) k
@[reducible] def w114a : List SP := [⟨[.int .i64], [.var (.agg [.str, .int .i64, .int .i64])]⟩]
noncomputable def F114a (N : Nat) : (Int × ByteArray × Int × Int) → Option (Int × ByteArray × Int × Int)
  | (x0, x1, x2, x3) =>
  Option.bind (F141 N x0) fun y0 =>
  iteP (!y0) (
    Option.bind (F142 N ((1 : Int), x1, x2, x3)) fun y1 =>
    Option.bind (F143 N (x0, y1.1, y1.2.1, y1.2.2)) fun y2 =>
    Option.bind (F115 N y2.1) fun y3 =>
    iteP (decide (ByteArray.size y3 ≤ (140737488355328 : Nat))) (
      Option.bind (F114a_122 N N ((0 : Int), (0 : Int), (↑(List.length (bytesOf y3)) : Int), y2.2.1, y2.2.2.1, y2.2.2.2, bytesOf y3)) fun y4 =>
      some ((y4.1, y4.2.1, y4.2.2.1, y4.2.2.2))) (
      none)) (
    Option.bind (F143 N (x0, x1, x2, x3)) fun y5 =>
    Option.bind (F115 N y5.1) fun y6 =>
    iteP (decide (ByteArray.size y6 ≤ (140737488355328 : Nat))) (
      Option.bind (F114a_122 N N ((0 : Int), (0 : Int), (↑(List.length (bytesOf y6)) : Int), y5.2.1, y5.2.2.1, y5.2.2.2, bytesOf y6)) fun y7 =>
      some ((y7.1, y7.2.1, y7.2.2.1, y7.2.2.2))) (
      none))
noncomputable def V114a (N : Nat) : Pk → Tr Pk := tellS s114a w114a (F114a N)
theorem V114a_ok (N : Nat) : FOK Tryz.prog 114 (V114a N) :=
  (fn_ok ownT mix (tab114a_ok N) Tryz.func114 (show Tryz.f114.body = some (bod Tryz.f114) by kernel_rfl) (by decide +kernel) s114a w114a [0] (cuts := [(122, C114a_122 N N)]) ⟨C114a_122_ok N N, trivial⟩ (fun _ => by kernel_rfl) (by decide +kernel) (F114a N) (fun x => by kernel_rfl))
noncomputable def T114 (N : Nat) : Pk → Tr Pk := (V114a N)
theorem T114_ok (N : Nat) : FOK Tryz.prog 114 (T114 N) := (V114a_ok N)
@[reducible] def s78 : SP := ⟨[.adr 0 [], .int .i64], [.var (.agg [.str, .int .i64, .int .i64])]⟩
noncomputable def tab78 (N : Nat) : List (Nat × (Pk → Tr Pk)) := [(114, T114 N)]
theorem tab78_ok (N : Nat) : TabOK Tryz.prog (tab78 N) := ⟨T114_ok N, trivial⟩
@[reducible] def w78 : List SP := [⟨[.int .i64], [.var (.agg [.str, .int .i64, .int .i64])]⟩]
noncomputable def F78 (N : Nat) : (Int × ByteArray × Int × Int) → Option (Int × ByteArray × Int × Int)
  | (x0, x1, x2, x3) =>
  Option.bind (F114a N (x0, x1, x2, x3)) fun y0 =>
  some ((y0.1, y0.2.1, y0.2.2.1, y0.2.2.2))
noncomputable def T78 (N : Nat) : Pk → Tr Pk := tellS s78 w78 (F78 N)
theorem T78_ok (N : Nat) : FOK Tryz.prog 78 (T78 N) :=
  (fn_ok ownT mix (tab78_ok N) Tryz.func78 (show Tryz.f78.body = some (bod Tryz.f78) by kernel_rfl) (by decide +kernel) s78 w78 [0] (cuts := []) trivial (fun _ => by kernel_rfl) (by decide +kernel) (F78 N) (fun x => by kernel_rfl))
@[reducible] def s79 : SP := ⟨[.radr y6 [.i 0 3]], []⟩
noncomputable def tab79 (N : Nat) : List (Nat × (Pk → Tr Pk)) := []
theorem tab79_ok (N : Nat) : TabOK Tryz.prog (tab79 N) := trivial
@[reducible] def w79 : List SP := [⟨[.int .i64], []⟩]
noncomputable def F79 (N : Nat) : ((ByteArray × (Int × (Int × Unit)))) → Option (Int)
  | x0 =>
  some x0.2.2.1
noncomputable def T79 (N : Nat) : Pk → Tr Pk := tellS s79 w79 (F79 N)
theorem T79_ok (N : Nat) : FOK Tryz.prog 79 (T79 N) :=
  (fn_ok ownT mix (tab79_ok N) Tryz.func79 (show Tryz.f79.body = some (bod Tryz.f79) by kernel_rfl) (by decide +kernel) s79 w79 [] (cuts := []) trivial (fun _ => by kernel_rfl) (by decide +kernel) (F79 N) (fun x => by kernel_rfl))
@[reducible] def s35 : SP := ⟨[.str], []⟩
noncomputable def tab35 (N : Nat) : List (Nat × (Pk → Tr Pk)) := [(77, T77 N), (78, T78 N), (79, T79 N)]
theorem tab35_ok (N : Nat) : TabOK Tryz.prog (tab35 N) := ⟨T77_ok N, T78_ok N, T79_ok N, trivial⟩
@[reducible] def w35 : List SP := [⟨[.int .i64], []⟩]
noncomputable def F35 (N : Nat) : (ByteArray) → Option (Int)
  | x0 =>
  Option.bind (F77 N x0) fun y0 =>
  Option.bind (F78 N ((1 : Int), y0.1, y0.2.1, y0.2.2)) fun y1 =>
  Option.bind (F78 N ((1 : Int), y1.2.1, y1.2.2.1, y1.2.2.2)) fun y2 =>
  Option.bind (F79 N (y2.2.1, y2.2.2.1, y2.2.2.2, ())) fun y3 =>
  iteP (y3 != (0 : Int)) (
    Option.bind (F79 N (y2.2.1, y2.2.2.1, y2.2.2.2, ())) fun y4 =>
    some (y4)) (
    iteP (IntKind.wrap IntKind.i64 (↑(BitVec.toNat (BitVec.ofInt (64 : Nat) y1.1 &&& BitVec.ofInt (64 : Nat) (15 : Int))) : Int) != (8 : Int)) (
      some ((100 : Int))) (
      iteP (decide (Int.fdiv y1.1 (16 : Int) > (7 : Int))) (
        some ((100 : Int))) (
        iteP (IntKind.wrap IntKind.i64 (↑(BitVec.toNat (BitVec.ofInt (64 : Nat) y2.1 &&& BitVec.ofInt (64 : Nat) (32 : Int))) : Int) != (0 : Int)) (
          some ((100 : Int))) (
          iteP (Int.tmod (IntKind.wrap IntKind.i64 (↑(BitVec.toNat (BitVec.ofInt (64 : Nat) (IntKind.wrap IntKind.i64 (y1.1 * (256 : Int))) ||| BitVec.ofInt (64 : Nat) y2.1)) : Int)) (31 : Int) != (0 : Int)) (
            some ((100 : Int))) (
            some ((0 : Int)))))))
noncomputable def T35 (N : Nat) : Pk → Tr Pk := tellS s35 w35 (F35 N)
theorem T35_ok (N : Nat) : FOK Tryz.prog 35 (T35 N) :=
  (fn_ok ownT mix (tab35_ok N) Tryz.func35 (show Tryz.f35.body = some (bod Tryz.f35) by kernel_rfl) (by decide +kernel) s35 w35 [] (cuts := []) trivial (fun _ => by kernel_rfl) (by decide +kernel) (F35 N) (fun x => by kernel_rfl))
noncomputable def tab80 (N : Nat) : List (Nat × (Pk → Tr Pk)) := [(88, T88 N)]
theorem tab80_ok (N : Nat) : TabOK Tryz.prog (tab80 N) := ⟨T88_ok N, trivial⟩
noncomputable def T80 (N : Nat) : Pk → Tr Pk := inlT (mkE Tryz.prog ownT (tab80 N) []) Tryz.f80
theorem T80_ok (N : Nat) : FOK Tryz.prog 80 (T80 N) :=
  inl_ok (E := mkE Tryz.prog ownT (tab80 N) []) (mkE_ok mix (tab80_ok N)) Tryz.func80 (show Tryz.f80.body = some (bod Tryz.f80) by kernel_rfl) (by decide +kernel) (fun _ => cutsIn_ok trivial)
@[reducible] def s37 : SP := ⟨[.adr 0 [], .str], [.var (.agg [.agg [.bool, .str]])]⟩
noncomputable def tab37 (N : Nat) : List (Nat × (Pk → Tr Pk)) := [(31, T31 N), (80, T80 N)]
theorem tab37_ok (N : Nat) : TabOK Tryz.prog (tab37 N) := ⟨T31_ok N, T80_ok N, trivial⟩
@[reducible] def w37 : List SP := [⟨[.str], [.var (.agg [.agg [.bool, .str]])]⟩]
noncomputable def F37 (N : Nat) : (ByteArray × Bool × ByteArray) → Option (ByteArray × Bool × ByteArray)
  | (x0, x1, x2) =>
  Option.bind (F31 N (x2, x0)) fun y0 =>
  iteP (!x1) (
    iteP (decide ((↑((2 : Nat) + ByteArray.size y0) : Int) > (9223372036854775807 : Int))) (
      none) (
      iteP (decide ((↑(ByteArray.size x2 + ByteArray.size x0) : Int) > (9223372036854775807 : Int))) (
        none) (
        Option.bind (F88 N (x2 ++ x0)) fun y1 =>
        some ((ByteArray.mk #[(120 : UInt8), (156 : UInt8)] ++ y0, true, y1))))) (
    iteP (decide ((↑(ByteArray.size x2 + ByteArray.size x0) : Int) > (9223372036854775807 : Int))) (
      none) (
      Option.bind (F88 N (x2 ++ x0)) fun y2 =>
      some ((y0, true, y2))))
noncomputable def T37 (N : Nat) : Pk → Tr Pk := tellS s37 w37 (F37 N)
theorem T37_ok (N : Nat) : FOK Tryz.prog 37 (T37 N) :=
  (fn_ok ownT mix (tab37_ok N) Tryz.func37 (show Tryz.f37.body = some (bod Tryz.f37) by kernel_rfl) (by decide +kernel) s37 w37 [0] (cuts := []) trivial (fun _ => by kernel_rfl) (by decide +kernel) (F37 N) (fun x => by kernel_rfl))
@[reducible] def s85 : SP := ⟨[.str], []⟩
noncomputable def tab85 (N : Nat) : List (Nat × (Pk → Tr Pk)) := []
theorem tab85_ok (N : Nat) : TabOK Tryz.prog (tab85 N) := trivial
@[reducible] def w85 : List SP := [⟨[.adr 0 []], [.var (.agg [.str, .int .i64, .int .i64])]⟩]
noncomputable def F85 (N : Nat) : (ByteArray) → Option (ByteArray × Int × Int)
  | x0 =>
  some ((x0, (0 : Int), (0 : Int)))
noncomputable def T85 (N : Nat) : Pk → Tr Pk := tellS s85 w85 (F85 N)
theorem T85_ok (N : Nat) : FOK Tryz.prog 85 (T85 N) :=
  (fn_ok ownT mix (tab85_ok N) Tryz.func85 (show Tryz.f85.body = some (bod Tryz.f85) by kernel_rfl) (by decide +kernel) s85 w85 [] (cuts := []) trivial (fun _ => by kernel_rfl) (by decide +kernel) (F85 N) (fun x => by kernel_rfl))
@[reducible] def s86 : SP := ⟨[.radr y6 [.i 0 3]], []⟩
noncomputable def tab86 (N : Nat) : List (Nat × (Pk → Tr Pk)) := []
theorem tab86_ok (N : Nat) : TabOK Tryz.prog (tab86 N) := trivial
@[reducible] def w86 : List SP := [⟨[.int .i64], []⟩]
noncomputable def F86 (N : Nat) : ((ByteArray × (Int × (Int × Unit)))) → Option (Int)
  | x0 =>
  some (IntKind.wrap IntKind.i64 (IntKind.wrap IntKind.i64 ((8 : Int) * (↑(ByteArray.size x0.1) : Int)) - x0.2.1))
noncomputable def T86 (N : Nat) : Pk → Tr Pk := tellS s86 w86 (F86 N)
theorem T86_ok (N : Nat) : FOK Tryz.prog 86 (T86 N) :=
  (fn_ok ownT mix (tab86_ok N) Tryz.func86 (show Tryz.f86.body = some (bod Tryz.f86) by kernel_rfl) (by decide +kernel) s86 w86 [] (cuts := []) trivial (fun _ => by kernel_rfl) (by decide +kernel) (F86 N) (fun x => by kernel_rfl))
@[reducible] def s146 : SP := ⟨[.adr 0 [], .int .i64], [.var (.agg [.str, .int .i64, .int .i64])]⟩
noncomputable def tab146 (N : Nat) : List (Nat × (Pk → Tr Pk)) := [(86, T86 N)]
theorem tab146_ok (N : Nat) : TabOK Tryz.prog (tab146 N) := ⟨T86_ok N, trivial⟩
@[reducible] def w146 : List SP := [⟨[.bool], [.var (.agg [.str, .int .i64, .int .i64])]⟩]
noncomputable def F146 (N : Nat) : (Int × ByteArray × Int × Int) → Option (Bool × ByteArray × Int × Int)
  | (x0, x1, x2, x3) =>
  iteP (x3 == (0 : Int)) (
    Option.bind (F86 N (x1, x2, x3, ())) fun y0 =>
    iteP (decide (x0 > y0)) (
      some ((false, x1, x2, (2 : Int)))) (
      some ((x3 == (0 : Int), x1, x2, x3)))) (
    some ((x3 == (0 : Int), x1, x2, x3)))
noncomputable def T146 (N : Nat) : Pk → Tr Pk := tellS s146 w146 (F146 N)
theorem T146_ok (N : Nat) : FOK Tryz.prog 146 (T146 N) :=
  (fn_ok ownT mix (tab146_ok N) Tryz.func146 (show Tryz.f146.body = some (bod Tryz.f146) by kernel_rfl) (by decide +kernel) s146 w146 [0] (cuts := []) trivial (fun _ => by kernel_rfl) (by decide +kernel) (F146 N) (fun x => by kernel_rfl))
end Go.Proofs.YteddgkplkjldcaaGreat.Am
