/- The seat's Go functions come to the Lean functions written here, wherever these give an answer (part C). -/
import Derived.Test.YtfcamlibbfnldaaGreatSB
set_option linter.unusedSimpArgs false
set_option linter.unusedVariables false
set_option linter.unusedSectionVars false
set_option maxRecDepth 100000
namespace Go.Proofs.YtfcamlibbfnldaaGreat.Am
open Go.Am
@[reducible] def s107 : SP := ⟨[.adr 0 [], .int .i64, .agg [.int .i64, .int .i64, .bool, .bool, .int .i64, .int .i64, .int .i64, .int .i64, .int .i64, .int .i64], .int .i64, .int .i64, .sl 1], [.var 157 (.agg [.agg [.agg [.agg [.bool, .str]]]]), .row (.int .i64) 3]⟩
noncomputable def tab107 (N : Nat) : List (Nat × (Pk → Tr Pk)) := [(35, T35 N), (40, T40 N)]
theorem tab107_ok (N : Nat) : TabOK Tryz.prog (tab107 N) := ⟨T35_ok N, T40_ok N, trivial⟩
@[reducible] def w107 : List SP := [⟨[.tup [.str, .int .i64]], [.var 157 (.agg [.agg [.agg [.agg [.bool, .str]]]])]⟩]
noncomputable def F107 (N : Nat) : (Int × Int × Int × Bool × Bool × Int × Int × Int × Int × Int × Int × Int × Int × Bool × ByteArray × (List Int)) → Option (ByteArray × Int × Bool × ByteArray)
  | (x0, x1, x2, x3, x4, x5, x6, x7, x8, x9, x10, x11, x12, x13, x14, x15) =>
  iteP (x0 == (0 : Int)) (
    Option.bind (F35 N (x1, x2, x3, x4, x5, x6, x7, x8, x9, x10, x11, x12)) fun y0 =>
    iteP (!y0) (
      some ((ByteArray.mk #[], (1 : Int), x13, x14))) (
      iteP ((↑(List.length x15) : Int) != IntKind.wrap IntKind.i64 (x11 * x12)) (
        some ((ByteArray.mk #[], (1 : Int), x13, x14))) (
        none))) (
    iteP (x0 == (2 : Int)) (
      none) (
      iteP (x0 == (5 : Int)) (
        none) (
        iteP (x0 == (16 : Int)) (
          Option.bind (F40 N (x1, x2, x3, x4, x5, x6, x7, x8, x9, x10, x11, x12, x13, x14, x15)) fun y1 =>
          some ((y1.1, y1.2.1, y1.2.2.1, y1.2.2.2))) (
          iteP (x0 == (-260 : Int)) (
            none) (
            some ((ByteArray.mk #[], (210 : Int), x13, x14)))))))
noncomputable def T107 (N : Nat) : Pk → Tr Pk := tellS s107 w107 (F107 N)
theorem T107_ok (N : Nat) : FOK Tryz.prog (107) (T107 N) :=
  (fn_ok2 ownT mix (tab107_ok N) Tryz.func107 s107 w107 [0] (cuts := []) trivial (fun _ => by kernel_rfl) (by decide +kernel) (F107 N) (fun x => by kernel_rfl))
@[reducible] def s32 : SP := ⟨[.agg [.int .i64, .int .i64, .bool, .bool, .int .i64, .int .i64, .int .i64, .int .i64, .int .i64, .int .i64], .int .i64, .int .i64], []⟩
noncomputable def tab32 (N : Nat) : List (Nat × (Pk → Tr Pk)) := [(35, T35 N), (37, T37 N), (82, T82 N)]
theorem tab32_ok (N : Nat) : TabOK Tryz.prog (tab32 N) := ⟨T35_ok N, T37_ok N, T82_ok N, trivial⟩
@[reducible] def w32 : List SP := [⟨[.int .i64], []⟩]
noncomputable def F32 (N : Nat) : (Int × Int × Bool × Bool × Int × Int × Int × Int × Int × Int × Int × Int) → Option (Int)
  | (x0, x1, x2, x3, x4, x5, x6, x7, x8, x9, x10, x11) =>
  Option.bind (F35 N (x0, x1, x2, x3, x4, x5, x6, x7, x8, x9, x10, x11)) fun y0 =>
  iteP (!y0) (
    some ((0 : Int))) (
    Option.bind (F37 N (x0, x1, x2, x3, x4, x5, x6, x7, x8, x9)) fun y1 =>
    Option.bind (F82 N (x10, x11, (64 : Int))) fun y2 =>
    some (IntKind.wrap IntKind.i64 (IntKind.wrap IntKind.i64 ((512 : Int) * (↑(List.length y2) : Int)) + IntKind.wrap IntKind.i64 (IntKind.wrap IntKind.i64 (x10 * x11) * IntKind.wrap IntKind.i64 (y1.1 + (2 : Int))))))
noncomputable def T32 (N : Nat) : Pk → Tr Pk := tellS s32 w32 (F32 N)
theorem T32_ok (N : Nat) : FOK Tryz.prog (32) (T32 N) :=
  (fn_ok2 ownT mix (tab32_ok N) Tryz.func32 s32 w32 [] (cuts := []) trivial (fun _ => by kernel_rfl) (by decide +kernel) (F32 N) (fun x => by kernel_rfl))
@[reducible] def s81 : SP := ⟨[.str], []⟩
noncomputable def tab81 (N : Nat) : List (Nat × (Pk → Tr Pk)) := []
theorem tab81_ok (N : Nat) : TabOK Tryz.prog (tab81 N) := trivial
@[reducible] def w81 : List SP := [⟨[.adr 0 []], [.var 189 (.agg [.str, .int .i64, .int .i64])]⟩]
noncomputable def F81 (N : Nat) : (ByteArray) → Option (ByteArray × Int × Int)
  | x0 =>
  some ((x0, (0 : Int), (0 : Int)))
noncomputable def T81 (N : Nat) : Pk → Tr Pk := tellS s81 w81 (F81 N)
theorem T81_ok (N : Nat) : FOK Tryz.prog (81) (T81 N) :=
  (fn_ok2 ownT mix (tab81_ok N) Tryz.func81 s81 w81 [] (cuts := []) trivial (fun _ => by kernel_rfl) (by decide +kernel) (F81 N) (fun x => by kernel_rfl))
@[reducible] def s206 : SP := ⟨[.adr 0 [], .int .i64], [.var 189 (.agg [.str, .int .i64, .int .i64])]⟩
noncomputable def tab206 (N : Nat) : List (Nat × (Pk → Tr Pk)) := []
theorem tab206_ok (N : Nat) : TabOK Tryz.prog (tab206 N) := trivial
@[reducible] def w206 : List SP := [⟨[.tup []], [.var 189 (.agg [.str, .int .i64, .int .i64])]⟩]
noncomputable def F206 (N : Nat) : (Int × ByteArray × Int × Int) → Option (ByteArray × Int × Int)
  | (x0, x1, x2, x3) =>
  iteP (x3 == (0 : Int)) (
    some ((x1, x2, x0))) (
    some ((x1, x2, x3)))
noncomputable def T206 (N : Nat) : Pk → Tr Pk := tellS s206 w206 (F206 N)
theorem T206_ok (N : Nat) : FOK Tryz.prog (206) (T206 N) :=
  (fn_ok2 ownT mix (tab206_ok N) Tryz.func206 s206 w206 [0] (cuts := []) trivial (fun _ => by kernel_rfl) (by decide +kernel) (F206 N) (fun x => by kernel_rfl))
@[reducible] def y6 : Ty := (.cons .str (.cons (.int .i64) (.cons (.int .i64) .unit)))
@[reducible] def s86 : SP := ⟨[.radr y6 [.i 0 3]], []⟩
noncomputable def tab86 (N : Nat) : List (Nat × (Pk → Tr Pk)) := []
theorem tab86_ok (N : Nat) : TabOK Tryz.prog (tab86 N) := trivial
@[reducible] def w86 : List SP := [⟨[.int .i64], []⟩]
noncomputable def F86 (N : Nat) : ((ByteArray × (Int × (Int × Unit)))) → Option (Int)
  | x0 =>
  some (IntKind.wrap IntKind.i64 ((↑(ByteArray.size x0.1) : Int) - x0.2.1))
noncomputable def T86 (N : Nat) : Pk → Tr Pk := tellS s86 w86 (F86 N)
theorem T86_ok (N : Nat) : FOK Tryz.prog (86) (T86 N) :=
  (fn_ok2 ownT mix (tab86_ok N) Tryz.func86 s86 w86 [] (cuts := []) trivial (fun _ => by kernel_rfl) (by decide +kernel) (F86 N) (fun x => by kernel_rfl))
@[reducible] def s135 : SP := ⟨[.adr 0 [], .int .i64], [.var 189 (.agg [.str, .int .i64, .int .i64])]⟩
noncomputable def tab135 (N : Nat) : List (Nat × (Pk → Tr Pk)) := [(206, T206 N), (86, T86 N)]
theorem tab135_ok (N : Nat) : TabOK Tryz.prog (tab135 N) := ⟨T206_ok N, T86_ok N, trivial⟩
@[reducible] def w135 : List SP := [⟨[.str], [.var 189 (.agg [.str, .int .i64, .int .i64])]⟩]
noncomputable def F135 (N : Nat) : (Int × ByteArray × Int × Int) → Option (ByteArray × ByteArray × Int × Int)
  | (x0, x1, x2, x3) =>
  iteP (decide (x0 < (0 : Int))) (
    Option.bind (F206 N ((1 : Int), x1, x2, x3)) fun y0 =>
    iteP (y0.2.2 != (0 : Int)) (
      some ((ByteArray.mk #[], y0.1, y0.2.1, y0.2.2))) (
      iteP (decide ((0 : Int) ≤ IntKind.wrap IntKind.i64 (y0.2.1 + x0) ∧ IntKind.wrap IntKind.i64 (y0.2.1 + x0) ≤ (↑(ByteArray.size y0.1) : Int))) (
        iteP (decide ((0 : Int) ≤ IntKind.wrap IntKind.i64 (IntKind.wrap IntKind.i64 (y0.2.1 + x0) - x0) ∧ IntKind.wrap IntKind.i64 (IntKind.wrap IntKind.i64 (y0.2.1 + x0) - x0) ≤ (↑(Int.toNat (IntKind.wrap IntKind.i64 (y0.2.1 + x0))) : Int))) (
          some ((ByteArray.extract y0.1 (Int.toNat (IntKind.wrap IntKind.i64 (IntKind.wrap IntKind.i64 (y0.2.1 + x0) - x0))) (Int.toNat (IntKind.wrap IntKind.i64 (y0.2.1 + x0))), y0.1, IntKind.wrap IntKind.i64 (y0.2.1 + x0), y0.2.2))) (
          none )) (
        none ))) (
    Option.bind (F86 N (x1, x2, x3, ())) fun y1 =>
    iteP (decide (x0 > y1)) (
      Option.bind (F206 N ((2 : Int), x1, x2, x3)) fun y2 =>
      iteP (y2.2.2 != (0 : Int)) (
        some ((ByteArray.mk #[], y2.1, y2.2.1, y2.2.2))) (
        iteP (decide ((0 : Int) ≤ IntKind.wrap IntKind.i64 (y2.2.1 + x0) ∧ IntKind.wrap IntKind.i64 (y2.2.1 + x0) ≤ (↑(ByteArray.size y2.1) : Int))) (
          iteP (decide ((0 : Int) ≤ IntKind.wrap IntKind.i64 (IntKind.wrap IntKind.i64 (y2.2.1 + x0) - x0) ∧ IntKind.wrap IntKind.i64 (IntKind.wrap IntKind.i64 (y2.2.1 + x0) - x0) ≤ (↑(Int.toNat (IntKind.wrap IntKind.i64 (y2.2.1 + x0))) : Int))) (
            some ((ByteArray.extract y2.1 (Int.toNat (IntKind.wrap IntKind.i64 (IntKind.wrap IntKind.i64 (y2.2.1 + x0) - x0))) (Int.toNat (IntKind.wrap IntKind.i64 (y2.2.1 + x0))), y2.1, IntKind.wrap IntKind.i64 (y2.2.1 + x0), y2.2.2))) (
            none )) (
          none ))) (
      iteP (x3 != (0 : Int)) (
        some ((ByteArray.mk #[], x1, x2, x3))) (
        iteP (decide ((0 : Int) ≤ IntKind.wrap IntKind.i64 (x2 + x0) ∧ IntKind.wrap IntKind.i64 (x2 + x0) ≤ (↑(ByteArray.size x1) : Int))) (
          iteP (decide ((0 : Int) ≤ IntKind.wrap IntKind.i64 (IntKind.wrap IntKind.i64 (x2 + x0) - x0) ∧ IntKind.wrap IntKind.i64 (IntKind.wrap IntKind.i64 (x2 + x0) - x0) ≤ (↑(Int.toNat (IntKind.wrap IntKind.i64 (x2 + x0))) : Int))) (
            some ((ByteArray.extract x1 (Int.toNat (IntKind.wrap IntKind.i64 (IntKind.wrap IntKind.i64 (x2 + x0) - x0))) (Int.toNat (IntKind.wrap IntKind.i64 (x2 + x0))), x1, IntKind.wrap IntKind.i64 (x2 + x0), x3))) (
            none )) (
          none ))))
noncomputable def T135 (N : Nat) : Pk → Tr Pk := tellS s135 w135 (F135 N)
theorem T135_ok (N : Nat) : FOK Tryz.prog (135) (T135 N) :=
  (fn_ok2 ownT mix (tab135_ok N) Tryz.func135 s135 w135 [0] (cuts := []) trivial (fun _ => by kernel_rfl) (by decide +kernel) (F135 N) (fun x => by kernel_rfl))
@[reducible] def s173 : SP := ⟨[.adr 0 [], .int .i64, .fn 165], [.var 189 (.agg [.str, .int .i64, .int .i64])]⟩
noncomputable def tab173 (N : Nat) : List (Nat × (Pk → Tr Pk)) := [(230, T230 N), (206, T206 N), (135, T135 N), (165, T165 N)]
theorem tab173_ok (N : Nat) : TabOK Tryz.prog (tab173 N) := ⟨T230_ok N, T206_ok N, T135_ok N, T165_ok N, trivial⟩
@[reducible] def L173_122 : LD := ⟨122, [7, 22, 21, 20], [(.ret, [6]), (.exit 0, [7])], ⟨[.int .i64, .int .i64, .int .i64, .sl 1], [.var 189 (.agg [.str, .int .i64, .int .i64]), .row (.int .u8) 5]⟩, [(.exit 0, ⟨[.int .i64], [.var 189 (.agg [.str, .int .i64, .int .i64])]⟩)]⟩
abbrev P173_122 : Type := Int × Int × Int × ByteArray × Int × Int × (List Int)
abbrev R173_122 : Type := Int × ByteArray × Int × Int
noncomputable def B173_122 (N : Nat) (f : P173_122 → Option R173_122) : P173_122 → Option R173_122
  | (x0, x1, x2, x3, x4, x5, x6) =>
  iteP (decide (x1 < x2)) (
    iteP (within x1 (List.length x6)) (
      Option.bind (x6[Int.toNat x1]?) fun y0 =>
      iteP (decide (IntKind.wrap IntKind.i64 ((8 : Int) * x1) < (0 : Int))) (
        none ) (
        Option.bind (f (IntKind.wrap IntKind.i64 (↑(BitVec.toNat (BitVec.ofInt (64 : Nat) x0 ||| BitVec.ofInt (64 : Nat) (IntKind.wrap IntKind.i64 (IntKind.wrap IntKind.i64 y0 * (2 : Int) ^ min (Int.toNat (IntKind.wrap IntKind.i64 ((8 : Int) * x1))) (64 : Nat))))) : Int), IntKind.wrap IntKind.i64 (x1 + (1 : Int)), x2, x3, x4, x5, x6)) fun r => some r)) (
      none )) (
    some ((x0, x3, x4, x5)))
noncomputable def F173_122 (N : Nat) : Nat → P173_122 → Option R173_122
  | 0, _ => none
  | k + 1, x => B173_122 N (F173_122 N k) x
noncomputable def C173_122 (N : Nat) (k : Nat) : Cut := L173_122.cut (F173_122 N k)
theorem C173_122_ok (N : Nat) (k : Nat) : CutAt Tryz.prog false Tryz.f173 [0] 122 (C173_122 N k) :=
  L173_122.loopT ownT mix (tab173_ok N) Tryz.f173 [0] (cuts := []) trivial (by decide +kernel) (by kernel_rfl) (B173_122 N) (F173_122 N) (fun _ => rfl) (fun _ _ => rfl) (fun f x => by kernel_rfl) k
@[reducible] def w173 : List SP := [⟨[.int .i64], [.var 189 (.agg [.str, .int .i64, .int .i64])]⟩]
noncomputable def F173 (N : Nat) : (Int × ByteArray × Int × Int) → Option (Int × ByteArray × Int × Int)
  | (x0, x1, x2, x3) =>
  Option.bind (F230 N x0) fun y0 =>
  iteP (!y0) (
    Option.bind (F206 N ((1 : Int), x1, x2, x3)) fun y1 =>
    Option.bind (F135 N (x0, y1.1, y1.2.1, y1.2.2)) fun y2 =>
    Option.bind (F165 N y2.1) fun y3 =>
    iteP (decide (ByteArray.size y3 ≤ (140737488355328 : Nat))) (
      Option.bind (F173_122 N N ((0 : Int), (0 : Int), (↑(List.length (bytesOf y3)) : Int), y2.2.1, y2.2.2.1, y2.2.2.2, bytesOf y3)) fun y4 =>
      some ((y4.1, y4.2.1, y4.2.2.1, y4.2.2.2))) (
      none )) (
    Option.bind (F135 N (x0, x1, x2, x3)) fun y5 =>
    Option.bind (F165 N y5.1) fun y6 =>
    iteP (decide (ByteArray.size y6 ≤ (140737488355328 : Nat))) (
      Option.bind (F173_122 N N ((0 : Int), (0 : Int), (↑(List.length (bytesOf y6)) : Int), y5.2.1, y5.2.2.1, y5.2.2.2, bytesOf y6)) fun y7 =>
      some ((y7.1, y7.2.1, y7.2.2.1, y7.2.2.2))) (
      none ))
noncomputable def T173 (N : Nat) : Pk → Tr Pk := tellS s173 w173 (F173 N)
theorem T173_ok (N : Nat) : FOK Tryz.prog (173) (T173 N) :=
  (fn_ok2 ownT mix (tab173_ok N) Tryz.func173 s173 w173 [0] (cuts := [(122, C173_122 N N)]) ⟨C173_122_ok N N, trivial⟩ (fun _ => by kernel_rfl) (by decide +kernel) (F173 N) (fun x => by kernel_rfl))
@[reducible] def s105 : SP := ⟨[.adr 0 [], .int .i64], [.var 189 (.agg [.str, .int .i64, .int .i64])]⟩
noncomputable def tab105 (N : Nat) : List (Nat × (Pk → Tr Pk)) := [(173, T173 N)]
theorem tab105_ok (N : Nat) : TabOK Tryz.prog (tab105 N) := ⟨T173_ok N, trivial⟩
@[reducible] def w105 : List SP := [⟨[.int .i64], [.var 189 (.agg [.str, .int .i64, .int .i64])]⟩]
noncomputable def F105 (N : Nat) : (Int × ByteArray × Int × Int) → Option (Int × ByteArray × Int × Int)
  | (x0, x1, x2, x3) =>
  Option.bind (F173 N (x0, x1, x2, x3)) fun y0 =>
  some ((y0.1, y0.2.1, y0.2.2.1, y0.2.2.2))
noncomputable def T105 (N : Nat) : Pk → Tr Pk := tellS s105 w105 (F105 N)
theorem T105_ok (N : Nat) : FOK Tryz.prog (105) (T105 N) :=
  (fn_ok2 ownT mix (tab105_ok N) Tryz.func105 s105 w105 [0] (cuts := []) trivial (fun _ => by kernel_rfl) (by decide +kernel) (F105 N) (fun x => by kernel_rfl))
@[reducible] def s84 : SP := ⟨[.radr y6 [.i 0 3]], []⟩
noncomputable def tab84 (N : Nat) : List (Nat × (Pk → Tr Pk)) := []
theorem tab84_ok (N : Nat) : TabOK Tryz.prog (tab84 N) := trivial
@[reducible] def w84 : List SP := [⟨[.int .i64], []⟩]
noncomputable def F84 (N : Nat) : ((ByteArray × (Int × (Int × Unit)))) → Option (Int)
  | x0 =>
  some x0.2.2.1
noncomputable def T84 (N : Nat) : Pk → Tr Pk := tellS s84 w84 (F84 N)
theorem T84_ok (N : Nat) : FOK Tryz.prog (84) (T84 N) :=
  (fn_ok2 ownT mix (tab84_ok N) Tryz.func84 s84 w84 [] (cuts := []) trivial (fun _ => by kernel_rfl) (by decide +kernel) (F84 N) (fun x => by kernel_rfl))
@[reducible] def s246 : SP := ⟨[.str], []⟩
noncomputable def tab246 (N : Nat) : List (Nat × (Pk → Tr Pk)) := [(81, T81 N), (105, T105 N), (84, T84 N)]
theorem tab246_ok (N : Nat) : TabOK Tryz.prog (tab246 N) := ⟨T81_ok N, T105_ok N, T84_ok N, trivial⟩
@[reducible] def w246 : List SP := [⟨[.int .i64], []⟩]
noncomputable def F246 (N : Nat) : (ByteArray) → Option (Int)
  | x0 =>
  Option.bind (F81 N x0) fun y0 =>
  Option.bind (F105 N ((1 : Int), y0.1, y0.2.1, y0.2.2)) fun y1 =>
  Option.bind (F105 N ((1 : Int), y1.2.1, y1.2.2.1, y1.2.2.2)) fun y2 =>
  Option.bind (F84 N (y2.2.1, y2.2.2.1, y2.2.2.2, ())) fun y3 =>
  iteP (y3 != (0 : Int)) (
    Option.bind (F84 N (y2.2.1, y2.2.2.1, y2.2.2.2, ())) fun y4 =>
    some (y4)) (
    iteP (IntKind.wrap IntKind.i64 (↑(BitVec.toNat (BitVec.ofInt (64 : Nat) y1.1 &&& BitVec.ofInt (64 : Nat) (15 : Int))) : Int) != (8 : Int)) (
      some ((100 : Int))) (
      iteP (decide (Int.fdiv y1.1 (16 : Int) > (7 : Int))) (
        some ((100 : Int))) (
        iteP (IntKind.wrap IntKind.i64 (↑(BitVec.toNat (BitVec.ofInt (64 : Nat) y2.1 &&& BitVec.ofInt (64 : Nat) (32 : Int))) : Int) != (0 : Int)) (
          some ((100 : Int))) (
          iteP (Int.tmod (IntKind.wrap IntKind.i64 (↑(BitVec.toNat (BitVec.ofInt (64 : Nat) (IntKind.wrap IntKind.i64 (y1.1 * (256 : Int))) ||| BitVec.ofInt (64 : Nat) y2.1)) : Int)) (31 : Int) != (0 : Int)) (
            some ((100 : Int))) (
            some ((0 : Int)))))))
noncomputable def T246 (N : Nat) : Pk → Tr Pk := tellS s246 w246 (F246 N)
theorem T246_ok (N : Nat) : FOK Tryz.prog (246) (T246 N) :=
  (fn_ok2 ownT mix (tab246_ok N) Tryz.func246 s246 w246 [] (cuts := []) trivial (fun _ => by kernel_rfl) (by decide +kernel) (F246 N) (fun x => by kernel_rfl))
@[reducible] def s283 : SP := ⟨[.str], []⟩
noncomputable def tab283 (N : Nat) : List (Nat × (Pk → Tr Pk)) := []
theorem tab283_ok (N : Nat) : TabOK Tryz.prog (tab283 N) := trivial
@[reducible] def w283 : List SP := [⟨[.adr 0 []], [.var 345 (.agg [.str, .int .i64, .int .i64])]⟩]
noncomputable def F283 (N : Nat) : (ByteArray) → Option (ByteArray × Int × Int)
  | x0 =>
  some ((x0, (0 : Int), (0 : Int)))
noncomputable def T283 (N : Nat) : Pk → Tr Pk := tellS s283 w283 (F283 N)
theorem T283_ok (N : Nat) : FOK Tryz.prog (283) (T283 N) :=
  (fn_ok2 ownT mix (tab283_ok N) Tryz.func283 s283 w283 [] (cuts := []) trivial (fun _ => by kernel_rfl) (by decide +kernel) (F283 N) (fun x => by kernel_rfl))
@[reducible] def s305 : SP := ⟨[.radr y6 [.i 0 3]], []⟩
noncomputable def tab305 (N : Nat) : List (Nat × (Pk → Tr Pk)) := []
theorem tab305_ok (N : Nat) : TabOK Tryz.prog (tab305 N) := trivial
@[reducible] def w305 : List SP := [⟨[.int .i64], []⟩]
noncomputable def F305 (N : Nat) : ((ByteArray × (Int × (Int × Unit)))) → Option (Int)
  | x0 =>
  some (IntKind.wrap IntKind.i64 (IntKind.wrap IntKind.i64 ((8 : Int) * (↑(ByteArray.size x0.1) : Int)) - x0.2.1))
noncomputable def T305 (N : Nat) : Pk → Tr Pk := tellS s305 w305 (F305 N)
theorem T305_ok (N : Nat) : FOK Tryz.prog (305) (T305 N) :=
  (fn_ok2 ownT mix (tab305_ok N) Tryz.func305 s305 w305 [] (cuts := []) trivial (fun _ => by kernel_rfl) (by decide +kernel) (F305 N) (fun x => by kernel_rfl))
@[reducible] def s344 : SP := ⟨[.adr 0 [], .int .i64], [.var 345 (.agg [.str, .int .i64, .int .i64])]⟩
noncomputable def tab344 (N : Nat) : List (Nat × (Pk → Tr Pk)) := [(305, T305 N)]
theorem tab344_ok (N : Nat) : TabOK Tryz.prog (tab344 N) := ⟨T305_ok N, trivial⟩
@[reducible] def w344 : List SP := [⟨[.bool], [.var 345 (.agg [.str, .int .i64, .int .i64])]⟩]
noncomputable def F344 (N : Nat) : (Int × ByteArray × Int × Int) → Option (Bool × ByteArray × Int × Int)
  | (x0, x1, x2, x3) =>
  iteP (x3 == (0 : Int)) (
    Option.bind (F305 N (x1, x2, x3, ())) fun y0 =>
    iteP (decide (x0 > y0)) (
      some ((false, x1, x2, (2 : Int)))) (
      some ((x3 == (0 : Int), x1, x2, x3)))) (
    some ((x3 == (0 : Int), x1, x2, x3)))
noncomputable def T344 (N : Nat) : Pk → Tr Pk := tellS s344 w344 (F344 N)
theorem T344_ok (N : Nat) : FOK Tryz.prog (344) (T344 N) :=
  (fn_ok2 ownT mix (tab344_ok N) Tryz.func344 s344 w344 [0] (cuts := []) trivial (fun _ => by kernel_rfl) (by decide +kernel) (F344 N) (fun x => by kernel_rfl))
@[reducible] def s329 : SP := ⟨[.adr 0 [], .int .i64], [.var 345 (.agg [.str, .int .i64, .int .i64])]⟩
noncomputable def tab329 (N : Nat) : List (Nat × (Pk → Tr Pk)) := [(310, T310 N), (344, T344 N)]
theorem tab329_ok (N : Nat) : TabOK Tryz.prog (tab329 N) := ⟨T310_ok N, T344_ok N, trivial⟩
@[reducible] def L329_250 : LD := ⟨250, [5, 15, 14, 1, 0], [(.ret, [4]), (.exit 0, [0, 1, 5])], ⟨[.int .i64, .int .i64, .int .i64, .int .i64, .adr 0 []], [.var 345 (.agg [.str, .int .i64, .int .i64])]⟩, [(.exit 0, ⟨[.adr 0 [], .int .i64, .int .i64], [.var 345 (.agg [.str, .int .i64, .int .i64])]⟩)]⟩
abbrev P329_250 : Type := Int × Int × Int × Int × ByteArray × Int × Int
abbrev R329_250 : Type := Int × Int × ByteArray × Int × Int
noncomputable def B329_250 (N : Nat) (f : P329_250 → Option R329_250) : P329_250 → Option R329_250
  | (x0, x1, x2, x3, x4, x5, x6) =>
  iteP (decide (x1 < x2)) (
    iteP (decide ((0 : Int) ≤ IntKind.wrap IntKind.i64 (Int.tdiv (IntKind.wrap IntKind.i64 (x5 + x1)) (8 : Int)))) (
      Option.bind (x4[Int.toNat (IntKind.wrap IntKind.i64 (Int.tdiv (IntKind.wrap IntKind.i64 (x5 + x1)) (8 : Int)))]?) fun y0 =>
      iteP (decide (Int.tmod (IntKind.wrap IntKind.i64 (x5 + x1)) (8 : Int) < (0 : Int))) (
        none ) (
        iteP (decide (x1 < (0 : Int))) (
          none ) (
          Option.bind (f (IntKind.wrap IntKind.i64 (↑(BitVec.toNat (BitVec.ofInt (64 : Nat) x0 ||| BitVec.ofInt (64 : Nat) (IntKind.wrap IntKind.i64 (IntKind.wrap IntKind.i64 (↑(BitVec.toNat (BitVec.ofInt (64 : Nat) (Int.fdiv (IntKind.wrap IntKind.i64 (↑(UInt8.toNat y0) : Int)) ((2 : Int) ^ min (Int.toNat (Int.tmod (IntKind.wrap IntKind.i64 (x5 + x1)) (8 : Int))) (64 : Nat))) &&& BitVec.ofInt (64 : Nat) (1 : Int))) : Int) * (2 : Int) ^ min (Int.toNat x1) (64 : Nat))))) : Int), IntKind.wrap IntKind.i64 (x1 + (1 : Int)), x2, x3, x4, x5, x6)) fun r => some r))) (
      none )) (
    some ((x3, x0, x4, x5, x6)))
noncomputable def F329_250 (N : Nat) : Nat → P329_250 → Option R329_250
  | 0, _ => none
  | k + 1, x => B329_250 N (F329_250 N k) x
noncomputable def C329_250 (N : Nat) (k : Nat) : Cut := L329_250.cut (F329_250 N k)
theorem C329_250_ok (N : Nat) (k : Nat) : CutAt Tryz.prog false Tryz.f329 [0] 250 (C329_250 N k) :=
  L329_250.loopT ownT mix (tab329_ok N) Tryz.f329 [0] (cuts := []) trivial (by decide +kernel) (by kernel_rfl) (B329_250 N) (F329_250 N) (fun _ => rfl) (fun _ _ => rfl) (fun f x => by kernel_rfl) k
@[reducible] def w329 : List SP := [⟨[.int .i64], [.var 345 (.agg [.str, .int .i64, .int .i64])]⟩]
noncomputable def F329 (N : Nat) : (Int × ByteArray × Int × Int) → Option (Int × ByteArray × Int × Int)
  | (x0, x1, x2, x3) =>
  Option.bind (F310 N x0) fun y0 =>
  Option.bind (F344 N (y0, x1, x2, x3)) fun y1 =>
  iteP (!y1.1) (
    some (((0 : Int), y1.2.1, y1.2.2.1, y1.2.2.2))) (
    Option.bind (F329_250 N N ((0 : Int), (0 : Int), y0, y0, y1.2.1, y1.2.2.1, y1.2.2.2)) fun y2 =>
    some ((y2.2.1, y2.2.2.1, IntKind.wrap IntKind.i64 (y2.2.2.2.1 + y2.1), y2.2.2.2.2)))
noncomputable def T329 (N : Nat) : Pk → Tr Pk := tellS s329 w329 (F329 N)
theorem T329_ok (N : Nat) : FOK Tryz.prog (329) (T329 N) :=
  (fn_ok2 ownT mix (tab329_ok N) Tryz.func329 s329 w329 [0] (cuts := [(250, C329_250 N N)]) ⟨C329_250_ok N N, trivial⟩ (fun _ => by kernel_rfl) (by decide +kernel) (F329 N) (fun x => by kernel_rfl))
@[reducible] def s330 : SP := ⟨[.radr y6 [.i 0 3]], []⟩
noncomputable def tab330 (N : Nat) : List (Nat × (Pk → Tr Pk)) := []
theorem tab330_ok (N : Nat) : TabOK Tryz.prog (tab330 N) := trivial
@[reducible] def w330 : List SP := [⟨[.int .i64], []⟩]
noncomputable def F330 (N : Nat) : ((ByteArray × (Int × (Int × Unit)))) → Option (Int)
  | x0 =>
  some x0.2.2.1
noncomputable def T330 (N : Nat) : Pk → Tr Pk := tellS s330 w330 (F330 N)
theorem T330_ok (N : Nat) : FOK Tryz.prog (330) (T330 N) :=
  (fn_ok2 ownT mix (tab330_ok N) Tryz.func330 s330 w330 [] (cuts := []) trivial (fun _ => by kernel_rfl) (by decide +kernel) (F330 N) (fun x => by kernel_rfl))
@[reducible] def s364 : SP := ⟨[.radr y6 [.i 0 3]], []⟩
noncomputable def tab364 (N : Nat) : List (Nat × (Pk → Tr Pk)) := []
theorem tab364_ok (N : Nat) : TabOK Tryz.prog (tab364 N) := trivial
@[reducible] def w364 : List SP := [⟨[.int .i64], []⟩]
noncomputable def F364 (N : Nat) : ((ByteArray × (Int × (Int × Unit)))) → Option (Int)
  | x0 =>
  some (Int.tmod (IntKind.wrap IntKind.i64 ((8 : Int) - Int.tmod x0.2.1 (8 : Int))) (8 : Int))
noncomputable def T364 (N : Nat) : Pk → Tr Pk := tellS s364 w364 (F364 N)
theorem T364_ok (N : Nat) : FOK Tryz.prog (364) (T364 N) :=
  (fn_ok2 ownT mix (tab364_ok N) Tryz.func364 s364 w364 [] (cuts := []) trivial (fun _ => by kernel_rfl) (by decide +kernel) (F364 N) (fun x => by kernel_rfl))
@[reducible] def s345 : SP := ⟨[.adr 0 []], [.var 345 (.agg [.str, .int .i64, .int .i64])]⟩
noncomputable def tab345 (N : Nat) : List (Nat × (Pk → Tr Pk)) := [(364, T364 N), (329, T329 N)]
theorem tab345_ok (N : Nat) : TabOK Tryz.prog (tab345 N) := ⟨T364_ok N, T329_ok N, trivial⟩
@[reducible] def w345 : List SP := [⟨[.int .i64], [.var 345 (.agg [.str, .int .i64, .int .i64])]⟩]
noncomputable def F345 (N : Nat) : (ByteArray × Int × Int) → Option (Int × ByteArray × Int × Int)
  | (x0, x1, x2) =>
  Option.bind (F364 N (x0, x1, x2, ())) fun y0 =>
  Option.bind (F329 N (y0, x0, x1, x2)) fun y1 =>
  some ((y1.1, y1.2.1, y1.2.2.1, y1.2.2.2))
noncomputable def T345 (N : Nat) : Pk → Tr Pk := tellS s345 w345 (F345 N)
theorem T345_ok (N : Nat) : FOK Tryz.prog (345) (T345 N) :=
  (fn_ok2 ownT mix (tab345_ok N) Tryz.func345 s345 w345 [0] (cuts := []) trivial (fun _ => by kernel_rfl) (by decide +kernel) (F345 N) (fun x => by kernel_rfl))
@[reducible] def s346 : SP := ⟨[.adr 0 [], .int .i64], [.var 345 (.agg [.str, .int .i64, .int .i64])]⟩
noncomputable def tab346 (N : Nat) : List (Nat × (Pk → Tr Pk)) := [(305, T305 N), (344, T344 N), (364, T364 N)]
theorem tab346_ok (N : Nat) : TabOK Tryz.prog (tab346 N) := ⟨T305_ok N, T344_ok N, T364_ok N, trivial⟩
@[reducible] def w346 : List SP := [⟨[.str], [.var 345 (.agg [.str, .int .i64, .int .i64])]⟩]
noncomputable def F346 (N : Nat) : (Int × ByteArray × Int × Int) → Option (ByteArray × ByteArray × Int × Int)
  | (x0, x1, x2, x3) =>
  iteP (decide ((if (0 : Int) > x0 then (0 : Int) else x0) > (↑(ByteArray.size x1) : Int))) (
    Option.bind (F305 N (x1, x2, x3, ())) fun y0 =>
    Option.bind (F344 N (IntKind.wrap IntKind.i64 (y0 + (1 : Int)), x1, x2, x3)) fun y1 =>
    some ((ByteArray.mk #[], y1.2.1, y1.2.2.1, y1.2.2.2))) (
    Option.bind (F364 N (x1, x2, x3, ())) fun y2 =>
    Option.bind (F344 N (IntKind.wrap IntKind.i64 (y2 + IntKind.wrap IntKind.i64 ((8 : Int) * if (0 : Int) > x0 then (0 : Int) else x0)), x1, x2, x3)) fun y3 =>
    iteP (!y3.1) (
      Option.bind (F305 N (y3.2.1, y3.2.2.1, y3.2.2.2, ())) fun y4 =>
      Option.bind (F344 N (IntKind.wrap IntKind.i64 (y4 + (1 : Int)), y3.2.1, y3.2.2.1, y3.2.2.2)) fun y5 =>
      some ((ByteArray.mk #[], y5.2.1, y5.2.2.1, y5.2.2.2))) (
      Option.bind (F364 N (y3.2.1, y3.2.2.1, y3.2.2.2, ())) fun y6 =>
      iteP (decide ((0 : Int) ≤ IntKind.wrap IntKind.i64 (IntKind.wrap IntKind.i64 (Int.tdiv (IntKind.wrap IntKind.i64 (y3.2.2.1 + y6)) (8 : Int)) + if (0 : Int) > x0 then (0 : Int) else x0) ∧ IntKind.wrap IntKind.i64 (IntKind.wrap IntKind.i64 (Int.tdiv (IntKind.wrap IntKind.i64 (y3.2.2.1 + y6)) (8 : Int)) + if (0 : Int) > x0 then (0 : Int) else x0) ≤ (↑(ByteArray.size y3.2.1) : Int))) (
        iteP (decide ((0 : Int) ≤ IntKind.wrap IntKind.i64 (Int.tdiv (IntKind.wrap IntKind.i64 (y3.2.2.1 + y6)) (8 : Int)) ∧ IntKind.wrap IntKind.i64 (Int.tdiv (IntKind.wrap IntKind.i64 (y3.2.2.1 + y6)) (8 : Int)) ≤ (↑(Int.toNat (IntKind.wrap IntKind.i64 (IntKind.wrap IntKind.i64 (Int.tdiv (IntKind.wrap IntKind.i64 (y3.2.2.1 + y6)) (8 : Int)) + if (0 : Int) > x0 then (0 : Int) else x0))) : Int))) (
          some ((ByteArray.extract y3.2.1 (Int.toNat (IntKind.wrap IntKind.i64 (Int.tdiv (IntKind.wrap IntKind.i64 (y3.2.2.1 + y6)) (8 : Int)))) (Int.toNat (IntKind.wrap IntKind.i64 (IntKind.wrap IntKind.i64 (Int.tdiv (IntKind.wrap IntKind.i64 (y3.2.2.1 + y6)) (8 : Int)) + if (0 : Int) > x0 then (0 : Int) else x0))), y3.2.1, IntKind.wrap IntKind.i64 ((8 : Int) * IntKind.wrap IntKind.i64 (IntKind.wrap IntKind.i64 (Int.tdiv (IntKind.wrap IntKind.i64 (y3.2.2.1 + y6)) (8 : Int)) + if (0 : Int) > x0 then (0 : Int) else x0)), y3.2.2.2))) (
          none )) (
        none )))
noncomputable def T346 (N : Nat) : Pk → Tr Pk := tellS s346 w346 (F346 N)
theorem T346_ok (N : Nat) : FOK Tryz.prog (346) (T346 N) :=
  (fn_ok2 ownT mix (tab346_ok N) Tryz.func346 s346 w346 [0] (cuts := []) trivial (fun _ => by kernel_rfl) (by decide +kernel) (F346 N) (fun x => by kernel_rfl))
@[reducible] def s331 : SP := ⟨[.adr 0 [], .int .i64], [.var 345 (.agg [.str, .int .i64, .int .i64])]⟩
noncomputable def tab331 (N : Nat) : List (Nat × (Pk → Tr Pk)) := [(345, T345 N), (329, T329 N), (330, T330 N), (346, T346 N)]
theorem tab331_ok (N : Nat) : TabOK Tryz.prog (tab331 N) := ⟨T345_ok N, T329_ok N, T330_ok N, T346_ok N, trivial⟩
@[reducible] def w331 : List SP := [⟨[.tup [.str, .int .i64]], [.var 345 (.agg [.str, .int .i64, .int .i64])]⟩]
noncomputable def F331 (N : Nat) : (Int × ByteArray × Int × Int) → Option (ByteArray × Int × ByteArray × Int × Int)
  | (x0, x1, x2, x3) =>
  Option.bind (F345 N (x1, x2, x3)) fun y0 =>
  Option.bind (F329 N ((16 : Int), y0.2.1, y0.2.2.1, y0.2.2.2)) fun y1 =>
  Option.bind (F329 N ((16 : Int), y1.2.1, y1.2.2.1, y1.2.2.2)) fun y2 =>
  Option.bind (F330 N (y2.2.1, y2.2.2.1, y2.2.2.2, ())) fun y3 =>
  iteP (y3 != (0 : Int)) (
    some ((ByteArray.mk #[], y3, y2.2.1, y2.2.2.1, y2.2.2.2))) (
    iteP (IntKind.wrap IntKind.i64 (↑(BitVec.toNat (BitVec.ofInt (64 : Nat) y1.1 ^^^ BitVec.ofInt (64 : Nat) y2.1)) : Int) != (65535 : Int)) (
      some ((ByteArray.mk #[], (80 : Int), y2.2.1, y2.2.2.1, y2.2.2.2))) (
      iteP (decide (y1.1 > x0)) (
        some ((ByteArray.mk #[], (4 : Int), y2.2.1, y2.2.2.1, y2.2.2.2))) (
        Option.bind (F346 N (y1.1, y2.2.1, y2.2.2.1, y2.2.2.2)) fun y4 =>
        Option.bind (F330 N (y4.2.1, y4.2.2.1, y4.2.2.2, ())) fun y5 =>
        some ((y4.1, y5, y4.2.1, y4.2.2.1, y4.2.2.2)))))
noncomputable def T331 (N : Nat) : Pk → Tr Pk := tellS s331 w331 (F331 N)
theorem T331_ok (N : Nat) : FOK Tryz.prog (331) (T331 N) :=
  (fn_ok2 ownT mix (tab331_ok N) Tryz.func331 s331 w331 [0] (cuts := []) trivial (fun _ => by kernel_rfl) (by decide +kernel) (F331 N) (fun x => by kernel_rfl))
@[reducible] def s368 : SP := ⟨[.ro (.int .i64)], []⟩
noncomputable def tab368 (N : Nat) : List (Nat × (Pk → Tr Pk)) := [(370, T370 N), (371, T371 N)]
theorem tab368_ok (N : Nat) : TabOK Tryz.prog (tab368 N) := ⟨T370_ok N, T371_ok N, trivial⟩
@[reducible] def L368_16018 : LD := ⟨16018, [34, 33, 0, 32, 6, 7], [(.ret, [2, 3]), (.exit 2, [7, 0, 6]), (.exit 1, [7, 0, 6]), (.exit 0, [6])], ⟨[.int .i64, .int .i64, .ro (.int .i64), .ro (.int .i64), .adr 0 [], .int .i64], [.var 397 (.agg [.arr (.int .i64) 16, .sl 1, .int .i64]), .row (.int .i64) 3]⟩, [(.exit 2, ⟨[.int .i64, .ro (.int .i64), .adr 0 []], [.var 397 (.agg [.arr (.int .i64) 16, .sl 1, .int .i64]), .row (.int .i64) 3]⟩)]⟩
abbrev P368_16018 : Type := Int × Int × (List Int) × (List Int) × Int × (List Int) × Int × (List Int)
abbrev R368_16018 : Type := Int × (List Int) × (List Int) × Int × (List Int)
noncomputable def B368_16018 (N : Nat) (f : P368_16018 → Option R368_16018) : P368_16018 → Option R368_16018
  | (x0, x1, x2, x3, x4, x5, x6, x7) =>
  iteP (decide (x0 < x1)) (
    iteP (within x0 (List.length x3)) (
      Option.bind (x3[Int.toNat x0]?) fun y0 =>
      iteP (y0 == x4) (
        iteP (decide ((List.length x7 + List.length [x0]) * (8 : Nat) ≤ (140737488355328 : Nat) ∧ List.length x7 + List.length [x0] ≤ (140737488355328 : Nat))) (
          Option.bind (f (IntKind.wrap IntKind.i64 (x0 + (1 : Int)), x1, x2, x3, x4, x5, x4, x7 ++ [x0])) fun r => some r) (
          none )) (
        Option.bind (f (IntKind.wrap IntKind.i64 (x0 + (1 : Int)), x1, x2, x3, x4, x5, x6, x7)) fun r => some r)) (
      none )) (
    some ((x4, x2, x5, x6, x7)))
noncomputable def F368_16018 (N : Nat) : Nat → P368_16018 → Option R368_16018
  | 0, _ => none
  | k + 1, x => B368_16018 N (F368_16018 N k) x
noncomputable def C368_16018 (N : Nat) (k : Nat) : Cut := L368_16018.cut (F368_16018 N k)
theorem C368_16018_ok (N : Nat) (k : Nat) : CutAt Tryz.prog false Tryz.f368 [] 16018 (C368_16018 N k) :=
  L368_16018.loopT ownT mix (tab368_ok N) Tryz.f368 [] (cuts := []) trivial (by decide +kernel) (by kernel_rfl) (B368_16018 N) (F368_16018 N) (fun _ => rfl) (fun _ _ => rfl) (fun f x => by kernel_rfl) k
@[reducible] def L368_250 : LD := ⟨250, [0, 6, 7], [(.ret, [2, 3]), (.exit 0, [6])], ⟨[.ro (.int .i64), .adr 0 [], .int .i64], [.var 397 (.agg [.arr (.int .i64) 16, .sl 1, .int .i64]), .row (.int .i64) 3]⟩, [(.exit 0, ⟨[.adr 0 []], [.var 397 (.agg [.arr (.int .i64) 16, .sl 1, .int .i64]), .row (.int .i64) 3]⟩)]⟩
abbrev P368_250 : Type := (List Int) × Int × (List Int) × Int × (List Int)
abbrev R368_250 : Type := (List Int) × Int × (List Int)
noncomputable def B368_250 (N : Nat) (f : P368_250 → Option R368_250) : P368_250 → Option R368_250
  | (x0, x1, x2, x3, x4) =>
  iteP (decide (x1 ≤ (15 : Int))) (
    Option.bind (F368_16018 N N ((0 : Int), (↑(List.length x0) : Int), x0, x0, x1, x2, x3, x4)) fun y0 =>
    Option.bind (f (y0.2.1, IntKind.wrap IntKind.i64 (y0.1 + (1 : Int)), y0.2.2.1, y0.2.2.2.1, y0.2.2.2.2)) fun r => some r) (
    some ((x2, x3, x4)))
noncomputable def F368_250 (N : Nat) : Nat → P368_250 → Option R368_250
  | 0, _ => none
  | k + 1, x => B368_250 N (F368_250 N k) x
noncomputable def C368_250 (N : Nat) (k : Nat) : Cut := L368_250.cut (F368_250 N k)
theorem C368_250_ok (N : Nat) (k : Nat) : CutAt Tryz.prog false Tryz.f368 [] 250 (C368_250 N k) :=
  L368_250.loopT ownT mix (tab368_ok N) Tryz.f368 [] (cuts := [(16018, C368_16018 N N)]) ⟨C368_16018_ok N N, trivial⟩ (by decide +kernel) (by kernel_rfl) (B368_250 N) (F368_250 N) (fun _ => rfl) (fun _ _ => rfl) (fun f x => by kernel_rfl) k
@[reducible] def w368 : List SP := [⟨[.tup [.nilp, .int .i64]], []⟩, ⟨[.tup [.adr 0 [], .int .i64]], [.var 397 (.agg [.arr (.int .i64) 16, .sl 1, .int .i64]), .row (.int .i64) 3]⟩]
noncomputable def F368 (N : Nat) : ((List Int)) → Option (((Int) ⊕ (Int × (List Int) × Int × (List Int))))
  | x0 =>
  Option.bind (F370 N x0) fun y0 =>
  iteP (y0.2 != (0 : Int)) (
    some (.inl y0.2)) (
    Option.bind (F371 N x0) fun y1 =>
    Option.bind (F368_250 N N (x0, (1 : Int), y1.1, (0 : Int), [])) fun y2 =>
    some (.inr (((0 : Int), y2.1, y2.2.1, y2.2.2))))
noncomputable def T368 (N : Nat) : Pk → Tr Pk := tellS s368 w368 (F368 N)
theorem T368_ok (N : Nat) : FOK Tryz.prog (368) (T368 N) :=
  (fn_ok2 ownT mix (tab368_ok N) Tryz.func368 s368 w368 [] (cuts := [(16018, C368_16018 N N), (250, C368_250 N N)]) ⟨C368_16018_ok N N, C368_250_ok N N, trivial⟩ (fun _ => by kernel_rfl) (by decide +kernel) (F368 N) (fun x => by kernel_rfl))
@[reducible] def s349 : SP := ⟨[.int .i64], []⟩
noncomputable def tab349 (N : Nat) : List (Nat × (Pk → Tr Pk)) := []
theorem tab349_ok (N : Nat) : TabOK Tryz.prog (tab349 N) := trivial
@[reducible] def w349 : List SP := [⟨[.int .i64], []⟩]
noncomputable def F349 (N : Nat) : (Int) → Option (Int)
  | x0 =>
  iteP (x0 == (50 : Int)) (
    some ((80 : Int))) (
    iteP (x0 == (3 : Int)) (
      some ((80 : Int))) (
      some (x0)))
noncomputable def T349 (N : Nat) : Pk → Tr Pk := tellS s349 w349 (F349 N)
theorem T349_ok (N : Nat) : FOK Tryz.prog (349) (T349 N) :=
  (fn_ok2 ownT mix (tab349_ok N) Tryz.func349 s349 w349 [] (cuts := []) trivial (fun _ => by kernel_rfl) (by decide +kernel) (F349 N) (fun x => by kernel_rfl))
@[reducible] def s365 : SP := ⟨[.adr 0 [], .int .i64], [.var 345 (.agg [.str, .int .i64, .int .i64])]⟩
noncomputable def tab365 (N : Nat) : List (Nat × (Pk → Tr Pk)) := [(362, T362 N), (329, T329 N), (330, T330 N), (368, T368 N), (349, T349 N)]
theorem tab365_ok (N : Nat) : TabOK Tryz.prog (tab365 N) := ⟨T362_ok N, T329_ok N, T330_ok N, T368_ok N, T349_ok N, trivial⟩
@[reducible] def L365_58 : LD := ⟨58, [17, 16, 15, 6, 0], [(.ret, [4, 5]), (.exit 0, [0, 6])], ⟨[.int .i64, .int .i64, .slp 1 (.c 0) .h, .sl 2, .adr 0 []], [.var 345 (.agg [.str, .int .i64, .int .i64]), .row (.int .i64) 3, .row (.int .i64) 3]⟩, [(.exit 0, ⟨[.adr 0 [], .sl 1], [.var 345 (.agg [.str, .int .i64, .int .i64]), .row (.int .i64) 3]⟩)]⟩
abbrev P365_58 : Type := Int × Int × Nat × ByteArray × Int × Int × (List Int) × (List Int)
abbrev R365_58 : Type := ByteArray × Int × Int × (List Int)
noncomputable def B365_58 (N : Nat) (f : P365_58 → Option R365_58) : P365_58 → Option R365_58
  | (x0, x1, x2, x3, x4, x5, x6, x7) =>
  iteP (decide (x0 < x1)) (
    iteP (within x0 x2) (
      Option.bind (x6[(0 : Nat) + Int.toNat x0]?) fun y0 =>
      Option.bind (F329 N ((3 : Int), x3, x4, x5)) fun y1 =>
      iteP (within y0 (List.length x7)) (
        Option.bind (x7[Int.toNat y0]?) fun y2 =>
        Option.bind (f (IntKind.wrap IntKind.i64 (x0 + (1 : Int)), x1, x2, y1.2.1, y1.2.2.1, y1.2.2.2, x6, List.set x7 (Int.toNat y0) y1.1)) fun r => some r) (
        none )) (
      none )) (
    some ((x3, x4, x5, x7)))
noncomputable def F365_58 (N : Nat) : Nat → P365_58 → Option R365_58
  | 0, _ => none
  | k + 1, x => B365_58 N (F365_58 N k) x
noncomputable def C365_58 (N : Nat) (k : Nat) : Cut := L365_58.cut (F365_58 N k)
theorem C365_58_ok (N : Nat) (k : Nat) : CutAt Tryz.prog false Tryz.f365 [0] 58 (C365_58 N k) :=
  L365_58.loopT ownT mix (tab365_ok N) Tryz.f365 [0] (cuts := []) trivial (by decide +kernel) (by kernel_rfl) (B365_58 N) (F365_58 N) (fun _ => rfl) (fun _ _ => rfl) (fun f x => by kernel_rfl) k
@[reducible] def w365 : List SP := [⟨[.tup [.nilp, .int .i64]], [.var 345 (.agg [.str, .int .i64, .int .i64])]⟩, ⟨[.tup [.adr 1 [], .int .i64]], [.var 345 (.agg [.str, .int .i64, .int .i64]), .var 397 (.agg [.arr (.int .i64) 16, .sl 2, .int .i64]), .row (.int .i64) 3]⟩]
noncomputable def F365 (N : Nat) : (Int × ByteArray × Int × Int) → Option (((Int × ByteArray × Int × Int) ⊕ (Int × ByteArray × Int × Int × (List Int) × Int × (List Int))))
  | (x0, x1, x2, x3) =>
  Option.bind (F362 N ()) fun y0 =>
  iteP (decide ((0 : Int) ≤ x0 ∧ x0 ≤ (↑(List.length y0) : Int))) (
    Option.bind (F365_58 N N ((0 : Int), (↑(Int.toNat x0 - (0 : Nat)) : Int), Int.toNat x0 - (0 : Nat), x1, x2, x3, y0, List.replicate (19 : Nat) (0 : Int))) fun y1 =>
    Option.bind (F330 N (y1.1, y1.2.1, y1.2.2.1, ())) fun y2 =>
    iteP (y2 != (0 : Int)) (
      some (.inl ((y2, y1.1, y1.2.1, y1.2.2.1)))) (
      Option.bind (F368 N y1.2.2.2) fun y3 =>
      match y3 with
      | .inl y4 =>
        Option.bind (F349 N y4) fun y5 =>
        some (.inl ((y5, y1.1, y1.2.1, y1.2.2.1)))
      | .inr y4 =>
        Option.bind (F349 N y4.1) fun y6 =>
        some (.inr ((y6, y1.1, y1.2.1, y1.2.2.1, y4.2.1, y4.2.2.1, y4.2.2.2))))) (
    none )
noncomputable def T365 (N : Nat) : Pk → Tr Pk := tellS s365 w365 (F365 N)
theorem T365_ok (N : Nat) : FOK Tryz.prog (365) (T365 N) :=
  (fn_ok2 ownT mix (tab365_ok N) Tryz.func365 s365 w365 [0] (cuts := [(58, C365_58 N N)]) ⟨C365_58_ok N N, trivial⟩ (fun _ => by kernel_rfl) (by decide +kernel) (F365 N) (fun x => by kernel_rfl))
@[reducible] def s366 : SP := ⟨[.nilp, .adr 0 []], [.var 345 (.agg [.str, .int .i64, .int .i64])]⟩
noncomputable def tab366 (N : Nat) : List (Nat × (Pk → Tr Pk)) := []
theorem tab366_ok (N : Nat) : TabOK Tryz.prog (tab366 N) := trivial
@[reducible] def L366_58 : LD := ⟨58, [8, 0, 7, 1, 9, 6], [(.ret, [4, 5])], ⟨[.int .i64, .nilp, .int .i64, .adr 0 [], .int .i64, .int .i64], [.var 345 (.agg [.str, .int .i64, .int .i64])]⟩, []⟩
abbrev P366_58 : Type := Int × Int × Int × Int × ByteArray × Int × Int
abbrev R366_58 : Type := Unit
noncomputable def B366_58 (N : Nat) (f : P366_58 → Option R366_58) : P366_58 → Option R366_58
  | (x0, x1, x2, x3, x4, x5, x6) =>
  none 
noncomputable def F366_58 (N : Nat) : Nat → P366_58 → Option R366_58
  | 0, _ => none
  | k + 1, x => B366_58 N (F366_58 N k) x
noncomputable def C366_58 (N : Nat) (k : Nat) : Cut := L366_58.cut (F366_58 N k)
theorem C366_58_ok (N : Nat) (k : Nat) : CutAt Tryz.prog false Tryz.f366 [0] 58 (C366_58 N k) :=
  L366_58.loopT ownT mix (tab366_ok N) Tryz.f366 [0] (cuts := []) trivial (by decide +kernel) (by kernel_rfl) (B366_58 N) (F366_58 N) (fun _ => rfl) (fun _ _ => rfl) (fun f x => by kernel_rfl) k
@[reducible] def w366 : List SP := []
noncomputable def F366 (N : Nat) : (ByteArray × Int × Int) → Option (Unit)
  | (x0, x1, x2) =>
  Option.bind (F366_58 N N ((0 : Int), (0 : Int), (1 : Int), (0 : Int), x0, x1, x2)) fun y0 =>
  none
noncomputable def T366 (N : Nat) : Pk → Tr Pk := tellS s366 w366 (F366 N)
theorem T366_ok (N : Nat) : FOK Tryz.prog (366) (T366 N) :=
  (fn_ok2 ownT mix (tab366_ok N) Tryz.func366 s366 w366 [0] (cuts := [(58, C366_58 N N)]) ⟨C366_58_ok N N, trivial⟩ (fun _ => by kernel_rfl) (by decide +kernel) (F366 N) (fun x => by kernel_rfl))
@[reducible] def s380 : SP := ⟨[.adr 0 [], .int .i64], [.var 397 (.agg [.arr (.int .i64) 16, .sl 1, .int .i64]), .row (.int .i64) 3]⟩
noncomputable def tab380 (N : Nat) : List (Nat × (Pk → Tr Pk)) := []
theorem tab380_ok (N : Nat) : TabOK Tryz.prog (tab380 N) := trivial
@[reducible] def L380_58 : LD := ⟨58, [5, 6, 1, 0], [(.ret, [4]), (.exit 0, [5])], ⟨[.int .i64, .int .i64, .int .i64, .adr 0 []], [.var 397 (.agg [.arr (.int .i64) 16, .sl 1, .int .i64]), .row (.int .i64) 3]⟩, [(.exit 0, ⟨[.int .i64], [.var 397 (.agg [.arr (.int .i64) 16, .sl 1, .int .i64]), .row (.int .i64) 3]⟩)]⟩
abbrev P380_58 : Type := Int × Int × Int × (List Int) × Int × (List Int)
abbrev R380_58 : Type := Int × (List Int) × Int × (List Int)
noncomputable def B380_58 (N : Nat) (f : P380_58 → Option R380_58) : P380_58 → Option R380_58
  | (x0, x1, x2, x3, x4, x5) =>
  iteP (decide (x1 > x2)) (
    iteP (within x1 (16 : Nat)) (
      Option.bind (x3[Int.toNat x1]?) fun y0 =>
      Option.bind (f (IntKind.wrap IntKind.i64 (Int.tdiv (IntKind.wrap IntKind.i64 (IntKind.wrap IntKind.i64 (x0 + y0) + (1 : Int))) (2 : Int)), IntKind.wrap IntKind.i64 (x1 - (1 : Int)), x2, x3, x4, x5)) fun r => some r) (
      none )) (
    some ((x0, x3, x4, x5)))
noncomputable def F380_58 (N : Nat) : Nat → P380_58 → Option R380_58
  | 0, _ => none
  | k + 1, x => B380_58 N (F380_58 N k) x
noncomputable def C380_58 (N : Nat) (k : Nat) : Cut := L380_58.cut (F380_58 N k)
theorem C380_58_ok (N : Nat) (k : Nat) : CutAt Tryz.prog false Tryz.f380 [0] 58 (C380_58 N k) :=
  L380_58.loopT ownT mix (tab380_ok N) Tryz.f380 [0] (cuts := []) trivial (by decide +kernel) (by kernel_rfl) (B380_58 N) (F380_58 N) (fun _ => rfl) (fun _ _ => rfl) (fun f x => by kernel_rfl) k
@[reducible] def w380 : List SP := [⟨[.int .i64], [.var 397 (.agg [.arr (.int .i64) 16, .sl 1, .int .i64]), .row (.int .i64) 3]⟩]
noncomputable def F380 (N : Nat) : (Int × (List Int) × Int × (List Int)) → Option (Int × (List Int) × Int × (List Int))
  | (x0, x1, x2, x3) =>
  Option.bind (F380_58 N N ((0 : Int), x2, x0, x1, x2, x3)) fun y0 =>
  some ((y0.1, y0.2.1, y0.2.2.1, y0.2.2.2))
noncomputable def T380 (N : Nat) : Pk → Tr Pk := tellS s380 w380 (F380 N)
theorem T380_ok (N : Nat) : FOK Tryz.prog (380) (T380 N) :=
  (fn_ok2 ownT mix (tab380_ok N) Tryz.func380 s380 w380 [0] (cuts := [(58, C380_58 N N)]) ⟨C380_58_ok N N, trivial⟩ (fun _ => by kernel_rfl) (by decide +kernel) (F380 N) (fun x => by kernel_rfl))
@[reducible] def s366a : SP := ⟨[.adr 0 [], .adr 1 []], [.var 397 (.agg [.arr (.int .i64) 16, .sl 2, .int .i64]), .var 345 (.agg [.str, .int .i64, .int .i64]), .row (.int .i64) 3]⟩
noncomputable def tab366a (N : Nat) : List (Nat × (Pk → Tr Pk)) := [(329, T329 N), (330, T330 N), (380, T380 N)]
theorem tab366a_ok (N : Nat) : TabOK Tryz.prog (tab366a N) := ⟨T329_ok N, T330_ok N, T380_ok N, trivial⟩
@[reducible] def L366a_58 : LD := ⟨58, [8, 0, 7, 1, 9, 6], [(.ret, [4, 5]), (.exit 0, [])], ⟨[.int .i64, .adr 0 [], .int .i64, .adr 1 [], .int .i64, .int .i64], [.var 397 (.agg [.arr (.int .i64) 16, .sl 2, .int .i64]), .var 345 (.agg [.str, .int .i64, .int .i64]), .row (.int .i64) 3]⟩, [(.ret, ⟨[.int .i64, .int .i64], [.var 397 (.agg [.arr (.int .i64) 16, .sl 2, .int .i64]), .var 345 (.agg [.str, .int .i64, .int .i64]), .row (.int .i64) 3]⟩), (.exit 0, ⟨[], [.var 397 (.agg [.arr (.int .i64) 16, .sl 2, .int .i64]), .var 345 (.agg [.str, .int .i64, .int .i64]), .row (.int .i64) 3]⟩)]⟩
abbrev P366a_58 : Type := Int × Int × Int × Int × (List Int) × Int × ByteArray × Int × Int × (List Int)
abbrev R366a_58 : Type := ((Int × Int × (List Int) × Int × ByteArray × Int × Int × (List Int)) ⊕ ((List Int) × Int × ByteArray × Int × Int × (List Int)))
noncomputable def B366a_58 (N : Nat) (f : P366a_58 → Option R366a_58) : P366a_58 → Option R366a_58
  | (x0, x1, x2, x3, x4, x5, x6, x7, x8, x9) =>
  iteP (decide (x2 ≤ x5)) (
    Option.bind (F329 N ((1 : Int), x6, x7, x8)) fun y0 =>
    Option.bind (F330 N (y0.2.1, y0.2.2.1, y0.2.2.2, ())) fun y1 =>
    iteP (y1 != (0 : Int)) (
      some (.inl (((0 : Int), y1, x4, x5, y0.2.1, y0.2.2.1, y0.2.2.2, x9)))) (
      iteP (within x2 (16 : Nat)) (
        Option.bind (x4[Int.toNat x2]?) fun y2 =>
        iteP (decide (IntKind.wrap IntKind.i64 (IntKind.wrap IntKind.i64 (↑(BitVec.toNat (BitVec.ofInt (64 : Nat) x3 ||| BitVec.ofInt (64 : Nat) y0.1)) : Int) - x1) < y2)) (
          iteP (within (IntKind.wrap IntKind.i64 (x0 + IntKind.wrap IntKind.i64 (IntKind.wrap IntKind.i64 (↑(BitVec.toNat (BitVec.ofInt (64 : Nat) x3 ||| BitVec.ofInt (64 : Nat) y0.1)) : Int) - x1))) (List.length x9)) (
            Option.bind (x9[Int.toNat (IntKind.wrap IntKind.i64 (x0 + IntKind.wrap IntKind.i64 (IntKind.wrap IntKind.i64 (↑(BitVec.toNat (BitVec.ofInt (64 : Nat) x3 ||| BitVec.ofInt (64 : Nat) y0.1)) : Int) - x1)))]?) fun y3 =>
            some (.inl ((y3, (0 : Int), x4, x5, y0.2.1, y0.2.2.1, y0.2.2.2, x9)))) (
            none )) (
          iteP (within x2 (16 : Nat)) (
            Option.bind (x4[Int.toNat x2]?) fun y4 =>
            iteP (within x2 (16 : Nat)) (
              Option.bind (x4[Int.toNat x2]?) fun y5 =>
              Option.bind (F380 N (x2, x4, x5, x9)) fun y6 =>
              iteP (decide (IntKind.wrap IntKind.i64 (Int.fdiv (IntKind.wrap IntKind.i64 (IntKind.wrap IntKind.i64 (↑(BitVec.toNat (BitVec.ofInt (64 : Nat) x3 ||| BitVec.ofInt (64 : Nat) y0.1)) : Int) * (2 : Int))) (2 : Int) - Int.fdiv (IntKind.wrap IntKind.i64 (IntKind.wrap IntKind.i64 (x1 + y5) * (2 : Int))) (2 : Int)) ≥ y6.1)) (
                some (.inl (((0 : Int), (3 : Int), y6.2.1, y6.2.2.1, y0.2.1, y0.2.2.1, y0.2.2.2, y6.2.2.2)))) (
                Option.bind (f (IntKind.wrap IntKind.i64 (x0 + y4), IntKind.wrap IntKind.i64 (IntKind.wrap IntKind.i64 (x1 + y5) * (2 : Int)), IntKind.wrap IntKind.i64 (x2 + (1 : Int)), IntKind.wrap IntKind.i64 (IntKind.wrap IntKind.i64 (↑(BitVec.toNat (BitVec.ofInt (64 : Nat) x3 ||| BitVec.ofInt (64 : Nat) y0.1)) : Int) * (2 : Int)), y6.2.1, y6.2.2.1, y0.2.1, y0.2.2.1, y0.2.2.2, y6.2.2.2)) fun r => match r with | .inl y => some (.inl y) | .inr y => some (.inr y))) (
              none )) (
            none ))) (
        none ))) (
    some (.inr ((x4, x5, x6, x7, x8, x9))))
noncomputable def F366a_58 (N : Nat) : Nat → P366a_58 → Option R366a_58
  | 0, _ => none
  | k + 1, x => B366a_58 N (F366a_58 N k) x
noncomputable def C366a_58 (N : Nat) (k : Nat) : Cut := L366a_58.cut (F366a_58 N k)
theorem C366a_58_ok (N : Nat) (k : Nat) : CutAt Tryz.prog false Tryz.f366 [0, 1] 58 (C366a_58 N k) :=
  L366a_58.loopT ownT mix (tab366a_ok N) Tryz.f366 [0, 1] (cuts := []) trivial (by decide +kernel) (by kernel_rfl) (B366a_58 N) (F366a_58 N) (fun _ => rfl) (fun _ _ => rfl) (fun f x => by kernel_rfl) k
@[reducible] def w366a : List SP := [⟨[.tup [.int .i64, .int .i64]], [.var 397 (.agg [.arr (.int .i64) 16, .sl 2, .int .i64]), .var 345 (.agg [.str, .int .i64, .int .i64]), .row (.int .i64) 3]⟩]
noncomputable def F366a (N : Nat) : ((List Int) × Int × ByteArray × Int × Int × (List Int)) → Option (Int × Int × (List Int) × Int × ByteArray × Int × Int × (List Int))
  | (x0, x1, x2, x3, x4, x5) =>
  Option.bind (F366a_58 N N ((0 : Int), (0 : Int), (1 : Int), (0 : Int), x0, x1, x2, x3, x4, x5)) fun y0 =>
  match y0 with
  | .inl (y1_0, y1_1, y1_2, y1_3, y1_4, y1_5, y1_6, y1_7) =>
    some ((y1_0, y1_1, y1_2, y1_3, y1_4, y1_5, y1_6, y1_7))
  | .inr (y1_0, y1_1, y1_2, y1_3, y1_4, y1_5) =>
    some (((0 : Int), (3 : Int), y1_0, y1_1, y1_2, y1_3, y1_4, y1_5))
noncomputable def T366a (N : Nat) : Pk → Tr Pk := tellS s366a w366a (F366a N)
theorem T366a_ok (N : Nat) : FOK Tryz.prog (366) (T366a N) :=
  (fn_ok2 ownT mix (tab366a_ok N) Tryz.func366 s366a w366a [0, 1] (cuts := [(58, C366a_58 N N)]) ⟨C366a_58_ok N N, trivial⟩ (fun _ => by kernel_rfl) (by decide +kernel) (F366a N) (fun x => by kernel_rfl))
@[reducible] def s367 : SP := ⟨[.adr 0 [], .int .i64, .ro (.int .i64)], [.var 345 (.agg [.str, .int .i64, .int .i64])]⟩
noncomputable def tab367 (N : Nat) : List (Nat × (Pk → Tr Pk)) := [(329, T329 N), (330, T330 N)]
theorem tab367_ok (N : Nat) : TabOK Tryz.prog (tab367 N) := ⟨T329_ok N, T330_ok N, trivial⟩
@[reducible] def w367 : List SP := [⟨[.tup [.int .i64, .int .i64, .int .i64]], [.var 345 (.agg [.str, .int .i64, .int .i64])]⟩]
noncomputable def F367 (N : Nat) : (Int × (List Int) × ByteArray × Int × Int) → Option (Int × Int × Int × ByteArray × Int × Int)
  | (x0, x1, x2, x3, x4) =>
  iteP (x0 == (16 : Int)) (
    iteP ((↑(List.length x1) : Int) == (0 : Int)) (
      some (((0 : Int), (0 : Int), (80 : Int), x2, x3, x4))) (
      iteP (within (IntKind.wrap IntKind.i64 ((↑(List.length x1) : Int) - (1 : Int))) (List.length x1)) (
        Option.bind (x1[Int.toNat (IntKind.wrap IntKind.i64 ((↑(List.length x1) : Int) - (1 : Int)))]?) fun y0 =>
        Option.bind (F329 N ((2 : Int), x2, x3, x4)) fun y1 =>
        Option.bind (F330 N (y1.2.1, y1.2.2.1, y1.2.2.2, ())) fun y2 =>
        some ((y0, IntKind.wrap IntKind.i64 ((3 : Int) + y1.1), y2, y1.2.1, y1.2.2.1, y1.2.2.2))) (
        none ))) (
    iteP (x0 == (17 : Int)) (
      Option.bind (F329 N ((3 : Int), x2, x3, x4)) fun y3 =>
      Option.bind (F330 N (y3.2.1, y3.2.2.1, y3.2.2.2, ())) fun y4 =>
      some (((0 : Int), IntKind.wrap IntKind.i64 ((3 : Int) + y3.1), y4, y3.2.1, y3.2.2.1, y3.2.2.2))) (
      iteP (x0 == (18 : Int)) (
        Option.bind (F329 N ((7 : Int), x2, x3, x4)) fun y5 =>
        Option.bind (F330 N (y5.2.1, y5.2.2.1, y5.2.2.2, ())) fun y6 =>
        some (((0 : Int), IntKind.wrap IntKind.i64 ((11 : Int) + y5.1), y6, y5.2.1, y5.2.2.1, y5.2.2.2))) (
        Option.bind (F330 N (x2, x3, x4, ())) fun y7 =>
        some ((x0, (1 : Int), y7, x2, x3, x4)))))
noncomputable def T367 (N : Nat) : Pk → Tr Pk := tellS s367 w367 (F367 N)
theorem T367_ok (N : Nat) : FOK Tryz.prog (367) (T367 N) :=
  (fn_ok2 ownT mix (tab367_ok N) Tryz.func367 s367 w367 [0] (cuts := []) trivial (fun _ => by kernel_rfl) (by decide +kernel) (F367 N) (fun x => by kernel_rfl))
@[reducible] def s347 : SP := ⟨[.adr 0 []], [.var 345 (.agg [.str, .int .i64, .int .i64])]⟩
noncomputable def tab347 (N : Nat) : List (Nat × (Pk → Tr Pk)) := [(329, T329 N), (330, T330 N), (365, T365 N), (366, orT s366.I (T366 N) (T366a N)), (349, T349 N), (367, T367 N)]
theorem tab347_ok (N : Nat) : TabOK Tryz.prog (tab347 N) := ⟨T329_ok N, T330_ok N, T365_ok N, orT_ok (T366_ok N) (T366a_ok N), T349_ok N, T367_ok N, trivial⟩
@[reducible] def L347_508 : LD := ⟨508, [9, 5, 6, 0, 10], [(.ret, [2, 3, 4]), (.exit 1, [10, 5])], ⟨[.nilp, .int .i64, .int .i64, .adr 0 [], .sl 1], [.var 345 (.agg [.str, .int .i64, .int .i64]), .row (.int .i64) 3]⟩, [(.exit 1, ⟨[.sl 1, .int .i64], [.var 345 (.agg [.str, .int .i64, .int .i64]), .row (.int .i64) 3]⟩)]⟩
abbrev P347_508 : Type := Int × Int × ByteArray × Int × Int × (List Int)
abbrev R347_508 : Type := Int × ByteArray × Int × Int × (List Int)
noncomputable def B347_508 (N : Nat) (f : P347_508 → Option R347_508) : P347_508 → Option R347_508
  | (x0, x1, x2, x3, x4, x5) =>
  iteP (decide ((↑(List.length x5) : Int) < IntKind.wrap IntKind.i64 (x0 + x1))) (
    Option.bind (F366 N (x2, x3, x4)) fun y0 =>
    none) (
    some ((x0, x2, x3, x4, x5)))
noncomputable def F347_508 (N : Nat) : Nat → P347_508 → Option R347_508
  | 0, _ => none
  | k + 1, x => B347_508 N (F347_508 N k) x
noncomputable def C347_508 (N : Nat) (k : Nat) : Cut := L347_508.cut (F347_508 N k)
theorem C347_508_ok (N : Nat) (k : Nat) : CutAt Tryz.prog false Tryz.f347 [0] 508 (C347_508 N k) :=
  L347_508.loopT ownT mix (tab347_ok N) Tryz.f347 [0] (cuts := []) trivial (by decide +kernel) (by kernel_rfl) (B347_508 N) (F347_508 N) (fun _ => rfl) (fun _ _ => rfl) (fun f x => by kernel_rfl) k
@[reducible] def L347_260286 : LD := ⟨260286, [10, 84, 83, 0, 6, 5, 9, 13], [(.ret, [2, 3, 4]), (.exit 4, [9, 5, 6, 0, 10]), (.exit 2, [9, 5, 6, 0, 10]), (.exit 1, [10, 5])], ⟨[.sl 1, .int .i64, .int .i64, .adr 0 [], .int .i64, .int .i64, .adr 2 [], .int .i64], [.var 345 (.agg [.str, .int .i64, .int .i64]), .row (.int .i64) 3, .var 397 (.agg [.arr (.int .i64) 16, .sl 3, .int .i64]), .row (.int .i64) 3]⟩, [(.exit 4, ⟨[.adr 1 [], .int .i64, .int .i64, .adr 0 [], .sl 2], [.var 345 (.agg [.str, .int .i64, .int .i64]), .var 397 (.agg [.arr (.int .i64) 16, .sl 3, .int .i64]), .row (.int .i64) 3, .row (.int .i64) 3]⟩)]⟩
abbrev P347_260286 : Type := Int × Int × Int × Int × Int × ByteArray × Int × Int × (List Int) × (List Int) × Int × (List Int)
abbrev R347_260286 : Type := Int × Int × ByteArray × Int × Int × (List Int) × Int × (List Int) × (List Int)
noncomputable def B347_260286 (N : Nat) (f : P347_260286 → Option R347_260286) : P347_260286 → Option R347_260286
  | (x0, x1, x2, x3, x4, x5, x6, x7, x8, x9, x10, x11) =>
  iteP (decide (x0 < x1)) (
    iteP (decide ((List.length x8 + List.length [x4]) * (8 : Nat) ≤ (140737488355328 : Nat) ∧ List.length x8 + List.length [x4] ≤ (140737488355328 : Nat))) (
      Option.bind (f (IntKind.wrap IntKind.i64 (x0 + (1 : Int)), x1, x2, x3, x4, x5, x6, x7, x8 ++ [x4], x9, x10, x11)) fun r => some r) (
      none )) (
    some ((x3, x2, x5, x6, x7, x9, x10, x8, x11)))
noncomputable def F347_260286 (N : Nat) : Nat → P347_260286 → Option R347_260286
  | 0, _ => none
  | k + 1, x => B347_260286 N (F347_260286 N k) x
noncomputable def C347_260286 (N : Nat) (k : Nat) : Cut := L347_260286.cut (F347_260286 N k)
theorem C347_260286_ok (N : Nat) (k : Nat) : CutAt Tryz.prog false Tryz.f347 [0] 260286 (C347_260286 N k) :=
  L347_260286.loopT ownT mix (tab347_ok N) Tryz.f347 [0] (cuts := [(508, C347_508 N N)]) ⟨C347_508_ok N N, trivial⟩ (by decide +kernel) (by kernel_rfl) (B347_260286 N) (F347_260286 N) (fun _ => rfl) (fun _ _ => rfl) (fun f x => by kernel_rfl) k
@[reducible] def L347_508b : LD := ⟨508, [9, 5, 6, 0, 10], [(.ret, [2, 3, 4]), (.exit 1, [10, 5])], ⟨[.adr 1 [], .int .i64, .int .i64, .adr 0 [], .sl 2], [.var 345 (.agg [.str, .int .i64, .int .i64]), .var 397 (.agg [.arr (.int .i64) 16, .sl 3, .int .i64]), .row (.int .i64) 3, .row (.int .i64) 3]⟩, [(.ret, ⟨[.sl 1, .sl 2, .int .i64], [.var 345 (.agg [.str, .int .i64, .int .i64]), .row (.int .i64) 3, .row (.int .i64) 3]⟩), (.exit 1, ⟨[.sl 1, .int .i64], [.var 345 (.agg [.str, .int .i64, .int .i64]), .row (.int .i64) 3]⟩)]⟩
abbrev P347_508b : Type := Int × Int × ByteArray × Int × Int × (List Int) × Int × (List Int) × (List Int)
abbrev R347_508b : Type := ((Int × ByteArray × Int × Int × (List Int) × (List Int)) ⊕ (Int × ByteArray × Int × Int × (List Int)))
noncomputable def B347_508b (N : Nat) (f : P347_508b → Option R347_508b) : P347_508b → Option R347_508b
  | (x0, x1, x2, x3, x4, x5, x6, x7, x8) =>
  iteP (decide ((↑(List.length x7) : Int) < IntKind.wrap IntKind.i64 (x0 + x1))) (
    Option.bind (F366a N (x5, x6, x2, x3, x4, x8)) fun (y0_0, y0_1, y0_2, y0_3, y0_4, y0_5, y0_6, y0_7) =>
    iteP (y0_1 != (0 : Int)) (
      Option.bind (F349 N y0_1) fun y1 =>
      some (.inl ((y1, y0_4, y0_5, y0_6, [], [])))) (
      Option.bind (F367 N (y0_0, x7, y0_4, y0_5, y0_6)) fun (y2_0, y2_1, y2_2, y2_3, y2_4, y2_5) =>
      iteP (y2_2 != (0 : Int)) (
        some (.inl ((y2_2, y2_3, y2_4, y2_5, [], [])))) (
        iteP (decide (IntKind.wrap IntKind.i64 ((↑(List.length x7) : Int) + y2_1) > IntKind.wrap IntKind.i64 (x0 + x1))) (
          some (.inl (((80 : Int), y2_3, y2_4, y2_5, [], [])))) (
          Option.bind (F347_260286 N N ((0 : Int), y2_1, x1, x0, y2_0, y2_3, y2_4, y2_5, x7, y0_2, y0_3, y0_7)) fun (y3_0, y3_1, y3_2, y3_3, y3_4, y3_5, y3_6, y3_7, y3_8) =>
          Option.bind (f (y3_0, y3_1, y3_2, y3_3, y3_4, y3_5, y3_6, y3_7, y3_8)) fun r => match r with | .inl y => some (.inl y) | .inr y => some (.inr y))))) (
    some (.inr ((x0, x2, x3, x4, x7))))
noncomputable def F347_508b (N : Nat) : Nat → P347_508b → Option R347_508b
  | 0, _ => none
  | k + 1, x => B347_508b N (F347_508b N k) x
noncomputable def C347_508b (N : Nat) (k : Nat) : Cut := L347_508b.cut (F347_508b N k)
theorem C347_508b_ok (N : Nat) (k : Nat) : CutAt Tryz.prog false Tryz.f347 [0] 508 (C347_508b N k) :=
  L347_508b.loopT ownT mix (tab347_ok N) Tryz.f347 [0] (cuts := [(508, C347_508 N N), (260286, C347_260286 N N)]) ⟨C347_508_ok N N, C347_260286_ok N N, trivial⟩ (by decide +kernel) (by kernel_rfl) (B347_508b N) (F347_508b N) (fun _ => rfl) (fun _ _ => rfl) (fun f x => by kernel_rfl) k
@[reducible] def w347 : List SP := [⟨[.tup [.sl 1, .sl 2, .int .i64]], [.var 345 (.agg [.str, .int .i64, .int .i64]), .row (.int .i64) 3, .row (.int .i64) 3]⟩, ⟨[.tup [.slp 1 (.c 0) .h, .slp 1 .h .h, .int .i64]], [.var 345 (.agg [.str, .int .i64, .int .i64]), .row (.int .i64) 3]⟩]
noncomputable def F347 (N : Nat) : (ByteArray × Int × Int) → Option (((Int × ByteArray × Int × Int × (List Int) × (List Int)) ⊕ (Nat × Nat × Nat × Int × ByteArray × Int × Int × (List Int))))
  | (x0, x1, x2) =>
  Option.bind (F329 N ((5 : Int), x0, x1, x2)) fun y0 =>
  Option.bind (F329 N ((5 : Int), y0.2.1, y0.2.2.1, y0.2.2.2)) fun y1 =>
  Option.bind (F329 N ((4 : Int), y1.2.1, y1.2.2.1, y1.2.2.2)) fun y2 =>
  Option.bind (F330 N (y2.2.1, y2.2.2.1, y2.2.2.2, ())) fun y3 =>
  iteP (y3 != (0 : Int)) (
    some (.inl ((y3, y2.2.1, y2.2.2.1, y2.2.2.2, [], [])))) (
    iteP (decide (IntKind.wrap IntKind.i64 (y0.1 + (257 : Int)) > (286 : Int))) (
      some (.inl (((80 : Int), y2.2.1, y2.2.2.1, y2.2.2.2, [], [])))) (
      iteP (decide (IntKind.wrap IntKind.i64 (y1.1 + (1 : Int)) > (30 : Int))) (
        some (.inl (((80 : Int), y2.2.1, y2.2.2.1, y2.2.2.2, [], [])))) (
        Option.bind (F365 N (IntKind.wrap IntKind.i64 (y2.1 + (4 : Int)), y2.2.1, y2.2.2.1, y2.2.2.2)) fun y4 =>
        match y4 with
        | .inl y5 =>
          iteP (y5.1 != (0 : Int)) (
            some (.inl ((y5.1, y5.2.1, y5.2.2.1, y5.2.2.2, [], [])))) (
            Option.bind (F347_508 N N (IntKind.wrap IntKind.i64 (y0.1 + (257 : Int)), IntKind.wrap IntKind.i64 (y1.1 + (1 : Int)), y5.2.1, y5.2.2.1, y5.2.2.2, [])) fun y6 =>
            iteP (decide ((0 : Int) ≤ y6.1 ∧ y6.1 ≤ y6.1 ∧ y6.1 ≤ (↑(List.length y6.2.2.2.2) : Int))) (
              iteP (decide ((0 : Int) ≤ y6.1 ∧ y6.1 ≤ (↑(List.length y6.2.2.2.2) : Int))) (
                some (.inr ((Int.toNat y6.1, Int.toNat y6.1, List.length y6.2.2.2.2 - Int.toNat y6.1, (0 : Int), y6.2.1, y6.2.2.1, y6.2.2.2.1, y6.2.2.2.2)))) (
                none )) (
              none ))
        | .inr (y5_0, y5_1, y5_2, y5_3, y5_4, y5_5, y5_6) =>
          iteP (y5_0 != (0 : Int)) (
            some (.inl ((y5_0, y5_1, y5_2, y5_3, [], [])))) (
            Option.bind (F347_508b N N (IntKind.wrap IntKind.i64 (y0.1 + (257 : Int)), IntKind.wrap IntKind.i64 (y1.1 + (1 : Int)), y5_1, y5_2, y5_3, y5_4, y5_5, [], y5_6)) fun y7 =>
            match y7 with
            | .inl (y8_0, y8_1, y8_2, y8_3, y8_4, y8_5) =>
              some (.inl ((y8_0, y8_1, y8_2, y8_3, y8_4, y8_5)))
            | .inr y8 =>
              iteP (decide ((0 : Int) ≤ y8.1 ∧ y8.1 ≤ y8.1 ∧ y8.1 ≤ (↑(List.length y8.2.2.2.2) : Int))) (
                iteP (decide ((0 : Int) ≤ y8.1 ∧ y8.1 ≤ (↑(List.length y8.2.2.2.2) : Int))) (
                  some (.inr ((Int.toNat y8.1, Int.toNat y8.1, List.length y8.2.2.2.2 - Int.toNat y8.1, (0 : Int), y8.2.1, y8.2.2.1, y8.2.2.2.1, y8.2.2.2.2)))) (
                  none )) (
                none )))))
noncomputable def T347 (N : Nat) : Pk → Tr Pk := tellS s347 w347 (F347 N)
theorem T347_ok (N : Nat) : FOK Tryz.prog (347) (T347 N) :=
  (fn_ok2 ownT mix (tab347_ok N) Tryz.func347 s347 w347 [0] (cuts := [(508, orC L347_508.s.I (C347_508 N N) (C347_508b N N)), (260286, C347_260286 N N)]) ⟨fun c' h => orC_ok (C347_508_ok N N c' h) (C347_508b_ok N N c' h) rfl rfl, C347_260286_ok N N, trivial⟩ (fun _ => by kernel_rfl) (by decide +kernel) (F347 N) (fun x => by kernel_rfl))
@[reducible] def s381 : SP := ⟨[.adr 0 [], .int .i64, .fn 373], [.var 345 (.agg [.str, .int .i64, .int .i64])]⟩
noncomputable def tab381 (N : Nat) : List (Nat × (Pk → Tr Pk)) := [(373, T373 N), (329, T329 N), (330, T330 N)]
theorem tab381_ok (N : Nat) : TabOK Tryz.prog (tab381 N) := ⟨T373_ok N, T329_ok N, T330_ok N, trivial⟩
@[reducible] def w381 : List SP := [⟨[.tup [.int .i64, .int .i64]], [.var 345 (.agg [.str, .int .i64, .int .i64])]⟩]
noncomputable def F381 (N : Nat) : (Int × ByteArray × Int × Int) → Option (Int × Int × ByteArray × Int × Int)
  | (x0, x1, x2, x3) =>
  Option.bind (F373 N x0) fun y0 =>
  Option.bind (F329 N (y0.2, x1, x2, x3)) fun y1 =>
  Option.bind (F330 N (y1.2.1, y1.2.2.1, y1.2.2.2, ())) fun y2 =>
  some ((IntKind.wrap IntKind.i64 (y0.1 + y1.1), y2, y1.2.1, y1.2.2.1, y1.2.2.2))
noncomputable def T381 (N : Nat) : Pk → Tr Pk := tellS s381 w381 (F381 N)
theorem T381_ok (N : Nat) : FOK Tryz.prog (381) (T381 N) :=
  (fn_ok2 ownT mix (tab381_ok N) Tryz.func381 s381 w381 [0] (cuts := []) trivial (fun _ => by kernel_rfl) (by decide +kernel) (F381 N) (fun x => by kernel_rfl))
@[reducible] def s369 : SP := ⟨[.adr 0 [], .int .i64, .nilp], [.var 345 (.agg [.str, .int .i64, .int .i64])]⟩
noncomputable def tab369 (N : Nat) : List (Nat × (Pk → Tr Pk)) := [(381, T381 N), (366, T366 N)]
theorem tab369_ok (N : Nat) : TabOK Tryz.prog (tab369 N) := ⟨T381_ok N, T366_ok N, trivial⟩
@[reducible] def w369 : List SP := [⟨[.tup [.agg [.int .i64, .int .i64, .int .i64], .int .i64]], [.var 345 (.agg [.str, .int .i64, .int .i64])]⟩]
noncomputable def F369 (N : Nat) : (Int × ByteArray × Int × Int) → Option (Int × Int × Int × Int × ByteArray × Int × Int)
  | (x0, x1, x2, x3) =>
  iteP (decide (x0 > (285 : Int))) (
    some (((0 : Int), (0 : Int), (0 : Int), (3 : Int), x1, x2, x3))) (
    Option.bind (F381 N (x0, x1, x2, x3)) fun y0 =>
    iteP (y0.2.1 != (0 : Int)) (
      some (((0 : Int), (0 : Int), (0 : Int), y0.2.1, y0.2.2.1, y0.2.2.2.1, y0.2.2.2.2))) (
      Option.bind (F366 N (y0.2.2.1, y0.2.2.2.1, y0.2.2.2.2)) fun y1 =>
      none))
noncomputable def T369 (N : Nat) : Pk → Tr Pk := tellS s369 w369 (F369 N)
theorem T369_ok (N : Nat) : FOK Tryz.prog (369) (T369 N) :=
  (fn_ok2 ownT mix (tab369_ok N) Tryz.func369 s369 w369 [0] (cuts := []) trivial (fun _ => by kernel_rfl) (by decide +kernel) (F369 N) (fun x => by kernel_rfl))
@[reducible] def s381a : SP := ⟨[.adr 0 [], .int .i64, .fn 374], [.var 345 (.agg [.str, .int .i64, .int .i64])]⟩
noncomputable def tab381a (N : Nat) : List (Nat × (Pk → Tr Pk)) := [(374, T374 N), (329, T329 N), (330, T330 N)]
theorem tab381a_ok (N : Nat) : TabOK Tryz.prog (tab381a N) := ⟨T374_ok N, T329_ok N, T330_ok N, trivial⟩
@[reducible] def w381a : List SP := [⟨[.tup [.int .i64, .int .i64]], [.var 345 (.agg [.str, .int .i64, .int .i64])]⟩]
noncomputable def F381a (N : Nat) : (Int × ByteArray × Int × Int) → Option (Int × Int × ByteArray × Int × Int)
  | (x0, x1, x2, x3) =>
  Option.bind (F374 N x0) fun y0 =>
  Option.bind (F329 N (y0.2, x1, x2, x3)) fun y1 =>
  Option.bind (F330 N (y1.2.1, y1.2.2.1, y1.2.2.2, ())) fun y2 =>
  some ((IntKind.wrap IntKind.i64 (y0.1 + y1.1), y2, y1.2.1, y1.2.2.1, y1.2.2.2))
noncomputable def T381a (N : Nat) : Pk → Tr Pk := tellS s381a w381a (F381a N)
theorem T381a_ok (N : Nat) : FOK Tryz.prog (381) (T381a N) :=
  (fn_ok2 ownT mix (tab381a_ok N) Tryz.func381 s381a w381a [0] (cuts := []) trivial (fun _ => by kernel_rfl) (by decide +kernel) (F381a N) (fun x => by kernel_rfl))
@[reducible] def s369a : SP := ⟨[.adr 0 [], .int .i64, .adr 1 []], [.var 345 (.agg [.str, .int .i64, .int .i64]), .var 397 (.agg [.arr (.int .i64) 16, .sl 2, .int .i64]), .row (.int .i64) 3]⟩
noncomputable def tab369a (N : Nat) : List (Nat × (Pk → Tr Pk)) := [(381, orT s381.I (T381 N) (T381a N)), (366, T366a N)]
theorem tab369a_ok (N : Nat) : TabOK Tryz.prog (tab369a N) := ⟨orT_ok (T381_ok N) (T381a_ok N), T366a_ok N, trivial⟩
@[reducible] def w369a : List SP := [⟨[.tup [.agg [.int .i64, .int .i64, .int .i64], .int .i64]], [.var 345 (.agg [.str, .int .i64, .int .i64]), .var 397 (.agg [.arr (.int .i64) 16, .sl 2, .int .i64]), .row (.int .i64) 3]⟩]
noncomputable def F369a (N : Nat) : (Int × ByteArray × Int × Int × (List Int) × Int × (List Int)) → Option (Int × Int × Int × Int × ByteArray × Int × Int × (List Int) × Int × (List Int))
  | (x0, x1, x2, x3, x4, x5, x6) =>
  iteP (decide (x0 > (285 : Int))) (
    some (((0 : Int), (0 : Int), (0 : Int), (3 : Int), x1, x2, x3, x4, x5, x6))) (
    Option.bind (F381 N (x0, x1, x2, x3)) fun y0 =>
    iteP (y0.2.1 != (0 : Int)) (
      some (((0 : Int), (0 : Int), (0 : Int), y0.2.1, y0.2.2.1, y0.2.2.2.1, y0.2.2.2.2, x4, x5, x6))) (
      Option.bind (F366a N (x4, x5, y0.2.2.1, y0.2.2.2.1, y0.2.2.2.2, x6)) fun (y1_0, y1_1, y1_2, y1_3, y1_4, y1_5, y1_6, y1_7) =>
      iteP (y1_1 != (0 : Int)) (
        some (((0 : Int), (0 : Int), (0 : Int), y1_1, y1_4, y1_5, y1_6, y1_2, y1_3, y1_7))) (
        iteP (decide (y1_0 ≥ (30 : Int))) (
          some (((0 : Int), (0 : Int), (0 : Int), (3 : Int), y1_4, y1_5, y1_6, y1_2, y1_3, y1_7))) (
          Option.bind (F381a N (y1_0, y1_4, y1_5, y1_6)) fun y2 =>
          some (((0 : Int), y0.1, y2.1, y2.2.1, y2.2.2.1, y2.2.2.2.1, y2.2.2.2.2, y1_2, y1_3, y1_7))))))
noncomputable def T369a (N : Nat) : Pk → Tr Pk := tellS s369a w369a (F369a N)
theorem T369a_ok (N : Nat) : FOK Tryz.prog (369) (T369a N) :=
  (fn_ok2 ownT mix (tab369a_ok N) Tryz.func369 s369a w369a [0, 1] (cuts := []) trivial (fun _ => by kernel_rfl) (by decide +kernel) (F369a N) (fun x => by kernel_rfl))
@[reducible] def s348 : SP := ⟨[.adr 0 [], .ro (.int .i64), .ro (.int .i64), .int .i64], [.var 345 (.agg [.str, .int .i64, .int .i64])]⟩
noncomputable def tab348 (N : Nat) : List (Nat × (Pk → Tr Pk)) := [(368, T368 N), (366, orT s366.I (T366 N) (T366a N)), (369, orT s369.I (T369 N) (T369a N))]
theorem tab348_ok (N : Nat) : TabOK Tryz.prog (tab348 N) := ⟨T368_ok N, orT_ok (T366_ok N) (T366a_ok N), orT_ok (T369_ok N) (T369a_ok N), trivial⟩
@[reducible] def L348_254 : LD := ⟨254, [14, 10, 0, 12, 3, 15], [(.ret, [8, 9]), (.exit 0, [8, 9])], ⟨[.sl 1, .nilp, .adr 0 [], .nilp, .int .i64, .int .i64], [.var 345 (.agg [.str, .int .i64, .int .i64]), .row y3 281]⟩, []⟩
abbrev P348_254 : Type := Int × Int × ByteArray × Int × Int × (List (Int × (Int × (Int × Unit))))
abbrev R348_254 : Type := Unit
noncomputable def B348_254 (N : Nat) (f : P348_254 → Option R348_254) : P348_254 → Option R348_254
  | (x0, x1, x2, x3, x4, x5) =>
  Option.bind (F366 N (x2, x3, x4)) fun y0 =>
  none
noncomputable def F348_254 (N : Nat) : Nat → P348_254 → Option R348_254
  | 0, _ => none
  | k + 1, x => B348_254 N (F348_254 N k) x
noncomputable def C348_254 (N : Nat) (k : Nat) : Cut := L348_254.cut (F348_254 N k)
theorem C348_254_ok (N : Nat) (k : Nat) : CutAt Tryz.prog false Tryz.f348 [0] 254 (C348_254 N k) :=
  L348_254.loopT ownT mix (tab348_ok N) Tryz.f348 [0] (cuts := []) trivial (by decide +kernel) (by kernel_rfl) (B348_254 N) (F348_254 N) (fun _ => rfl) (fun _ _ => rfl) (fun f x => by kernel_rfl) k
@[reducible] def L348_254b : LD := ⟨254, [14, 10, 0, 12, 3, 15], [(.ret, [8, 9]), (.exit 0, [8, 9])], ⟨[.sl 1, .nilp, .adr 0 [], .adr 2 [], .int .i64, .int .i64], [.var 345 (.agg [.str, .int .i64, .int .i64]), .row y3 281, .var 397 (.agg [.arr (.int .i64) 16, .sl 3, .int .i64]), .row (.int .i64) 3]⟩, []⟩
abbrev P348_254b : Type := Int × Int × ByteArray × Int × Int × (List (Int × (Int × (Int × Unit)))) × (List Int) × Int × (List Int)
abbrev R348_254b : Type := Unit
noncomputable def B348_254b (N : Nat) (f : P348_254b → Option R348_254b) : P348_254b → Option R348_254b
  | (x0, x1, x2, x3, x4, x5, x6, x7, x8) =>
  Option.bind (F366 N (x2, x3, x4)) fun y0 =>
  none
noncomputable def F348_254b (N : Nat) : Nat → P348_254b → Option R348_254b
  | 0, _ => none
  | k + 1, x => B348_254b N (F348_254b N k) x
noncomputable def C348_254b (N : Nat) (k : Nat) : Cut := L348_254b.cut (F348_254b N k)
theorem C348_254b_ok (N : Nat) (k : Nat) : CutAt Tryz.prog false Tryz.f348 [0] 254 (C348_254b N k) :=
  L348_254b.loopT ownT mix (tab348_ok N) Tryz.f348 [0] (cuts := [(254, C348_254 N N)]) ⟨C348_254_ok N N, trivial⟩ (by decide +kernel) (by kernel_rfl) (B348_254b N) (F348_254b N) (fun _ => rfl) (fun _ _ => rfl) (fun f x => by kernel_rfl) k
@[reducible] def L348_254c : LD := ⟨254, [14, 10, 0, 12, 3, 15], [(.ret, [8, 9]), (.exit 0, [8, 9])], ⟨[.sl 1, .adr 2 [], .adr 0 [], .nilp, .int .i64, .int .i64], [.var 345 (.agg [.str, .int .i64, .int .i64]), .row y3 281, .var 397 (.agg [.arr (.int .i64) 16, .sl 3, .int .i64]), .row (.int .i64) 3]⟩, [(.ret, ⟨[.sl 1, .int .i64], [.var 345 (.agg [.str, .int .i64, .int .i64]), .row y3 281]⟩)]⟩
abbrev P348_254c : Type := Int × Int × ByteArray × Int × Int × (List (Int × (Int × (Int × Unit)))) × (List Int) × Int × (List Int)
abbrev R348_254c : Type := Int × ByteArray × Int × Int × (List (Int × (Int × (Int × Unit))))
noncomputable def B348_254c (N : Nat) (f : P348_254c → Option R348_254c) : P348_254c → Option R348_254c
  | (x0, x1, x2, x3, x4, x5, x6, x7, x8) =>
  Option.bind (F366a N (x6, x7, x2, x3, x4, x8)) fun (y0_0, y0_1, y0_2, y0_3, y0_4, y0_5, y0_6, y0_7) =>
  iteP (y0_1 != (0 : Int)) (
    some ((y0_1, y0_4, y0_5, y0_6, []))) (
    iteP (y0_0 == (256 : Int)) (
      some (((0 : Int), y0_4, y0_5, y0_6, x5))) (
      iteP (decide (y0_0 > (256 : Int))) (
        Option.bind (F369 N (y0_0, y0_4, y0_5, y0_6)) fun (y1_0, y1_1, y1_2, y1_3, y1_4, y1_5, y1_6) =>
        iteP (y1_3 != (0 : Int)) (
          some ((y1_3, y1_4, y1_5, y1_6, []))) (
          iteP (decide (IntKind.wrap IntKind.i64 (x1 + if (1 : Int) > y1_1 then (1 : Int) else y1_1) > x0)) (
            some (((4 : Int), y1_4, y1_5, y1_6, []))) (
            iteP (decide ((List.length x5 + List.length [(y1_0, y1_1, y1_2, ())]) * (24 : Nat) ≤ (140737488355328 : Nat) ∧ List.length x5 + List.length [(y1_0, y1_1, y1_2, ())] ≤ (140737488355328 : Nat))) (
              Option.bind (f (x0, IntKind.wrap IntKind.i64 (x1 + if (1 : Int) > y1_1 then (1 : Int) else y1_1), y1_4, y1_5, y1_6, x5 ++ [(y1_0, y1_1, y1_2, ())], y0_2, y0_3, y0_7)) fun r => some r) (
              none )))) (
        iteP (decide (IntKind.wrap IntKind.i64 (x1 + (1 : Int)) > x0)) (
          some (((4 : Int), y0_4, y0_5, y0_6, []))) (
          iteP (decide ((List.length x5 + List.length [(y0_0, (0 : Int), (0 : Int), ())]) * (24 : Nat) ≤ (140737488355328 : Nat) ∧ List.length x5 + List.length [(y0_0, (0 : Int), (0 : Int), ())] ≤ (140737488355328 : Nat))) (
            Option.bind (f (x0, IntKind.wrap IntKind.i64 (x1 + (1 : Int)), y0_4, y0_5, y0_6, x5 ++ [(y0_0, (0 : Int), (0 : Int), ())], y0_2, y0_3, y0_7)) fun r => some r) (
            none )))))
noncomputable def F348_254c (N : Nat) : Nat → P348_254c → Option R348_254c
  | 0, _ => none
  | k + 1, x => B348_254c N (F348_254c N k) x
noncomputable def C348_254c (N : Nat) (k : Nat) : Cut := L348_254c.cut (F348_254c N k)
theorem C348_254c_ok (N : Nat) (k : Nat) : CutAt Tryz.prog false Tryz.f348 [0] 254 (C348_254c N k) :=
  L348_254c.loopT ownT mix (tab348_ok N) Tryz.f348 [0] (cuts := [(254, orC L348_254.s.I (C348_254 N N) (C348_254b N N))]) ⟨fun c' h => orC_ok (C348_254_ok N N c' h) (C348_254b_ok N N c' h) rfl rfl, trivial⟩ (by decide +kernel) (by kernel_rfl) (B348_254c N) (F348_254c N) (fun _ => rfl) (fun _ _ => rfl) (fun f x => by kernel_rfl) k
@[reducible] def L348_254d : LD := ⟨254, [14, 10, 0, 12, 3, 15], [(.ret, [8, 9]), (.exit 0, [8, 9])], ⟨[.sl 1, .adr 2 [], .adr 0 [], .adr 3 [], .int .i64, .int .i64], [.var 345 (.agg [.str, .int .i64, .int .i64]), .row y3 281, .var 397 (.agg [.arr (.int .i64) 16, .sl 4, .int .i64]), .var 397 (.agg [.arr (.int .i64) 16, .sl 5, .int .i64]), .row (.int .i64) 3, .row (.int .i64) 3]⟩, [(.ret, ⟨[.sl 1, .int .i64], [.var 345 (.agg [.str, .int .i64, .int .i64]), .row y3 281]⟩)]⟩
abbrev P348_254d : Type := Int × Int × ByteArray × Int × Int × (List (Int × (Int × (Int × Unit)))) × (List Int) × Int × (List Int) × Int × (List Int) × (List Int)
abbrev R348_254d : Type := Int × ByteArray × Int × Int × (List (Int × (Int × (Int × Unit))))
noncomputable def B348_254d (N : Nat) (f : P348_254d → Option R348_254d) : P348_254d → Option R348_254d
  | (x0, x1, x2, x3, x4, x5, x6, x7, x8, x9, x10, x11) =>
  Option.bind (F366a N (x6, x7, x2, x3, x4, x10)) fun (y0_0, y0_1, y0_2, y0_3, y0_4, y0_5, y0_6, y0_7) =>
  iteP (y0_1 != (0 : Int)) (
    some ((y0_1, y0_4, y0_5, y0_6, []))) (
    iteP (y0_0 == (256 : Int)) (
      some (((0 : Int), y0_4, y0_5, y0_6, x5))) (
      iteP (decide (y0_0 > (256 : Int))) (
        Option.bind (F369a N (y0_0, y0_4, y0_5, y0_6, x8, x9, x11)) fun (y1_0, y1_1, y1_2, y1_3, y1_4, y1_5, y1_6, y1_7, y1_8, y1_9) =>
        iteP (y1_3 != (0 : Int)) (
          some ((y1_3, y1_4, y1_5, y1_6, []))) (
          iteP (decide (IntKind.wrap IntKind.i64 (x1 + if (1 : Int) > y1_1 then (1 : Int) else y1_1) > x0)) (
            some (((4 : Int), y1_4, y1_5, y1_6, []))) (
            iteP (decide ((List.length x5 + List.length [(y1_0, y1_1, y1_2, ())]) * (24 : Nat) ≤ (140737488355328 : Nat) ∧ List.length x5 + List.length [(y1_0, y1_1, y1_2, ())] ≤ (140737488355328 : Nat))) (
              Option.bind (f (x0, IntKind.wrap IntKind.i64 (x1 + if (1 : Int) > y1_1 then (1 : Int) else y1_1), y1_4, y1_5, y1_6, x5 ++ [(y1_0, y1_1, y1_2, ())], y0_2, y0_3, y1_7, y1_8, y0_7, y1_9)) fun r => some r) (
              none )))) (
        iteP (decide (IntKind.wrap IntKind.i64 (x1 + (1 : Int)) > x0)) (
          some (((4 : Int), y0_4, y0_5, y0_6, []))) (
          iteP (decide ((List.length x5 + List.length [(y0_0, (0 : Int), (0 : Int), ())]) * (24 : Nat) ≤ (140737488355328 : Nat) ∧ List.length x5 + List.length [(y0_0, (0 : Int), (0 : Int), ())] ≤ (140737488355328 : Nat))) (
            Option.bind (f (x0, IntKind.wrap IntKind.i64 (x1 + (1 : Int)), y0_4, y0_5, y0_6, x5 ++ [(y0_0, (0 : Int), (0 : Int), ())], y0_2, y0_3, x8, x9, y0_7, x11)) fun r => some r) (
            none )))))
noncomputable def F348_254d (N : Nat) : Nat → P348_254d → Option R348_254d
  | 0, _ => none
  | k + 1, x => B348_254d N (F348_254d N k) x
noncomputable def C348_254d (N : Nat) (k : Nat) : Cut := L348_254d.cut (F348_254d N k)
theorem C348_254d_ok (N : Nat) (k : Nat) : CutAt Tryz.prog false Tryz.f348 [0] 254 (C348_254d N k) :=
  L348_254d.loopT ownT mix (tab348_ok N) Tryz.f348 [0] (cuts := [(254, orC L348_254.s.I (C348_254 N N) (orC L348_254b.s.I (C348_254b N N) (C348_254c N N)))]) ⟨fun c' h => orC_ok (C348_254_ok N N c' h) (orC_ok (C348_254b_ok N N c' h) (C348_254c_ok N N c' h) rfl rfl) rfl rfl, trivial⟩ (by decide +kernel) (by kernel_rfl) (B348_254d N) (F348_254d N) (fun _ => rfl) (fun _ _ => rfl) (fun f x => by kernel_rfl) k
@[reducible] def w348 : List SP := [⟨[.tup [.sl 1, .int .i64]], [.var 345 (.agg [.str, .int .i64, .int .i64]), .row y3 281]⟩]
noncomputable def F348 (N : Nat) : ((List Int) × (List Int) × Int × ByteArray × Int × Int) → Option (Int × ByteArray × Int × Int × (List (Int × (Int × (Int × Unit)))))
  | (x0, x1, x2, x3, x4, x5) =>
  Option.bind (F368 N x0) fun y0 =>
  match y0 with
  | .inl y1 =>
    Option.bind (F368 N x1) fun y2 =>
    match y2 with
    | .inl y3 =>
      iteP (y1 != (0 : Int)) (
        some (((50 : Int), x3, x4, x5, []))) (
        iteP (y3 != (0 : Int)) (
          some (((50 : Int), x3, x4, x5, []))) (
          Option.bind (F348_254 N N (x2, (0 : Int), x3, x4, x5, [])) fun y4 =>
          none))
    | .inr y3 =>
      iteP (y1 != (0 : Int)) (
        some (((50 : Int), x3, x4, x5, []))) (
        iteP (y3.1 != (0 : Int)) (
          some (((50 : Int), x3, x4, x5, []))) (
          Option.bind (F348_254b N N (x2, (0 : Int), x3, x4, x5, [], y3.2.1, y3.2.2.1, y3.2.2.2)) fun y5 =>
          none))
  | .inr y1 =>
    Option.bind (F368 N x1) fun y6 =>
    match y6 with
    | .inl y7 =>
      iteP (y1.1 != (0 : Int)) (
        some (((50 : Int), x3, x4, x5, []))) (
        iteP (y7 != (0 : Int)) (
          some (((50 : Int), x3, x4, x5, []))) (
          Option.bind (F348_254c N N (x2, (0 : Int), x3, x4, x5, [], y1.2.1, y1.2.2.1, y1.2.2.2)) fun y8 =>
          some ((y8.1, y8.2.1, y8.2.2.1, y8.2.2.2.1, y8.2.2.2.2))))
    | .inr y7 =>
      iteP (y1.1 != (0 : Int)) (
        some (((50 : Int), x3, x4, x5, []))) (
        iteP (y7.1 != (0 : Int)) (
          some (((50 : Int), x3, x4, x5, []))) (
          Option.bind (F348_254d N N (x2, (0 : Int), x3, x4, x5, [], y1.2.1, y1.2.2.1, y7.2.1, y7.2.2.1, y1.2.2.2, y7.2.2.2)) fun y9 =>
          some ((y9.1, y9.2.1, y9.2.2.1, y9.2.2.2.1, y9.2.2.2.2))))
noncomputable def T348 (N : Nat) : Pk → Tr Pk := tellS s348 w348 (F348 N)
theorem T348_ok (N : Nat) : FOK Tryz.prog (348) (T348 N) :=
  (fn_ok2 ownT mix (tab348_ok N) Tryz.func348 s348 w348 [0] (cuts := [(254, orC L348_254.s.I (C348_254 N N) (orC L348_254b.s.I (C348_254b N N) (orC L348_254c.s.I (C348_254c N N) (C348_254d N N))))]) ⟨fun c' h => orC_ok (C348_254_ok N N c' h) (orC_ok (C348_254b_ok N N c' h) (orC_ok (C348_254c_ok N N c' h) (C348_254d_ok N N c' h) rfl rfl) rfl rfl) rfl rfl, trivial⟩ (fun _ => by kernel_rfl) (by decide +kernel) (F348 N) (fun x => by kernel_rfl))
@[reducible] def s350 : SP := ⟨[.str, .ro y3], []⟩
noncomputable def tab350 (N : Nat) : List (Nat × (Pk → Tr Pk)) := [(229, T229 N), (335, T335 N)]
theorem tab350_ok (N : Nat) : TabOK Tryz.prog (tab350 N) := ⟨T229_ok N, T335_ok N, trivial⟩
@[reducible] def L350_62670 : LD := ⟨62670, [6, 43, 42, 15, 7, 16, 17, 9], [(.ret, [4, 5]), (.exit 3, [17, 16, 7, 15, 6]), (.exit 1, [17, 16, 7, 15, 6]), (.exit 0, [6, 7])], ⟨[.sl 0, .int .i64, .int .i64, .ro y3, .int .i64, .int .i64, .int .i64, .adr 1 []], [.row (.int .u8) 5, .var 281 (.agg [.int .i64, .int .i64, .int .i64])]⟩, [(.exit 3, ⟨[.int .i64, .int .i64, .int .i64, .ro y3, .sl 0], [.row (.int .u8) 5]⟩)]⟩
abbrev P350_62670 : Type := Int × Int × (List (Int × (Int × (Int × Unit)))) × Int × Int × Int × (List Int) × Int × Int × Int
abbrev R350_62670 : Type := Int × Int × Int × (List (Int × (Int × (Int × Unit)))) × (List Int)
noncomputable def B350_62670 (N : Nat) (f : P350_62670 → Option R350_62670) : P350_62670 → Option R350_62670
  | (x0, x1, x2, x3, x4, x5, x6, x7, x8, x9) =>
  iteP (decide (x0 < x1)) (
    iteP (within (IntKind.wrap IntKind.i64 ((↑(List.length x6) : Int) - x9)) (List.length x6)) (
      Option.bind (x6[Int.toNat (IntKind.wrap IntKind.i64 ((↑(List.length x6) : Int) - x9))]?) fun y0 =>
      iteP (decide ((List.length x6 + List.length [y0]) * (1 : Nat) ≤ (140737488355328 : Nat) ∧ List.length x6 + List.length [y0] ≤ (140737488355328 : Nat))) (
        Option.bind (f (IntKind.wrap IntKind.i64 (x0 + (1 : Int)), x1, x2, x3, x4, x5, x6 ++ [y0], x7, x8, x9)) fun r => some r) (
        none )) (
      none )) (
    some ((x5, x4, x3, x2, x6)))
noncomputable def F350_62670 (N : Nat) : Nat → P350_62670 → Option R350_62670
  | 0, _ => none
  | k + 1, x => B350_62670 N (F350_62670 N k) x
noncomputable def C350_62670 (N : Nat) (k : Nat) : Cut := L350_62670.cut (F350_62670 N k)
theorem C350_62670_ok (N : Nat) (k : Nat) : CutAt Tryz.prog false Tryz.f350 [] 62670 (C350_62670 N k) :=
  L350_62670.loopT ownT mix (tab350_ok N) Tryz.f350 [] (cuts := []) trivial (by decide +kernel) (by kernel_rfl) (B350_62670 N) (F350_62670 N) (fun _ => rfl) (fun _ _ => rfl) (fun f x => by kernel_rfl) k
@[reducible] def L350_122 : LD := ⟨122, [17, 16, 7, 15, 6], [(.ret, [4, 5]), (.exit 0, [6, 7])], ⟨[.int .i64, .int .i64, .int .i64, .ro y3, .sl 0], [.row (.int .u8) 5]⟩, [(.ret, ⟨[.str, .int .i64], []⟩), (.exit 0, ⟨[.sl 0, .int .i64], [.row (.int .u8) 5]⟩)]⟩
abbrev P350_122 : Type := Int × Int × Int × (List (Int × (Int × (Int × Unit)))) × (List Int)
abbrev R350_122 : Type := ((ByteArray × Int) ⊕ (Int × (List Int)))
noncomputable def B350_122 (N : Nat) (f : P350_122 → Option R350_122) : P350_122 → Option R350_122
  | (x0, x1, x2, x3, x4) =>
  iteP (decide (x0 < x1)) (
    iteP (within x0 (List.length x3)) (
      Option.bind (x3[Int.toNat x0]?) fun y0 =>
      Option.bind (F335 N (y0.1, y0.2.1, y0.2.2.1)) fun y1 =>
      iteP (!y1) (
        some (.inl ((ByteArray.mk #[], (1 : Int))))) (
        iteP (y0.2.1 == (0 : Int)) (
          iteP (decide ((List.length x4 + List.length [IntKind.wrap IntKind.u8 y0.1]) * (1 : Nat) ≤ (140737488355328 : Nat) ∧ List.length x4 + List.length [IntKind.wrap IntKind.u8 y0.1] ≤ (140737488355328 : Nat))) (
            Option.bind (F350_62670 N N ((0 : Int), y0.2.1, x3, x2, x1, x0, x4 ++ [IntKind.wrap IntKind.u8 y0.1], y0.1, y0.2.1, y0.2.2.1)) fun y2 =>
            Option.bind (f (IntKind.wrap IntKind.i64 (y2.1 + (1 : Int)), y2.2.1, y2.2.2.1, y2.2.2.2.1, y2.2.2.2.2)) fun r => match r with | .inl y => some (.inl y) | .inr y => some (.inr y)) (
            none )) (
          iteP (decide (y0.2.2.1 > (↑(List.length x4) : Int))) (
            some (.inl ((ByteArray.mk #[], (60 : Int))))) (
            Option.bind (F350_62670 N N ((0 : Int), y0.2.1, x3, x2, x1, x0, x4, y0.1, y0.2.1, y0.2.2.1)) fun y3 =>
            Option.bind (f (IntKind.wrap IntKind.i64 (y3.1 + (1 : Int)), y3.2.1, y3.2.2.1, y3.2.2.2.1, y3.2.2.2.2)) fun r => match r with | .inl y => some (.inl y) | .inr y => some (.inr y))))) (
      none )) (
    some (.inr ((x2, x4))))
noncomputable def F350_122 (N : Nat) : Nat → P350_122 → Option R350_122
  | 0, _ => none
  | k + 1, x => B350_122 N (F350_122 N k) x
noncomputable def C350_122 (N : Nat) (k : Nat) : Cut := L350_122.cut (F350_122 N k)
theorem C350_122_ok (N : Nat) (k : Nat) : CutAt Tryz.prog false Tryz.f350 [] 122 (C350_122 N k) :=
  L350_122.loopT ownT mix (tab350_ok N) Tryz.f350 [] (cuts := [(62670, C350_62670 N N)]) ⟨C350_62670_ok N N, trivial⟩ (by decide +kernel) (by kernel_rfl) (B350_122 N) (F350_122 N) (fun _ => rfl) (fun _ _ => rfl) (fun f x => by kernel_rfl) k
@[reducible] def w350 : List SP := [⟨[.tup [.str, .int .i64]], []⟩]
noncomputable def F350 (N : Nat) : (ByteArray × (List (Int × (Int × (Int × Unit))))) → Option (ByteArray × Int)
  | (x0, x1) =>
  Option.bind (F229 N x0) fun y0 =>
  iteP (decide (ByteArray.size y0 ≤ (140737488355328 : Nat))) (
    Option.bind (F350_122 N N ((0 : Int), (↑(List.length x1) : Int), (↑(List.length (bytesOf y0)) : Int), x1, bytesOf y0)) fun y1 =>
    match y1 with
    | .inl y2 =>
      some ((y2.1, y2.2))
    | .inr y2 =>
      iteP (decide ((0 : Int) ≤ y2.1 ∧ y2.1 ≤ (↑(List.length y2.2) : Int))) (
        some ((stringOf (List.take (List.length y2.2 - Int.toNat y2.1) (List.drop (Int.toNat y2.1) y2.2)), (0 : Int)))) (
        none )) (
    none )
noncomputable def T350 (N : Nat) : Pk → Tr Pk := tellS s350 w350 (F350 N)
theorem T350_ok (N : Nat) : FOK Tryz.prog (350) (T350 N) :=
  (fn_ok2 ownT mix (tab350_ok N) Tryz.func350 s350 w350 [] (cuts := [(62670, C350_62670 N N), (122, C350_122 N N)]) ⟨C350_62670_ok N N, C350_122_ok N N, trivial⟩ (fun _ => by kernel_rfl) (by decide +kernel) (F350 N) (fun x => by kernel_rfl))
@[reducible] def s332 : SP := ⟨[.adr 0 [], .int .i64, .str, .int .i64], [.var 345 (.agg [.str, .int .i64, .int .i64])]⟩
noncomputable def tab332 (N : Nat) : List (Nat × (Pk → Tr Pk)) := [(336, T336 N), (347, T347 N), (348, T348 N), (349, T349 N), (350, T350 N)]
theorem tab332_ok (N : Nat) : TabOK Tryz.prog (tab332 N) := ⟨T336_ok N, T347_ok N, T348_ok N, T349_ok N, T350_ok N, trivial⟩
@[reducible] def w332 : List SP := [⟨[.tup [.str, .int .i64]], [.var 345 (.agg [.str, .int .i64, .int .i64])]⟩]
noncomputable def F332 (N : Nat) : (Int × ByteArray × Int × ByteArray × Int × Int) → Option (ByteArray × Int × ByteArray × Int × Int)
  | (x0, x1, x2, x3, x4, x5) =>
  Option.bind (F336 N ()) fun y0 =>
  iteP (x0 == (2 : Int)) (
    Option.bind (F347 N (x3, x4, x5)) fun y1 =>
    match y1 with
    | .inl (y2_0, y2_1, y2_2, y2_3, y2_4, y2_5) =>
      iteP (y2_0 != (0 : Int)) (
        some ((ByteArray.mk #[], y2_0, y2_1, y2_2, y2_3))) (
        Option.bind (F348 N (y2_4, y2_5, x2, y2_1, y2_2, y2_3)) fun y3 =>
        iteP (y3.1 != (0 : Int)) (
          Option.bind (F349 N y3.1) fun y4 =>
          some ((ByteArray.mk #[], y4, y3.2.1, y3.2.2.1, y3.2.2.2.1))) (
          Option.bind (F350 N (x1, y3.2.2.2.2)) fun y5 =>
          some ((y5.1, y5.2, y3.2.1, y3.2.2.1, y3.2.2.2.1))))
    | .inr (y2_0, y2_1, y2_2, y2_3, y2_4, y2_5, y2_6, y2_7) =>
      iteP (y2_3 != (0 : Int)) (
        some ((ByteArray.mk #[], y2_3, y2_4, y2_5, y2_6))) (
        Option.bind (F348 N (List.take y2_0 y2_7, List.take y2_2 (List.drop y2_1 y2_7), x2, y2_4, y2_5, y2_6)) fun y6 =>
        iteP (y6.1 != (0 : Int)) (
          Option.bind (F349 N y6.1) fun y7 =>
          some ((ByteArray.mk #[], y7, y6.2.1, y6.2.2.1, y6.2.2.2.1))) (
          Option.bind (F350 N (x1, y6.2.2.2.2)) fun y8 =>
          some ((y8.1, y8.2, y6.2.1, y6.2.2.1, y6.2.2.2.1))))) (
    Option.bind (F348 N (y0.1, y0.2, x2, x3, x4, x5)) fun y9 =>
    iteP (y9.1 != (0 : Int)) (
      Option.bind (F349 N y9.1) fun y10 =>
      some ((ByteArray.mk #[], y10, y9.2.1, y9.2.2.1, y9.2.2.2.1))) (
      Option.bind (F350 N (x1, y9.2.2.2.2)) fun y11 =>
      some ((y11.1, y11.2, y9.2.1, y9.2.2.1, y9.2.2.2.1))))
noncomputable def T332 (N : Nat) : Pk → Tr Pk := tellS s332 w332 (F332 N)
theorem T332_ok (N : Nat) : FOK Tryz.prog (332) (T332 N) :=
  (fn_ok2 ownT mix (tab332_ok N) Tryz.func332 s332 w332 [0] (cuts := []) trivial (fun _ => by kernel_rfl) (by decide +kernel) (F332 N) (fun x => by kernel_rfl))
@[reducible] def s306 : SP := ⟨[.adr 0 [], .str, .int .i64], [.var 345 (.agg [.str, .int .i64, .int .i64])]⟩
noncomputable def tab306 (N : Nat) : List (Nat × (Pk → Tr Pk)) := [(329, T329 N), (330, T330 N), (331, T331 N), (332, T332 N)]
theorem tab306_ok (N : Nat) : TabOK Tryz.prog (tab306 N) := ⟨T329_ok N, T330_ok N, T331_ok N, T332_ok N, trivial⟩
@[reducible] def w306 : List SP := [⟨[.tup [.str, .bool, .int .i64, .int .i64]], [.var 345 (.agg [.str, .int .i64, .int .i64])]⟩]
noncomputable def F306 (N : Nat) : (ByteArray × Int × ByteArray × Int × Int) → Option (ByteArray × Bool × Int × Int × ByteArray × Int × Int)
  | (x0, x1, x2, x3, x4) =>
  Option.bind (F329 N ((1 : Int), x2, x3, x4)) fun y0 =>
  Option.bind (F329 N ((2 : Int), y0.2.1, y0.2.2.1, y0.2.2.2)) fun y1 =>
  Option.bind (F330 N (y1.2.1, y1.2.2.1, y1.2.2.2, ())) fun y2 =>
  iteP (y2 != (0 : Int)) (
    some ((ByteArray.mk #[], false, (0 : Int), y2, y1.2.1, y1.2.2.1, y1.2.2.2))) (
    iteP (y1.1 == (0 : Int)) (
      Option.bind (F331 N (x1, y1.2.1, y1.2.2.1, y1.2.2.2)) fun y3 =>
      iteP (y3.2.1 != (0 : Int)) (
        some ((ByteArray.mk #[], false, (0 : Int), y3.2.1, y3.2.2.1, y3.2.2.2.1, y3.2.2.2.2))) (
        some ((y3.1, y0.1 == (1 : Int), y1.1, (0 : Int), y3.2.2.1, y3.2.2.2.1, y3.2.2.2.2)))) (
      iteP (y1.1 == (1 : Int)) (
        Option.bind (F332 N (y1.1, x0, x1, y1.2.1, y1.2.2.1, y1.2.2.2)) fun y4 =>
        iteP (y4.2.1 != (0 : Int)) (
          some ((ByteArray.mk #[], false, (0 : Int), y4.2.1, y4.2.2.1, y4.2.2.2.1, y4.2.2.2.2))) (
          some ((y4.1, y0.1 == (1 : Int), y1.1, (0 : Int), y4.2.2.1, y4.2.2.2.1, y4.2.2.2.2)))) (
        iteP (y1.1 == (2 : Int)) (
          Option.bind (F332 N (y1.1, x0, x1, y1.2.1, y1.2.2.1, y1.2.2.2)) fun y5 =>
          iteP (y5.2.1 != (0 : Int)) (
            some ((ByteArray.mk #[], false, (0 : Int), y5.2.1, y5.2.2.1, y5.2.2.2.1, y5.2.2.2.2))) (
            some ((y5.1, y0.1 == (1 : Int), y1.1, (0 : Int), y5.2.2.1, y5.2.2.2.1, y5.2.2.2.2)))) (
          some ((ByteArray.mk #[], false, (0 : Int), (80 : Int), y1.2.1, y1.2.2.1, y1.2.2.2))))))
noncomputable def T306 (N : Nat) : Pk → Tr Pk := tellS s306 w306 (F306 N)
theorem T306_ok (N : Nat) : FOK Tryz.prog (306) (T306 N) :=
  (fn_ok2 ownT mix (tab306_ok N) Tryz.func306 s306 w306 [0] (cuts := []) trivial (fun _ => by kernel_rfl) (by decide +kernel) (F306 N) (fun x => by kernel_rfl))
@[reducible] def s263 : SP := ⟨[.str, .str, .int .i64], []⟩
noncomputable def tab263 (N : Nat) : List (Nat × (Pk → Tr Pk)) := [(283, T283 N), (305, T305 N), (229, T229 N), (306, T306 N)]
theorem tab263_ok (N : Nat) : TabOK Tryz.prog (tab263 N) := ⟨T283_ok N, T305_ok N, T229_ok N, T306_ok N, trivial⟩
@[reducible] def L263_124 : LD := ⟨124, [10, 9, 8, 0, 2], [(.ret, [6, 7]), (.exit 0, [10, 9])], ⟨[.bool, .str, .adr 0 [], .str, .int .i64], [.var 345 (.agg [.str, .int .i64, .int .i64])]⟩, [(.ret, ⟨[.str, .int .i64], []⟩), (.exit 0, ⟨[.bool, .str], []⟩)]⟩
abbrev P263_124 : Type := Bool × ByteArray × ByteArray × Int × ByteArray × Int × Int
abbrev R263_124 : Type := ((ByteArray × Int) ⊕ (Bool × ByteArray))
noncomputable def B263_124 (N : Nat) (f : P263_124 → Option R263_124) : P263_124 → Option R263_124
  | (x0, x1, x2, x3, x4, x5, x6) =>
  Option.bind (F305 N (x4, x5, x6, ())) fun y0 =>
  iteP (decide (y0 > (0 : Int))) (
    iteP (decide ((↑(ByteArray.size x2 + ByteArray.size x1) : Int) > (9223372036854775807 : Int))) (
      none ) (
      Option.bind (F229 N (x2 ++ x1)) fun y1 =>
      Option.bind (F306 N (y1, IntKind.wrap IntKind.i64 (x3 - (↑(ByteArray.size x1) : Int)), x4, x5, x6)) fun (y2_0, y2_1, y2_2, y2_3, y2_4, y2_5, y2_6) =>
      iteP (y2_3 != (0 : Int)) (
        some (.inl ((ByteArray.mk #[], y2_3)))) (
        iteP (y2_1) (
          some (.inl ((ByteArray.mk #[], (81 : Int))))) (
          iteP (decide ((↑(ByteArray.size x1 + ByteArray.size y2_0) : Int) > (9223372036854775807 : Int))) (
            none ) (
            iteP (y2_2 == (0 : Int)) (
              Option.bind (f (ByteArray.toList y2_0 == [], x1 ++ y2_0, x2, x3, y2_4, y2_5, y2_6)) fun r => match r with | .inl y => some (.inl y) | .inr y => some (.inr y)) (
              Option.bind (f (false, x1 ++ y2_0, x2, x3, y2_4, y2_5, y2_6)) fun r => match r with | .inl y => some (.inl y) | .inr y => some (.inr y))))))) (
    some (.inr ((x0, x1))))
noncomputable def F263_124 (N : Nat) : Nat → P263_124 → Option R263_124
  | 0, _ => none
  | k + 1, x => B263_124 N (F263_124 N k) x
noncomputable def C263_124 (N : Nat) (k : Nat) : Cut := L263_124.cut (F263_124 N k)
theorem C263_124_ok (N : Nat) (k : Nat) : CutAt Tryz.prog false Tryz.f263 [] 124 (C263_124 N k) :=
  L263_124.loopT ownT mix (tab263_ok N) Tryz.f263 [] (cuts := []) trivial (by decide +kernel) (by kernel_rfl) (B263_124 N) (F263_124 N) (fun _ => rfl) (fun _ _ => rfl) (fun f x => by kernel_rfl) k
@[reducible] def w263 : List SP := [⟨[.tup [.str, .int .i64]], []⟩]
noncomputable def F263 (N : Nat) : (ByteArray × ByteArray × Int) → Option (ByteArray × Int)
  | (x0, x1, x2) =>
  Option.bind (F283 N x1) fun y0 =>
  Option.bind (F263_124 N N (false, ByteArray.mk #[], x0, x2, y0.1, y0.2.1, y0.2.2)) fun y1 =>
  match y1 with
  | .inl y2 =>
    some ((y2.1, y2.2))
  | .inr y2 =>
    iteP (!y2.1) (
      some ((ByteArray.mk #[], (81 : Int)))) (
      some ((y2.2, (0 : Int))))
noncomputable def T263 (N : Nat) : Pk → Tr Pk := tellS s263 w263 (F263 N)
theorem T263_ok (N : Nat) : FOK Tryz.prog (263) (T263 N) :=
  (fn_ok2 ownT mix (tab263_ok N) Tryz.func263 s263 w263 [] (cuts := [(124, C263_124 N N)]) ⟨C263_124_ok N N, trivial⟩ (fun _ => by kernel_rfl) (by decide +kernel) (F263 N) (fun x => by kernel_rfl))
@[reducible] def s207 : SP := ⟨[.adr 0 [.f 0 0, .f 0 0], .str, .int .i64], [.var 162 (.agg [.agg [.agg [.agg [.bool, .str], .int .i64]]])]⟩
noncomputable def tab207 (N : Nat) : List (Nat × (Pk → Tr Pk)) := [(246, T246 N), (263, T263 N)]
theorem tab207_ok (N : Nat) : TabOK Tryz.prog (tab207 N) := ⟨T246_ok N, T263_ok N, trivial⟩
@[reducible] def w207 : List SP := [⟨[.tup [.str, .int .i64]], [.var 162 (.agg [.agg [.agg [.agg [.bool, .str], .int .i64]]])]⟩]
noncomputable def F207 (N : Nat) : (ByteArray × Int × Bool × ByteArray × Int) → Option (ByteArray × Int × Bool × ByteArray × Int)
  | (x0, x1, x2, x3, x4) =>
  iteP (!x2) (
    Option.bind (F246 N x0) fun y0 =>
    iteP (y0 != (0 : Int)) (
      some ((ByteArray.mk #[], y0, x2, x3, x4))) (
      iteP (decide ((0 : Int) ≤ (2 : Int) ∧ (2 : Int) ≤ (↑(ByteArray.size x0) : Int))) (
        Option.bind (F263 N (x3, ByteArray.extract x0 (2 : Nat) (ByteArray.size x0), x1)) fun y1 =>
        some ((y1.1, y1.2, x2, x3, x4))) (
        none ))) (
    Option.bind (F263 N (x3, x0, x1)) fun y2 =>
    some ((y2.1, y2.2, x2, x3, x4)))
noncomputable def T207 (N : Nat) : Pk → Tr Pk := tellS s207 w207 (F207 N)
theorem T207_ok (N : Nat) : FOK Tryz.prog (207) (T207 N) :=
  (fn_ok2 ownT mix (tab207_ok N) Tryz.func207 s207 w207 [0] (cuts := []) trivial (fun _ => by kernel_rfl) (by decide +kernel) (F207 N) (fun x => by kernel_rfl))
@[reducible] def s163a : SP := ⟨[.adr 0 [.f 0 0, .f 0 0, .f 0 0], .str], [.var 162 (.agg [.agg [.agg [.agg [.bool, .str], .int .i64]]])]⟩
noncomputable def tab163a (N : Nat) : List (Nat × (Pk → Tr Pk)) := [(229, T229 N)]
theorem tab163a_ok (N : Nat) : TabOK Tryz.prog (tab163a N) := ⟨T229_ok N, trivial⟩
@[reducible] def w163a : List SP := [⟨[.tup []], [.var 162 (.agg [.agg [.agg [.agg [.bool, .str], .int .i64]]])]⟩]
noncomputable def F163a (N : Nat) : (ByteArray × Bool × ByteArray × Int) → Option (Bool × ByteArray × Int)
  | (x0, x1, x2, x3) =>
  iteP (decide ((↑(ByteArray.size x2 + ByteArray.size x0) : Int) > (9223372036854775807 : Int))) (
    none ) (
    Option.bind (F229 N (x2 ++ x0)) fun y0 =>
    some ((true, y0, x3)))
noncomputable def T163a (N : Nat) : Pk → Tr Pk := tellS s163a w163a (F163a N)
theorem T163a_ok (N : Nat) : FOK Tryz.prog (163) (T163a N) :=
  (fn_ok2 ownT mix (tab163a_ok N) Tryz.func163 s163a w163a [0] (cuts := []) trivial (fun _ => by kernel_rfl) (by decide +kernel) (F163a N) (fun x => by kernel_rfl))
@[reducible] def s136 : SP := ⟨[.adr 0 [.f 0 0, .f 0 0], .str, .int .i64], [.var 162 (.agg [.agg [.agg [.agg [.bool, .str], .int .i64]]])]⟩
noncomputable def tab136 (N : Nat) : List (Nat × (Pk → Tr Pk)) := [(207, T207 N), (163, T163a N)]
theorem tab136_ok (N : Nat) : TabOK Tryz.prog (tab136 N) := ⟨T207_ok N, T163a_ok N, trivial⟩
@[reducible] def w136 : List SP := [⟨[.tup [.str, .int .i64]], [.var 162 (.agg [.agg [.agg [.agg [.bool, .str], .int .i64]]])]⟩]
noncomputable def F136 (N : Nat) : (ByteArray × Int × Bool × ByteArray × Int) → Option (ByteArray × Int × Bool × ByteArray × Int)
  | (x0, x1, x2, x3, x4) =>
  iteP (x4 != (0 : Int)) (
    some ((ByteArray.mk #[], x4, x2, x3, x4))) (
    Option.bind (F207 N (x0, x1, x2, x3, x4)) fun y0 =>
    Option.bind (F163a N (y0.1, y0.2.2.1, y0.2.2.2.1, y0.2.1)) fun y1 =>
    some ((y0.1, y0.2.1, y1.1, y1.2.1, y1.2.2)))
noncomputable def T136 (N : Nat) : Pk → Tr Pk := tellS s136 w136 (F136 N)
theorem T136_ok (N : Nat) : FOK Tryz.prog (136) (T136 N) :=
  (fn_ok2 ownT mix (tab136_ok N) Tryz.func136 s136 w136 [0] (cuts := []) trivial (fun _ => by kernel_rfl) (by decide +kernel) (F136 N) (fun x => by kernel_rfl))
@[reducible] def s264 : SP := ⟨[.agg [.int .i64, .int .i64, .bool, .bool, .int .i64, .int .i64, .int .i64, .int .i64, .int .i64, .int .i64], .int .i64, .str], []⟩
noncomputable def tab264 (N : Nat) : List (Nat × (Pk → Tr Pk)) := [(39, T39 N)]
theorem tab264_ok (N : Nat) : TabOK Tryz.prog (tab264 N) := ⟨T39_ok N, trivial⟩
@[reducible] def L264_122 : LD := ⟨122, [8, 21, 20, 1, 3, 2], [(.ret, [6, 7]), (.exit 1, [8])], ⟨[.int .i64, .int .i64, .int .i64, .int .i64, .adr 0 [], .str], [.var 43 (.agg [.int .i64, .int .i64, .bool, .bool, .int .i64, .int .i64, .int .i64, .int .i64, .int .i64, .int .i64])]⟩, [(.exit 1, ⟨[.int .i64], []⟩)]⟩
abbrev P264_122 : Type := Int × Int × Int × Int × ByteArray × Int × Int × Bool × Bool × Int × Int × Int × Int × Int × Int
abbrev R264_122 : Type := Int
noncomputable def B264_122 (N : Nat) (f : P264_122 → Option R264_122) : P264_122 → Option R264_122
  | (x0, x1, x2, x3, x4, x5, x6, x7, x8, x9, x10, x11, x12, x13, x14) =>
  iteP (decide (x1 < x2)) (
    iteP (x7) (
      iteP (decide ((0 : Int) ≤ x1)) (
        Option.bind (x4[Int.toNat x1]?) fun y0 =>
        Option.bind (f (IntKind.wrap IntKind.i64 (↑(BitVec.toNat (BitVec.ofInt (64 : Nat) (IntKind.wrap IntKind.i64 (x0 * (256 : Int))) ||| BitVec.ofInt (64 : Nat) (IntKind.wrap IntKind.i64 (↑(UInt8.toNat y0) : Int)))) : Int), IntKind.wrap IntKind.i64 (x1 + (1 : Int)), x2, x3, x4, x5, x6, x7, x8, x9, x10, x11, x12, x13, x14)) fun r => some r) (
        none )) (
      iteP (decide ((0 : Int) ≤ IntKind.wrap IntKind.i64 (IntKind.wrap IntKind.i64 (x3 - (1 : Int)) - x1))) (
        Option.bind (x4[Int.toNat (IntKind.wrap IntKind.i64 (IntKind.wrap IntKind.i64 (x3 - (1 : Int)) - x1))]?) fun y1 =>
        Option.bind (f (IntKind.wrap IntKind.i64 (↑(BitVec.toNat (BitVec.ofInt (64 : Nat) (IntKind.wrap IntKind.i64 (x0 * (256 : Int))) ||| BitVec.ofInt (64 : Nat) (IntKind.wrap IntKind.i64 (↑(UInt8.toNat y1) : Int)))) : Int), IntKind.wrap IntKind.i64 (x1 + (1 : Int)), x2, x3, x4, x5, x6, x7, x8, x9, x10, x11, x12, x13, x14)) fun r => some r) (
        none ))) (
    some (x0))
noncomputable def F264_122 (N : Nat) : Nat → P264_122 → Option R264_122
  | 0, _ => none
  | k + 1, x => B264_122 N (F264_122 N k) x
noncomputable def C264_122 (N : Nat) (k : Nat) : Cut := L264_122.cut (F264_122 N k)
theorem C264_122_ok (N : Nat) (k : Nat) : CutAt Tryz.prog false Tryz.f264 [] 122 (C264_122 N k) :=
  L264_122.loopT ownT mix (tab264_ok N) Tryz.f264 [] (cuts := []) trivial (by decide +kernel) (by kernel_rfl) (B264_122 N) (F264_122 N) (fun _ => rfl) (fun _ _ => rfl) (fun f x => by kernel_rfl) k
@[reducible] def w264 : List SP := [⟨[.tup [.int .i64, .int .i64]], []⟩]
noncomputable def F264 (N : Nat) : (Int × Int × Bool × Bool × Int × Int × Int × Int × Int × Int × Int × ByteArray) → Option (Int × Int)
  | (x0, x1, x2, x3, x4, x5, x6, x7, x8, x9, x10, x11) =>
  Option.bind (F39 N (x0, x1, x2, x3, x4, x5, x6, x7, x8, x9)) fun y0 =>
  iteP (!y0) (
    some (((0 : Int), (130 : Int)))) (
    iteP (decide ((↑(ByteArray.size x11) : Int) < x10)) (
      some (((0 : Int), (2 : Int)))) (
      Option.bind (F264_122 N N ((0 : Int), (0 : Int), x10, x10, x11, x0, x1, x2, x3, x4, x5, x6, x7, x8, x9)) fun y1 =>
      some ((y1, (0 : Int)))))
noncomputable def T264 (N : Nat) : Pk → Tr Pk := tellS s264 w264 (F264 N)
theorem T264_ok (N : Nat) : FOK Tryz.prog (264) (T264 N) :=
  (fn_ok2 ownT mix (tab264_ok N) Tryz.func264 s264 w264 [] (cuts := [(122, C264_122 N N)]) ⟨C264_122_ok N N, trivial⟩ (fun _ => by kernel_rfl) (by decide +kernel) (F264 N) (fun x => by kernel_rfl))
@[reducible] def s210 : SP := ⟨[.agg [.int .i64, .int .i64, .bool, .bool, .int .i64, .int .i64, .int .i64, .int .i64, .int .i64, .int .i64], .str], []⟩
noncomputable def tab210 (N : Nat) : List (Nat × (Pk → Tr Pk)) := [(37, T37 N), (264, T264 N)]
theorem tab210_ok (N : Nat) : TabOK Tryz.prog (tab210 N) := ⟨T37_ok N, T264_ok N, trivial⟩
@[reducible] def w210 : List SP := [⟨[.tup [.int .i64, .int .i64]], []⟩]
noncomputable def F210 (N : Nat) : (Int × Int × Bool × Bool × Int × Int × Int × Int × Int × Int × ByteArray) → Option (Int × Int)
  | (x0, x1, x2, x3, x4, x5, x6, x7, x8, x9, x10) =>
  Option.bind (F37 N (x0, x1, x2, x3, x4, x5, x6, x7, x8, x9)) fun y0 =>
  Option.bind (F264 N (x0, x1, x2, x3, x4, x5, x6, x7, x8, x9, y0.1, x10)) fun y1 =>
  iteP (decide (y0.2 < (0 : Int))) (
    none ) (
    some ((IntKind.wrap IntKind.i64 (y1.1 * (2 : Int) ^ min (Int.toNat y0.2) (64 : Nat)), y1.2)))
noncomputable def T210 (N : Nat) : Pk → Tr Pk := tellS s210 w210 (F210 N)
theorem T210_ok (N : Nat) : FOK Tryz.prog (210) (T210 N) :=
  (fn_ok2 ownT mix (tab210_ok N) Tryz.func210 s210 w210 [] (cuts := []) trivial (fun _ => by kernel_rfl) (by decide +kernel) (F210 N) (fun x => by kernel_rfl))
@[reducible] def s142 : SP := ⟨[.agg [.adr 0 [], .agg [.int .i64, .int .i64, .bool, .bool, .int .i64, .int .i64, .int .i64, .int .i64, .int .i64, .int .i64], .int .i64]], [.var 189 (.agg [.str, .int .i64, .int .i64])]⟩
noncomputable def tab142 (N : Nat) : List (Nat × (Pk → Tr Pk)) := [(135, T135 N), (210, T210 N)]
theorem tab142_ok (N : Nat) : TabOK Tryz.prog (tab142 N) := ⟨T135_ok N, T210_ok N, trivial⟩
@[reducible] def w142 : List SP := [⟨[.int .i64], [.var 189 (.agg [.str, .int .i64, .int .i64])]⟩]
noncomputable def F142 (N : Nat) : (Int × Int × Bool × Bool × Int × Int × Int × Int × Int × Int × Int × ByteArray × Int × Int) → Option (Int × ByteArray × Int × Int)
  | (x0, x1, x2, x3, x4, x5, x6, x7, x8, x9, x10, x11, x12, x13) =>
  Option.bind (F135 N (x10, x11, x12, x13)) fun y0 =>
  Option.bind (F210 N (x0, x1, x2, x3, x4, x5, x6, x7, x8, x9, y0.1)) fun y1 =>
  some ((y1.1, y0.2.1, y0.2.2.1, y0.2.2.2))
noncomputable def T142 (N : Nat) : Pk → Tr Pk := tellS s142 w142 (F142 N)
theorem T142_ok (N : Nat) : FOK Tryz.prog (142) (T142 N) :=
  (fn_ok2 ownT mix (tab142_ok N) Tryz.func142 s142 w142 [0] (cuts := []) trivial (fun _ => by kernel_rfl) (by decide +kernel) (F142 N) (fun x => by kernel_rfl))
@[reducible] def s141 : SP := ⟨[.agg [.adr 0 [], .agg [.int .i64, .int .i64, .bool, .bool, .int .i64, .int .i64, .int .i64, .int .i64, .int .i64, .int .i64], .int .i64], .int .i64], [.var 189 (.agg [.str, .int .i64, .int .i64])]⟩
noncomputable def tab141 (N : Nat) : List (Nat × (Pk → Tr Pk)) := [(142, T142 N)]
theorem tab141_ok (N : Nat) : TabOK Tryz.prog (tab141 N) := ⟨T142_ok N, trivial⟩
@[reducible] def L141_58 : LD := ⟨58, [5, 7, 6, 2], [(.ret, [4]), (.exit 0, [5])], ⟨[.sl 1, .int .i64, .int .i64, .adr 2 []], [.var 189 (.agg [.str, .int .i64, .int .i64]), .row (.int .i64) 3, .var 124 (.agg [.adr 0 [], .agg [.int .i64, .int .i64, .bool, .bool, .int .i64, .int .i64, .int .i64, .int .i64, .int .i64, .int .i64], .int .i64])]⟩, [(.exit 0, ⟨[.sl 1], [.var 189 (.agg [.str, .int .i64, .int .i64]), .row (.int .i64) 3]⟩)]⟩
abbrev P141_58 : Type := Int × Int × ByteArray × Int × Int × (List Int) × Int × Int × Bool × Bool × Int × Int × Int × Int × Int × Int × Int
abbrev R141_58 : Type := ByteArray × Int × Int × (List Int)
noncomputable def B141_58 (N : Nat) (f : P141_58 → Option R141_58) : P141_58 → Option R141_58
  | (x0, x1, x2, x3, x4, x5, x6, x7, x8, x9, x10, x11, x12, x13, x14, x15, x16) =>
  iteP (decide (x0 < x1)) (
    Option.bind (F142 N (x6, x7, x8, x9, x10, x11, x12, x13, x14, x15, x16, x2, x3, x4)) fun y0 =>
    iteP (decide ((List.length x5 + List.length [y0.1]) * (8 : Nat) ≤ (140737488355328 : Nat) ∧ List.length x5 + List.length [y0.1] ≤ (140737488355328 : Nat))) (
      Option.bind (f (IntKind.wrap IntKind.i64 (x0 + (1 : Int)), x1, y0.2.1, y0.2.2.1, y0.2.2.2, x5 ++ [y0.1], x6, x7, x8, x9, x10, x11, x12, x13, x14, x15, x16)) fun r => some r) (
      none )) (
    some ((x2, x3, x4, x5)))
noncomputable def F141_58 (N : Nat) : Nat → P141_58 → Option R141_58
  | 0, _ => none
  | k + 1, x => B141_58 N (F141_58 N k) x
noncomputable def C141_58 (N : Nat) (k : Nat) : Cut := L141_58.cut (F141_58 N k)
theorem C141_58_ok (N : Nat) (k : Nat) : CutAt Tryz.prog false Tryz.f141 [0] 58 (C141_58 N k) :=
  L141_58.loopT ownT mix (tab141_ok N) Tryz.f141 [0] (cuts := []) trivial (by decide +kernel) (by kernel_rfl) (B141_58 N) (F141_58 N) (fun _ => rfl) (fun _ _ => rfl) (fun f x => by kernel_rfl) k
@[reducible] def w141 : List SP := [⟨[.sl 1], [.var 189 (.agg [.str, .int .i64, .int .i64]), .row (.int .i64) 3]⟩]
noncomputable def F141 (N : Nat) : (Int × Int × Bool × Bool × Int × Int × Int × Int × Int × Int × Int × Int × ByteArray × Int × Int) → Option (ByteArray × Int × Int × (List Int))
  | (x0, x1, x2, x3, x4, x5, x6, x7, x8, x9, x10, x11, x12, x13, x14) =>
  Option.bind (F141_58 N N ((0 : Int), x11, x12, x13, x14, [], x0, x1, x2, x3, x4, x5, x6, x7, x8, x9, x10)) fun y0 =>
  some ((y0.1, y0.2.1, y0.2.2.1, y0.2.2.2))
noncomputable def T141 (N : Nat) : Pk → Tr Pk := tellS s141 w141 (F141 N)
theorem T141_ok (N : Nat) : FOK Tryz.prog (141) (T141 N) :=
  (fn_ok2 ownT mix (tab141_ok N) Tryz.func141 s141 w141 [0] (cuts := [(58, C141_58 N N)]) ⟨C141_58_ok N N, trivial⟩ (fun _ => by kernel_rfl) (by decide +kernel) (F141 N) (fun x => by kernel_rfl))
@[reducible] def s143 : SP := ⟨[.agg [.adr 0 [], .agg [.int .i64, .int .i64, .bool, .bool, .int .i64, .int .i64, .int .i64, .int .i64, .int .i64, .int .i64], .int .i64], .int .i64, .int .i64, .int .i64], [.var 189 (.agg [.str, .int .i64, .int .i64])]⟩
noncomputable def tab143 (N : Nat) : List (Nat × (Pk → Tr Pk)) := [(141, T141 N), (211, T211 N), (135, T135 N), (84, T84 N)]
theorem tab143_ok (N : Nat) : TabOK Tryz.prog (tab143 N) := ⟨T141_ok N, T211_ok N, T135_ok N, T84_ok N, trivial⟩
@[reducible] def L143_128206 : LD := ⟨128206, [37, 2, 4, 22, 23, 13, 11, 1, 10, 38, 12], [(.ret, [8, 9]), (.exit 2, [23, 12, 10, 1, 11, 22, 4, 2]), (.exit 1, [23, 12, 10, 1, 11, 22, 4, 2]), (.exit 0, [12])], ⟨[.int .i64, .int .i64, .adr 1 [], .int .i64, .int .i64, .str, .int .i64, .int .i64, .sl 2, .int .i64, .sl 3], [.var 189 (.agg [.str, .int .i64, .int .i64]), .var 124 (.agg [.adr 0 [], .agg [.int .i64, .int .i64, .bool, .bool, .int .i64, .int .i64, .int .i64, .int .i64, .int .i64, .int .i64], .int .i64]), .row (.int .i64) 3, .row (.int .i64) 3]⟩, [(.ret, ⟨[.sl 1, .bool], [.var 189 (.agg [.str, .int .i64, .int .i64]), .row (.int .i64) 3]⟩), (.exit 2, ⟨[.int .i64, .sl 1, .sl 2, .int .i64, .int .i64, .int .i64, .adr 3 [], .int .i64], [.var 189 (.agg [.str, .int .i64, .int .i64]), .row (.int .i64) 3, .row (.int .i64) 3, .var 124 (.agg [.adr 0 [], .agg [.int .i64, .int .i64, .bool, .bool, .int .i64, .int .i64, .int .i64, .int .i64, .int .i64, .int .i64], .int .i64])]⟩)]⟩
abbrev P143_128206 : Type := Int × Int × Int × Int × ByteArray × Int × Int × Int × ByteArray × Int × Int × Int × Int × Bool × Bool × Int × Int × Int × Int × Int × Int × Int × (List Int) × (List Int)
abbrev R143_128206 : Type := ((Bool × ByteArray × Int × Int × (List Int)) ⊕ (Int × Int × Int × Int × Int × ByteArray × Int × Int × (List Int) × (List Int) × Int × Int × Bool × Bool × Int × Int × Int × Int × Int × Int × Int))
noncomputable def B143_128206 (N : Nat) (f : P143_128206 → Option R143_128206) : P143_128206 → Option R143_128206
  | (x0, x1, x2, x3, x4, x5, x6, x7, x8, x9, x10, x11, x12, x13, x14, x15, x16, x17, x18, x19, x20, x21, x22, x23) =>
  iteP (decide (x7 < x0)) (
    iteP (decide ((0 : Int) ≤ IntKind.wrap IntKind.i64 (Int.tdiv (IntKind.wrap IntKind.i64 (x7 * x5)) (8 : Int)))) (
      Option.bind (x4[Int.toNat (IntKind.wrap IntKind.i64 (Int.tdiv (IntKind.wrap IntKind.i64 (x7 * x5)) (8 : Int)))]?) fun y0 =>
      iteP (decide (IntKind.wrap IntKind.i64 (IntKind.wrap IntKind.i64 ((8 : Int) - x5) - Int.tmod (IntKind.wrap IntKind.i64 (x7 * x5)) (8 : Int)) < (0 : Int))) (
        none ) (
        iteP (decide (x5 < (0 : Int))) (
          none ) (
          iteP (decide (IntKind.wrap IntKind.i64 (↑(BitVec.toNat (BitVec.ofInt (64 : Nat) (Int.fdiv (IntKind.wrap IntKind.i64 (↑(UInt8.toNat y0) : Int)) ((2 : Int) ^ min (Int.toNat (IntKind.wrap IntKind.i64 (IntKind.wrap IntKind.i64 ((8 : Int) - x5) - Int.tmod (IntKind.wrap IntKind.i64 (x7 * x5)) (8 : Int)))) (64 : Nat))) &&& BitVec.ofInt (64 : Nat) (IntKind.wrap IntKind.i64 (IntKind.wrap IntKind.i64 ((1 : Int) * (2 : Int) ^ min (Int.toNat x5) (64 : Nat)) - (1 : Int))))) : Int) ≥ x6)) (
            some (.inl ((false, x8, x9, x10, [])))) (
            iteP (within (IntKind.wrap IntKind.i64 (↑(BitVec.toNat (BitVec.ofInt (64 : Nat) (Int.fdiv (IntKind.wrap IntKind.i64 (↑(UInt8.toNat y0) : Int)) ((2 : Int) ^ min (Int.toNat (IntKind.wrap IntKind.i64 (IntKind.wrap IntKind.i64 ((8 : Int) - x5) - Int.tmod (IntKind.wrap IntKind.i64 (x7 * x5)) (8 : Int)))) (64 : Nat))) &&& BitVec.ofInt (64 : Nat) (IntKind.wrap IntKind.i64 (IntKind.wrap IntKind.i64 ((1 : Int) * (2 : Int) ^ min (Int.toNat x5) (64 : Nat)) - (1 : Int))))) : Int)) (List.length x22)) (
              Option.bind (x22[Int.toNat (IntKind.wrap IntKind.i64 (↑(BitVec.toNat (BitVec.ofInt (64 : Nat) (Int.fdiv (IntKind.wrap IntKind.i64 (↑(UInt8.toNat y0) : Int)) ((2 : Int) ^ min (Int.toNat (IntKind.wrap IntKind.i64 (IntKind.wrap IntKind.i64 ((8 : Int) - x5) - Int.tmod (IntKind.wrap IntKind.i64 (x7 * x5)) (8 : Int)))) (64 : Nat))) &&& BitVec.ofInt (64 : Nat) (IntKind.wrap IntKind.i64 (IntKind.wrap IntKind.i64 ((1 : Int) * (2 : Int) ^ min (Int.toNat x5) (64 : Nat)) - (1 : Int))))) : Int))]?) fun y1 =>
              iteP (decide ((List.length x23 + List.length [y1]) * (8 : Nat) ≤ (140737488355328 : Nat) ∧ List.length x23 + List.length [y1] ≤ (140737488355328 : Nat))) (
                Option.bind (f (x0, x1, x2, x3, x4, x5, x6, IntKind.wrap IntKind.i64 (x7 + (1 : Int)), x8, x9, x10, x11, x12, x13, x14, x15, x16, x17, x18, x19, x20, x21, x22, x23 ++ [y1])) fun r => match r with | .inl y => some (.inl y) | .inr y => some (.inr y)) (
                none )) (
              none ))))) (
      none )) (
    some (.inr ((x3, x6, x5, x2, x1, x8, x9, x10, x23, x22, x11, x12, x13, x14, x15, x16, x17, x18, x19, x20, x21))))
noncomputable def F143_128206 (N : Nat) : Nat → P143_128206 → Option R143_128206
  | 0, _ => none
  | k + 1, x => B143_128206 N (F143_128206 N k) x
noncomputable def C143_128206 (N : Nat) (k : Nat) : Cut := L143_128206.cut (F143_128206 N k)
theorem C143_128206_ok (N : Nat) (k : Nat) : CutAt Tryz.prog false Tryz.f143 [0] 128206 (C143_128206 N k) :=
  L143_128206.loopT ownT mix (tab143_ok N) Tryz.f143 [0] (cuts := []) trivial (by decide +kernel) (by kernel_rfl) (B143_128206 N) (F143_128206 N) (fun _ => rfl) (fun _ _ => rfl) (fun f x => by kernel_rfl) k
@[reducible] def L143_250 : LD := ⟨250, [12, 10, 1, 11, 23, 22, 4, 2], [(.ret, [8, 9]), (.exit 0, [12])], ⟨[.sl 1, .sl 2, .int .i64, .int .i64, .int .i64, .int .i64, .adr 3 [], .int .i64], [.var 189 (.agg [.str, .int .i64, .int .i64]), .row (.int .i64) 3, .row (.int .i64) 3, .var 124 (.agg [.adr 0 [], .agg [.int .i64, .int .i64, .bool, .bool, .int .i64, .int .i64, .int .i64, .int .i64, .int .i64, .int .i64], .int .i64])]⟩, [(.ret, ⟨[.sl 1, .bool], [.var 189 (.agg [.str, .int .i64, .int .i64]), .row (.int .i64) 3]⟩), (.exit 0, ⟨[.sl 1], [.var 189 (.agg [.str, .int .i64, .int .i64]), .row (.int .i64) 3]⟩)]⟩
abbrev P143_250 : Type := Int × Int × Int × Int × Int × ByteArray × Int × Int × (List Int) × (List Int) × Int × Int × Bool × Bool × Int × Int × Int × Int × Int × Int × Int
abbrev R143_250 : Type := ((Bool × ByteArray × Int × Int × (List Int)) ⊕ (ByteArray × Int × Int × (List Int)))
noncomputable def B143_250 (N : Nat) (f : P143_250 → Option R143_250) : P143_250 → Option R143_250
  | (x0, x1, x2, x3, x4, x5, x6, x7, x8, x9, x10, x11, x12, x13, x14, x15, x16, x17, x18, x19, x20) =>
  iteP (decide (x2 < x3)) (
    Option.bind (F135 N (IntKind.wrap IntKind.i64 (Int.tdiv (IntKind.wrap IntKind.i64 (IntKind.wrap IntKind.i64 (x4 * x1) + (7 : Int))) (8 : Int)), x5, x6, x7)) fun y0 =>
    Option.bind (F84 N (y0.2.1, y0.2.2.1, y0.2.2.2, ())) fun y1 =>
    iteP (y1 != (0 : Int)) (
      some (.inl ((false, y0.2.1, y0.2.2.1, y0.2.2.2, [])))) (
      Option.bind (F143_128206 N N (x4, x4, x3, x2, y0.1, x1, x0, (0 : Int), y0.2.1, y0.2.2.1, y0.2.2.2, x10, x11, x12, x13, x14, x15, x16, x17, x18, x19, x20, x9, x8)) fun y2 =>
      match y2 with
      | .inl y3 =>
        some (.inl ((y3.1, y3.2.1, y3.2.2.1, y3.2.2.2.1, y3.2.2.2.2)))
      | .inr (y3_0, y3_1, y3_2, y3_3, y3_4, y3_5, y3_6, y3_7, y3_8, y3_9, y3_10, y3_11, y3_12, y3_13, y3_14, y3_15, y3_16, y3_17, y3_18, y3_19, y3_20) =>
        Option.bind (f (y3_1, y3_2, IntKind.wrap IntKind.i64 (y3_0 + (1 : Int)), y3_3, y3_4, y3_5, y3_6, y3_7, y3_8, y3_9, y3_10, y3_11, y3_12, y3_13, y3_14, y3_15, y3_16, y3_17, y3_18, y3_19, y3_20)) fun r => match r with | .inl y => some (.inl y) | .inr y => some (.inr y))) (
    some (.inr ((x5, x6, x7, x8))))
noncomputable def F143_250 (N : Nat) : Nat → P143_250 → Option R143_250
  | 0, _ => none
  | k + 1, x => B143_250 N (F143_250 N k) x
noncomputable def C143_250 (N : Nat) (k : Nat) : Cut := L143_250.cut (F143_250 N k)
theorem C143_250_ok (N : Nat) (k : Nat) : CutAt Tryz.prog false Tryz.f143 [0] 250 (C143_250 N k) :=
  L143_250.loopT ownT mix (tab143_ok N) Tryz.f143 [0] (cuts := [(128206, C143_128206 N N)]) ⟨C143_128206_ok N N, trivial⟩ (by decide +kernel) (by kernel_rfl) (B143_250 N) (F143_250 N) (fun _ => rfl) (fun _ _ => rfl) (fun f x => by kernel_rfl) k
@[reducible] def w143 : List SP := [⟨[.tup [.sl 1, .bool]], [.var 189 (.agg [.str, .int .i64, .int .i64]), .row (.int .i64) 3]⟩]
noncomputable def F143 (N : Nat) : (Int × Int × Bool × Bool × Int × Int × Int × Int × Int × Int × Int × Int × Int × Int × ByteArray × Int × Int) → Option (Bool × ByteArray × Int × Int × (List Int))
  | (x0, x1, x2, x3, x4, x5, x6, x7, x8, x9, x10, x11, x12, x13, x14, x15, x16) =>
  Option.bind (F141 N (x0, x1, x2, x3, x4, x5, x6, x7, x8, x9, x10, x11, x14, x15, x16)) fun y0 =>
  Option.bind (F211 N x11) fun y1 =>
  Option.bind (F143_250 N N (x11, y1, (0 : Int), x13, x12, y0.1, y0.2.1, y0.2.2.1, [], y0.2.2.2, x0, x1, x2, x3, x4, x5, x6, x7, x8, x9, x10)) fun y2 =>
  match y2 with
  | .inl y3 =>
    some ((y3.1, y3.2.1, y3.2.2.1, y3.2.2.2.1, y3.2.2.2.2))
  | .inr y3 =>
    some ((true, y3.1, y3.2.1, y3.2.2.1, y3.2.2.2))
noncomputable def T143 (N : Nat) : Pk → Tr Pk := tellS s143 w143 (F143 N)
theorem T143_ok (N : Nat) : FOK Tryz.prog (143) (T143 N) :=
  (fn_ok2 ownT mix (tab143_ok N) Tryz.func143 s143 w143 [0] (cuts := [(128206, C143_128206 N N), (250, C143_250 N N)]) ⟨C143_128206_ok N N, C143_250_ok N N, trivial⟩ (fun _ => by kernel_rfl) (by decide +kernel) (F143 N) (fun x => by kernel_rfl))
@[reducible] def s265 : SP := ⟨[.agg [.adr 0 [], .agg [.int .i64, .int .i64, .bool, .bool, .int .i64, .int .i64, .int .i64, .int .i64, .int .i64, .int .i64], .int .i64]], [.var 189 (.agg [.str, .int .i64, .int .i64])]⟩
noncomputable def tab265 (N : Nat) : List (Nat × (Pk → Tr Pk)) := [(105, T105 N)]
theorem tab265_ok (N : Nat) : TabOK Tryz.prog (tab265 N) := ⟨T105_ok N, trivial⟩
@[reducible] def L265_58 : LD := ⟨58, [4, 3, 1], [(.ret, [2]), (.exit 0, [3])], ⟨[.int .i64, .int .i64, .adr 1 []], [.var 189 (.agg [.str, .int .i64, .int .i64]), .var 124 (.agg [.adr 0 [], .agg [.int .i64, .int .i64, .bool, .bool, .int .i64, .int .i64, .int .i64, .int .i64, .int .i64, .int .i64], .int .i64])]⟩, [(.exit 0, ⟨[.int .i64], [.var 189 (.agg [.str, .int .i64, .int .i64])]⟩)]⟩
abbrev P265_58 : Type := Int × Int × ByteArray × Int × Int × Int × Int × Bool × Bool × Int × Int × Int × Int × Int × Int × Int
abbrev R265_58 : Type := Int × ByteArray × Int × Int
noncomputable def B265_58 (N : Nat) (f : P265_58 → Option R265_58) : P265_58 → Option R265_58
  | (x0, x1, x2, x3, x4, x5, x6, x7, x8, x9, x10, x11, x12, x13, x14, x15) =>
  iteP (x0 == (255 : Int)) (
    Option.bind (F105 N ((1 : Int), x2, x3, x4)) fun y0 =>
    Option.bind (f (y0.1, IntKind.wrap IntKind.i64 (x1 + y0.1), y0.2.1, y0.2.2.1, y0.2.2.2, x5, x6, x7, x8, x9, x10, x11, x12, x13, x14, x15)) fun r => some r) (
    some ((x1, x2, x3, x4)))
noncomputable def F265_58 (N : Nat) : Nat → P265_58 → Option R265_58
  | 0, _ => none
  | k + 1, x => B265_58 N (F265_58 N k) x
noncomputable def C265_58 (N : Nat) (k : Nat) : Cut := L265_58.cut (F265_58 N k)
theorem C265_58_ok (N : Nat) (k : Nat) : CutAt Tryz.prog false Tryz.f265 [0] 58 (C265_58 N k) :=
  L265_58.loopT ownT mix (tab265_ok N) Tryz.f265 [0] (cuts := []) trivial (by decide +kernel) (by kernel_rfl) (B265_58 N) (F265_58 N) (fun _ => rfl) (fun _ _ => rfl) (fun f x => by kernel_rfl) k
@[reducible] def w265 : List SP := [⟨[.int .i64], [.var 189 (.agg [.str, .int .i64, .int .i64])]⟩]
noncomputable def F265 (N : Nat) : (Int × Int × Bool × Bool × Int × Int × Int × Int × Int × Int × Int × ByteArray × Int × Int) → Option (Int × ByteArray × Int × Int)
  | (x0, x1, x2, x3, x4, x5, x6, x7, x8, x9, x10, x11, x12, x13) =>
  Option.bind (F265_58 N N ((255 : Int), (1 : Int), x11, x12, x13, x0, x1, x2, x3, x4, x5, x6, x7, x8, x9, x10)) fun y0 =>
  some ((y0.1, y0.2.1, y0.2.2.1, y0.2.2.2))
noncomputable def T265 (N : Nat) : Pk → Tr Pk := tellS s265 w265 (F265 N)
theorem T265_ok (N : Nat) : FOK Tryz.prog (265) (T265 N) :=
  (fn_ok2 ownT mix (tab265_ok N) Tryz.func265 s265 w265 [0] (cuts := [(58, C265_58 N N)]) ⟨C265_58_ok N N, trivial⟩ (fun _ => by kernel_rfl) (by decide +kernel) (F265 N) (fun x => by kernel_rfl))
@[reducible] def s212 : SP := ⟨[.agg [.adr 0 [], .agg [.int .i64, .int .i64, .bool, .bool, .int .i64, .int .i64, .int .i64, .int .i64, .int .i64, .int .i64], .int .i64], .ro (.int .i64)], [.var 189 (.agg [.str, .int .i64, .int .i64])]⟩
noncomputable def tab212 (N : Nat) : List (Nat × (Pk → Tr Pk)) := [(142, T142 N), (265, T265 N), (105, T105 N)]
theorem tab212_ok (N : Nat) : TabOK Tryz.prog (tab212 N) := ⟨T142_ok N, T265_ok N, T105_ok N, trivial⟩
@[reducible] def w212 : List SP := [⟨[.tup [.int .i64, .int .i64, .bool]], [.var 189 (.agg [.str, .int .i64, .int .i64])]⟩]
noncomputable def F212 (N : Nat) : (Int × Int × Bool × Bool × Int × Int × Int × Int × Int × Int × Int × (List Int) × ByteArray × Int × Int) → Option (Int × Int × Bool × ByteArray × Int × Int)
  | (x0, x1, x2, x3, x4, x5, x6, x7, x8, x9, x10, x11, x12, x13, x14) =>
  iteP ((↑(List.length x11) : Int) == (0 : Int)) (
    Option.bind (F142 N (x0, x1, x2, x3, x4, x5, x6, x7, x8, x9, x10, x12, x13, x14)) fun y0 =>
    Option.bind (F265 N (x0, x1, x2, x3, x4, x5, x6, x7, x8, x9, x10, y0.2.1, y0.2.2.1, y0.2.2.2)) fun y1 =>
    some ((y0.1, y1.1, true, y1.2.1, y1.2.2.1, y1.2.2.2))) (
    Option.bind (F105 N ((1 : Int), x12, x13, x14)) fun y2 =>
    iteP (decide (IntKind.wrap IntKind.i64 (↑(BitVec.toNat (BitVec.ofInt (64 : Nat) y2.1 &&& BitVec.ofInt (64 : Nat) (127 : Int))) : Int) ≥ (↑(List.length x11) : Int))) (
      some (((0 : Int), (0 : Int), false, y2.2.1, y2.2.2.1, y2.2.2.2))) (
      iteP (decide (y2.1 ≥ (128 : Int))) (
        Option.bind (F265 N (x0, x1, x2, x3, x4, x5, x6, x7, x8, x9, x10, y2.2.1, y2.2.2.1, y2.2.2.2)) fun y3 =>
        iteP (within (IntKind.wrap IntKind.i64 (↑(BitVec.toNat (BitVec.ofInt (64 : Nat) y2.1 &&& BitVec.ofInt (64 : Nat) (127 : Int))) : Int)) (List.length x11)) (
          Option.bind (x11[Int.toNat (IntKind.wrap IntKind.i64 (↑(BitVec.toNat (BitVec.ofInt (64 : Nat) y2.1 &&& BitVec.ofInt (64 : Nat) (127 : Int))) : Int))]?) fun y4 =>
          some ((y4, y3.1, true, y3.2.1, y3.2.2.1, y3.2.2.2))) (
          none )) (
        iteP (within (IntKind.wrap IntKind.i64 (↑(BitVec.toNat (BitVec.ofInt (64 : Nat) y2.1 &&& BitVec.ofInt (64 : Nat) (127 : Int))) : Int)) (List.length x11)) (
          Option.bind (x11[Int.toNat (IntKind.wrap IntKind.i64 (↑(BitVec.toNat (BitVec.ofInt (64 : Nat) y2.1 &&& BitVec.ofInt (64 : Nat) (127 : Int))) : Int))]?) fun y5 =>
          some ((y5, (1 : Int), true, y2.2.1, y2.2.2.1, y2.2.2.2))) (
          none ))))
noncomputable def T212 (N : Nat) : Pk → Tr Pk := tellS s212 w212 (F212 N)
theorem T212_ok (N : Nat) : FOK Tryz.prog (212) (T212 N) :=
  (fn_ok2 ownT mix (tab212_ok N) Tryz.func212 s212 w212 [0] (cuts := []) trivial (fun _ => by kernel_rfl) (by decide +kernel) (F212 N) (fun x => by kernel_rfl))
@[reducible] def s144 : SP := ⟨[.agg [.adr 0 [], .agg [.int .i64, .int .i64, .bool, .bool, .int .i64, .int .i64, .int .i64, .int .i64, .int .i64, .int .i64], .int .i64], .int .i64, .int .i64], [.var 189 (.agg [.str, .int .i64, .int .i64])]⟩
noncomputable def tab144 (N : Nat) : List (Nat × (Pk → Tr Pk)) := [(141, T141 N), (212, T212 N), (84, T84 N)]
theorem tab144_ok (N : Nat) : TabOK Tryz.prog (tab144 N) := ⟨T141_ok N, T212_ok N, T84_ok N, trivial⟩
@[reducible] def L144_7726 : LD := ⟨7726, [9, 44, 43, 2, 3, 8, 10], [(.ret, [6, 7]), (.exit 2, [8, 3, 2, 9]), (.exit 1, [8, 3, 2, 9]), (.exit 0, [9])], ⟨[.sl 1, .int .i64, .int .i64, .int .i64, .adr 2 [], .sl 3, .int .i64], [.var 189 (.agg [.str, .int .i64, .int .i64]), .row (.int .i64) 3, .var 124 (.agg [.adr 0 [], .agg [.int .i64, .int .i64, .bool, .bool, .int .i64, .int .i64, .int .i64, .int .i64, .int .i64, .int .i64], .int .i64]), .row (.int .i64) 3]⟩, [(.exit 2, ⟨[.sl 1, .adr 2 [], .int .i64, .sl 3], [.var 189 (.agg [.str, .int .i64, .int .i64]), .row (.int .i64) 3, .var 124 (.agg [.adr 0 [], .agg [.int .i64, .int .i64, .bool, .bool, .int .i64, .int .i64, .int .i64, .int .i64, .int .i64, .int .i64], .int .i64]), .row (.int .i64) 3]⟩)]⟩
abbrev P144_7726 : Type := Int × Int × Int × Int × ByteArray × Int × Int × (List Int) × Int × Int × Bool × Bool × Int × Int × Int × Int × Int × Int × Int × (List Int)
abbrev R144_7726 : Type := Int × ByteArray × Int × Int × (List Int) × Int × Int × Bool × Bool × Int × Int × Int × Int × Int × Int × Int × (List Int)
noncomputable def B144_7726 (N : Nat) (f : P144_7726 → Option R144_7726) : P144_7726 → Option R144_7726
  | (x0, x1, x2, x3, x4, x5, x6, x7, x8, x9, x10, x11, x12, x13, x14, x15, x16, x17, x18, x19) =>
  iteP (decide (x0 < x1)) (
    iteP (decide ((List.length x7 + List.length [x3]) * (8 : Nat) ≤ (140737488355328 : Nat) ∧ List.length x7 + List.length [x3] ≤ (140737488355328 : Nat))) (
      Option.bind (f (IntKind.wrap IntKind.i64 (x0 + (1 : Int)), x1, x2, x3, x4, x5, x6, x7 ++ [x3], x8, x9, x10, x11, x12, x13, x14, x15, x16, x17, x18, x19)) fun r => some r) (
      none )) (
    some ((x2, x4, x5, x6, x19, x8, x9, x10, x11, x12, x13, x14, x15, x16, x17, x18, x7)))
noncomputable def F144_7726 (N : Nat) : Nat → P144_7726 → Option R144_7726
  | 0, _ => none
  | k + 1, x => B144_7726 N (F144_7726 N k) x
noncomputable def C144_7726 (N : Nat) (k : Nat) : Cut := L144_7726.cut (F144_7726 N k)
theorem C144_7726_ok (N : Nat) (k : Nat) : CutAt Tryz.prog false Tryz.f144 [0] 7726 (C144_7726 N k) :=
  L144_7726.loopT ownT mix (tab144_ok N) Tryz.f144 [0] (cuts := []) trivial (by decide +kernel) (by kernel_rfl) (B144_7726 N) (F144_7726 N) (fun _ => rfl) (fun _ _ => rfl) (fun f x => by kernel_rfl) k
@[reducible] def L144_60 : LD := ⟨60, [8, 3, 2, 9], [(.ret, [6, 7]), (.exit 0, [9])], ⟨[.sl 1, .adr 2 [], .int .i64, .sl 3], [.var 189 (.agg [.str, .int .i64, .int .i64]), .row (.int .i64) 3, .var 124 (.agg [.adr 0 [], .agg [.int .i64, .int .i64, .bool, .bool, .int .i64, .int .i64, .int .i64, .int .i64, .int .i64, .int .i64], .int .i64]), .row (.int .i64) 3]⟩, [(.ret, ⟨[.sl 1, .bool], [.var 189 (.agg [.str, .int .i64, .int .i64]), .row (.int .i64) 3]⟩), (.exit 0, ⟨[.sl 1], [.var 189 (.agg [.str, .int .i64, .int .i64]), .row (.int .i64) 3]⟩)]⟩
abbrev P144_60 : Type := Int × ByteArray × Int × Int × (List Int) × Int × Int × Bool × Bool × Int × Int × Int × Int × Int × Int × Int × (List Int)
abbrev R144_60 : Type := ((Bool × ByteArray × Int × Int × (List Int)) ⊕ (ByteArray × Int × Int × (List Int)))
noncomputable def B144_60 (N : Nat) (f : P144_60 → Option R144_60) : P144_60 → Option R144_60
  | (x0, x1, x2, x3, x4, x5, x6, x7, x8, x9, x10, x11, x12, x13, x14, x15, x16) =>
  iteP (decide ((↑(List.length x16) : Int) < x0)) (
    Option.bind (F212 N (x5, x6, x7, x8, x9, x10, x11, x12, x13, x14, x15, x4, x1, x2, x3)) fun (y0_0, y0_1, y0_2, y0_3, y0_4, y0_5) =>
    iteP (!y0_2) (
      some (.inl ((false, y0_3, y0_4, y0_5, [])))) (
      Option.bind (F84 N (y0_3, y0_4, y0_5, ())) fun y1 =>
      iteP (y1 != (0 : Int)) (
        some (.inl ((false, y0_3, y0_4, y0_5, [])))) (
        iteP (decide (y0_1 > IntKind.wrap IntKind.i64 (x0 - (↑(List.length x16) : Int)))) (
          some (.inl ((false, y0_3, y0_4, y0_5, [])))) (
          Option.bind (F144_7726 N N ((0 : Int), y0_1, x0, y0_0, y0_3, y0_4, y0_5, x16, x5, x6, x7, x8, x9, x10, x11, x12, x13, x14, x15, x4)) fun (y2_0, y2_1, y2_2, y2_3, y2_4, y2_5, y2_6, y2_7, y2_8, y2_9, y2_10, y2_11, y2_12, y2_13, y2_14, y2_15, y2_16) =>
          Option.bind (f (y2_0, y2_1, y2_2, y2_3, y2_4, y2_5, y2_6, y2_7, y2_8, y2_9, y2_10, y2_11, y2_12, y2_13, y2_14, y2_15, y2_16)) fun r => match r with | .inl y => some (.inl y) | .inr y => some (.inr y))))) (
    some (.inr ((x1, x2, x3, x16))))
noncomputable def F144_60 (N : Nat) : Nat → P144_60 → Option R144_60
  | 0, _ => none
  | k + 1, x => B144_60 N (F144_60 N k) x
noncomputable def C144_60 (N : Nat) (k : Nat) : Cut := L144_60.cut (F144_60 N k)
theorem C144_60_ok (N : Nat) (k : Nat) : CutAt Tryz.prog false Tryz.f144 [0] 60 (C144_60 N k) :=
  L144_60.loopT ownT mix (tab144_ok N) Tryz.f144 [0] (cuts := [(7726, C144_7726 N N)]) ⟨C144_7726_ok N N, trivial⟩ (by decide +kernel) (by kernel_rfl) (B144_60 N) (F144_60 N) (fun _ => rfl) (fun _ _ => rfl) (fun f x => by kernel_rfl) k
@[reducible] def w144 : List SP := [⟨[.tup [.sl 1, .bool]], [.var 189 (.agg [.str, .int .i64, .int .i64]), .row (.int .i64) 3]⟩]
noncomputable def F144 (N : Nat) : (Int × Int × Bool × Bool × Int × Int × Int × Int × Int × Int × Int × Int × Int × ByteArray × Int × Int) → Option (Bool × ByteArray × Int × Int × (List Int))
  | (x0, x1, x2, x3, x4, x5, x6, x7, x8, x9, x10, x11, x12, x13, x14, x15) =>
  Option.bind (F141 N (x0, x1, x2, x3, x4, x5, x6, x7, x8, x9, x10, x11, x13, x14, x15)) fun y0 =>
  Option.bind (F144_60 N N (x12, y0.1, y0.2.1, y0.2.2.1, y0.2.2.2, x0, x1, x2, x3, x4, x5, x6, x7, x8, x9, x10, [])) fun y1 =>
  match y1 with
  | .inl y2 =>
    some ((y2.1, y2.2.1, y2.2.2.1, y2.2.2.2.1, y2.2.2.2.2))
  | .inr y2 =>
    some ((true, y2.1, y2.2.1, y2.2.2.1, y2.2.2.2))
noncomputable def T144 (N : Nat) : Pk → Tr Pk := tellS s144 w144 (F144 N)
theorem T144_ok (N : Nat) : FOK Tryz.prog (144) (T144 N) :=
  (fn_ok2 ownT mix (tab144_ok N) Tryz.func144 s144 w144 [0] (cuts := [(7726, C144_7726 N N), (60, C144_60 N N)]) ⟨C144_7726_ok N N, C144_60_ok N N, trivial⟩ (fun _ => by kernel_rfl) (by decide +kernel) (F144 N) (fun x => by kernel_rfl))
@[reducible] def s83 : SP := ⟨[.agg [.adr 0 [], .agg [.int .i64, .int .i64, .bool, .bool, .int .i64, .int .i64, .int .i64, .int .i64, .int .i64, .int .i64], .int .i64], .int .i64, .int .i64], [.var 189 (.agg [.str, .int .i64, .int .i64])]⟩
noncomputable def tab83 (N : Nat) : List (Nat × (Pk → Tr Pk)) := [(105, T105 N), (84, T84 N), (141, T141 N), (142, T142 N), (143, T143 N), (144, T144 N)]
theorem tab83_ok (N : Nat) : TabOK Tryz.prog (tab83 N) := ⟨T105_ok N, T84_ok N, T141_ok N, T142_ok N, T143_ok N, T144_ok N, trivial⟩
@[reducible] def L83_59354 : LD := ⟨59354, [39, 38, 10, 9], [(.ret, [6, 7]), (.exit 1, [10])], ⟨[.int .i64, .int .i64, .sl 1, .int .i64], [.var 189 (.agg [.str, .int .i64, .int .i64]), .row (.int .i64) 3]⟩, [(.exit 1, ⟨[.sl 1], [.var 189 (.agg [.str, .int .i64, .int .i64]), .row (.int .i64) 3]⟩)]⟩
abbrev P83_59354 : Type := Int × Int × Int × ByteArray × Int × Int × (List Int)
abbrev R83_59354 : Type := ByteArray × Int × Int × (List Int)
noncomputable def B83_59354 (N : Nat) (f : P83_59354 → Option R83_59354) : P83_59354 → Option R83_59354
  | (x0, x1, x2, x3, x4, x5, x6) =>
  iteP (decide (x0 < x1)) (
    iteP (within x0 (List.length x6)) (
      Option.bind (x6[Int.toNat x0]?) fun y0 =>
      Option.bind (f (IntKind.wrap IntKind.i64 (x0 + (1 : Int)), x1, x2, x3, x4, x5, List.set x6 (Int.toNat x0) x2)) fun r => some r) (
      none )) (
    some ((x3, x4, x5, x6)))
noncomputable def F83_59354 (N : Nat) : Nat → P83_59354 → Option R83_59354
  | 0, _ => none
  | k + 1, x => B83_59354 N (F83_59354 N k) x
noncomputable def C83_59354 (N : Nat) (k : Nat) : Cut := L83_59354.cut (F83_59354 N k)
theorem C83_59354_ok (N : Nat) (k : Nat) : CutAt Tryz.prog false Tryz.f83 [0] 59354 (C83_59354 N k) :=
  L83_59354.loopT ownT mix (tab83_ok N) Tryz.f83 [0] (cuts := []) trivial (by decide +kernel) (by kernel_rfl) (B83_59354 N) (F83_59354 N) (fun _ => rfl) (fun _ _ => rfl) (fun f x => by kernel_rfl) k
@[reducible] def w83 : List SP := [⟨[.tup [.sl 1, .bool]], [.var 189 (.agg [.str, .int .i64, .int .i64]), .row (.int .i64) 3]⟩]
noncomputable def F83 (N : Nat) : (Int × Int × Bool × Bool × Int × Int × Int × Int × Int × Int × Int × Int × Int × ByteArray × Int × Int) → Option (Bool × ByteArray × Int × Int × (List Int))
  | (x0, x1, x2, x3, x4, x5, x6, x7, x8, x9, x10, x11, x12, x13, x14, x15) =>
  Option.bind (F105 N ((1 : Int), x13, x14, x15)) fun y0 =>
  Option.bind (F84 N (y0.2.1, y0.2.2.1, y0.2.2.2, ())) fun y1 =>
  iteP (y1 != (0 : Int)) (
    some ((false, y0.2.1, y0.2.2.1, y0.2.2.2, []))) (
    iteP (y0.1 == (0 : Int)) (
      Option.bind (F141 N (x0, x1, x2, x3, x4, x5, x6, x7, x8, x9, x10, IntKind.wrap IntKind.i64 (x11 * x12), y0.2.1, y0.2.2.1, y0.2.2.2)) fun y2 =>
      some ((true, y2.1, y2.2.1, y2.2.2.1, y2.2.2.2))) (
      iteP (y0.1 == (1 : Int)) (
        Option.bind (F142 N (x0, x1, x2, x3, x4, x5, x6, x7, x8, x9, x10, y0.2.1, y0.2.2.1, y0.2.2.2)) fun y3 =>
        iteP (decide ((0 : Int) ≤ IntKind.wrap IntKind.i64 (x11 * x12) ∧ IntKind.wrap IntKind.i64 (x11 * x12) ≤ IntKind.wrap IntKind.i64 (x11 * x12) ∧ IntKind.wrap IntKind.i64 (x11 * x12) * (8 : Int) ≤ (140737488355328 : Int) ∧ IntKind.wrap IntKind.i64 (x11 * x12) ≤ (140737488355328 : Int))) (
          Option.bind (F83_59354 N N ((0 : Int), (↑(List.length (List.replicate (Int.toNat (IntKind.wrap IntKind.i64 (x11 * x12))) (0 : Int))) : Int), y3.1, y3.2.1, y3.2.2.1, y3.2.2.2, List.replicate (Int.toNat (IntKind.wrap IntKind.i64 (x11 * x12))) (0 : Int))) fun y4 =>
          some ((true, y4.1, y4.2.1, y4.2.2.1, y4.2.2.2))) (
          none )) (
        iteP (decide (y0.1 ≤ (16 : Int))) (
          Option.bind (F143 N (x0, x1, x2, x3, x4, x5, x6, x7, x8, x9, x10, y0.1, x11, x12, y0.2.1, y0.2.2.1, y0.2.2.2)) fun y5 =>
          some ((y5.1, y5.2.1, y5.2.2.1, y5.2.2.2.1, y5.2.2.2.2))) (
          iteP (y0.1 == (128 : Int)) (
            Option.bind (F144 N (x0, x1, x2, x3, x4, x5, x6, x7, x8, x9, x10, IntKind.wrap IntKind.i64 (y0.1 - (128 : Int)), IntKind.wrap IntKind.i64 (x11 * x12), y0.2.1, y0.2.2.1, y0.2.2.2)) fun y6 =>
            some ((y6.1, y6.2.1, y6.2.2.1, y6.2.2.2.1, y6.2.2.2.2))) (
            iteP (decide (y0.1 ≥ (130 : Int))) (
              Option.bind (F144 N (x0, x1, x2, x3, x4, x5, x6, x7, x8, x9, x10, IntKind.wrap IntKind.i64 (y0.1 - (128 : Int)), IntKind.wrap IntKind.i64 (x11 * x12), y0.2.1, y0.2.2.1, y0.2.2.2)) fun y7 =>
              some ((y7.1, y7.2.1, y7.2.2.1, y7.2.2.2.1, y7.2.2.2.2))) (
              some ((false, y0.2.1, y0.2.2.1, y0.2.2.2, []))))))))
noncomputable def T83 (N : Nat) : Pk → Tr Pk := tellS s83 w83 (F83 N)
theorem T83_ok (N : Nat) : FOK Tryz.prog (83) (T83 N) :=
  (fn_ok2 ownT mix (tab83_ok N) Tryz.func83 s83 w83 [0] (cuts := [(59354, C83_59354 N N)]) ⟨C83_59354_ok N N, trivial⟩ (fun _ => by kernel_rfl) (by decide +kernel) (F83 N) (fun x => by kernel_rfl))
@[reducible] def s85 : SP := ⟨[.agg [.int .i64, .int .i64, .bool, .bool, .int .i64, .int .i64, .int .i64, .int .i64, .int .i64, .int .i64], .int .i64], []⟩
noncomputable def tab85 (N : Nat) : List (Nat × (Pk → Tr Pk)) := [(39, T39 N), (95, T95 N)]
theorem tab85_ok (N : Nat) : TabOK Tryz.prog (tab85 N) := ⟨T39_ok N, T95_ok N, trivial⟩
@[reducible] def L85_122 : LD := ⟨122, [5, 14, 13, 1], [(.ret, [4]), (.exit 0, [5])], ⟨[.int .i64, .int .i64, .arr y0 3, .int .i64], []⟩, [(.exit 0, ⟨[.int .i64], []⟩)]⟩
abbrev P85_122 : Type := Int × Int × (List (Int × (Int × Unit))) × Int
abbrev R85_122 : Type := Int
noncomputable def B85_122 (N : Nat) (f : P85_122 → Option R85_122) : P85_122 → Option R85_122
  | (x0, x1, x2, x3) =>
  iteP (decide (x1 < (3 : Int))) (
    iteP (within x1 (List.length x2)) (
      Option.bind (x2[Int.toNat x1]?) fun y0 =>
      iteP (decide (y0.2.1 < (0 : Int))) (
        none ) (
        iteP (decide (y0.1 = (0 : Int))) (
          none ) (
          Option.bind (f (IntKind.wrap IntKind.i64 (↑(BitVec.toNat (BitVec.ofInt (64 : Nat) (IntKind.wrap IntKind.i64 (x0 * (256 : Int))) ||| BitVec.ofInt (64 : Nat) (IntKind.wrap IntKind.i64 (Int.tdiv (IntKind.wrap IntKind.i64 (IntKind.wrap IntKind.i64 (IntKind.wrap IntKind.i64 (↑(BitVec.toNat (BitVec.ofInt (64 : Nat) (Int.fdiv x3 ((2 : Int) ^ min (Int.toNat y0.2.1) (64 : Nat))) &&& BitVec.ofInt (64 : Nat) y0.1)) : Int) * (255 : Int)) + IntKind.wrap IntKind.i64 (Int.tdiv y0.1 (2 : Int)))) y0.1)))) : Int), IntKind.wrap IntKind.i64 (x1 + (1 : Int)), x2, x3)) fun r => some r))) (
      none )) (
    some (x0))
noncomputable def F85_122 (N : Nat) : Nat → P85_122 → Option R85_122
  | 0, _ => none
  | k + 1, x => B85_122 N (F85_122 N k) x
noncomputable def C85_122 (N : Nat) (k : Nat) : Cut := L85_122.cut (F85_122 N k)
theorem C85_122_ok (N : Nat) (k : Nat) : CutAt Tryz.prog false Tryz.f85 [] 122 (C85_122 N k) :=
  L85_122.loopT ownT mix (tab85_ok N) Tryz.f85 [] (cuts := []) trivial (by decide +kernel) (by kernel_rfl) (B85_122 N) (F85_122 N) (fun _ => rfl) (fun _ _ => rfl) (fun f x => by kernel_rfl) k
@[reducible] def w85 : List SP := [⟨[.int .i64], []⟩]
noncomputable def F85 (N : Nat) : (Int × Int × Bool × Bool × Int × Int × Int × Int × Int × Int × Int) → Option (Int)
  | (x0, x1, x2, x3, x4, x5, x6, x7, x8, x9, x10) =>
  Option.bind (F39 N (x0, x1, x2, x3, x4, x5, x6, x7, x8, x9)) fun y0 =>
  iteP (!y0) (
    some ((0 : Int))) (
    Option.bind (F95 N (x0, x1, x2, x3, x4, x5, x6, x7, x8, x9)) fun y1 =>
    Option.bind (F85_122 N N ((0 : Int), (0 : Int), y1, x10)) fun y2 =>
    some (y2))
noncomputable def T85 (N : Nat) : Pk → Tr Pk := tellS s85 w85 (F85 N)
theorem T85_ok (N : Nat) : FOK Tryz.prog (85) (T85 N) :=
  (fn_ok2 ownT mix (tab85_ok N) Tryz.func85 s85 w85 [] (cuts := [(122, C85_122 N N)]) ⟨C85_122_ok N N, trivial⟩ (fun _ => by kernel_rfl) (by decide +kernel) (F85 N) (fun x => by kernel_rfl))
@[reducible] def s29 : SP := ⟨[.agg [.int .i64, .int .i64, .bool, .bool, .int .i64, .int .i64, .int .i64, .int .i64, .int .i64, .int .i64], .int .i64, .int .i64, .str], []⟩
noncomputable def tab29 (N : Nat) : List (Nat × (Pk → Tr Pk)) := [(35, T35 N), (37, T37 N), (81, T81 N), (82, T82 N), (83, T83 N), (84, T84 N), (85, T85 N), (86, T86 N)]
theorem tab29_ok (N : Nat) : TabOK Tryz.prog (tab29 N) := ⟨T35_ok N, T37_ok N, T81_ok N, T82_ok N, T83_ok N, T84_ok N, T85_ok N, T86_ok N, trivial⟩
@[reducible] def L29_518558 : LD := ⟨518558, [66, 65, 12, 41, 42, 43, 64, 13, 1, 15, 4], [(.ret, [8, 9]), (.exit 2, [43, 4, 1, 13, 42, 41, 12]), (.exit 1, [43, 4, 1, 13, 42, 41, 12]), (.exit 0, [12, 13])], ⟨[.int .i64, .int .i64, .adr 0 [], .sl 1, .int .i64, .int .i64, .sl 2, .sl 3, .int .i64, .adr 4 [], .adr 5 []], [.var 124 (.agg [.adr 6 [], .agg [.int .i64, .int .i64, .bool, .bool, .int .i64, .int .i64, .int .i64, .int .i64, .int .i64, .int .i64], .int .i64]), .row y1 126, .row (.int .i64) 3, .row (.int .i64) 3, .var 126 (.agg [.int .i64, .int .i64, .int .i64, .int .i64]), .var 43 (.agg [.int .i64, .int .i64, .bool, .bool, .int .i64, .int .i64, .int .i64, .int .i64, .int .i64, .int .i64]), .var 189 (.agg [.str, .int .i64, .int .i64])]⟩, [(.exit 2, ⟨[.int .i64, .adr 0 [], .int .i64, .sl 1, .int .i64, .sl 2, .adr 3 []], [.var 43 (.agg [.int .i64, .int .i64, .bool, .bool, .int .i64, .int .i64, .int .i64, .int .i64, .int .i64, .int .i64]), .row (.int .i64) 3, .row y1 126, .var 124 (.agg [.adr 4 [], .agg [.int .i64, .int .i64, .bool, .bool, .int .i64, .int .i64, .int .i64, .int .i64, .int .i64, .int .i64], .int .i64]), .var 189 (.agg [.str, .int .i64, .int .i64])]⟩)]⟩
abbrev P29_518558 : Type := Int × Int × Int × Int × Int × Int × Int × Bool × Bool × Int × Int × Int × Int × Int × Int × Int × (List (Int × (Int × (Int × (Int × Unit))))) × (List Int) × (List Int) × Int × Int × Int × Int × Int × Int × Bool × Bool × Int × Int × Int × Int × Int × Int × ByteArray × Int × Int
abbrev R29_518558 : Type := Int × Int × Int × Int × Int × Bool × Bool × Int × Int × Int × Int × Int × Int × (List Int) × (List (Int × (Int × (Int × (Int × Unit))))) × Int × Int × Bool × Bool × Int × Int × Int × Int × Int × Int × Int × ByteArray × Int × Int
noncomputable def B29_518558 (N : Nat) (f : P29_518558 → Option R29_518558) : P29_518558 → Option R29_518558
  | (x0, x1, x2, x3, x4, x5, x6, x7, x8, x9, x10, x11, x12, x13, x14, x15, x16, x17, x18, x19, x20, x21, x22, x23, x24, x25, x26, x27, x28, x29, x30, x31, x32, x33, x34, x35) =>
  iteP (decide (x0 < x1)) (
    iteP (within x0 (List.length x17)) (
      Option.bind (x17[Int.toNat x0]?) fun y0 =>
      iteP (decide (x21 = (0 : Int))) (
        none ) (
        iteP (decide (x21 = (0 : Int))) (
          none ) (
          Option.bind (F85 N (x23, x24, x25, x26, x27, x28, x29, x30, x31, x32, y0)) fun y1 =>
          iteP (within (IntKind.wrap IntKind.i64 (IntKind.wrap IntKind.i64 (IntKind.wrap IntKind.i64 (IntKind.wrap IntKind.i64 (x20 + IntKind.wrap IntKind.i64 (Int.tdiv x0 x21)) * x4) + x19) + Int.tmod x0 x21)) (List.length x18)) (
            Option.bind (x18[Int.toNat (IntKind.wrap IntKind.i64 (IntKind.wrap IntKind.i64 (IntKind.wrap IntKind.i64 (IntKind.wrap IntKind.i64 (x20 + IntKind.wrap IntKind.i64 (Int.tdiv x0 x21)) * x4) + x19) + Int.tmod x0 x21))]?) fun y2 =>
            Option.bind (f (IntKind.wrap IntKind.i64 (x0 + (1 : Int)), x1, x2, x3, x4, x5, x6, x7, x8, x9, x10, x11, x12, x13, x14, x15, x16, x17, List.set x18 (Int.toNat (IntKind.wrap IntKind.i64 (IntKind.wrap IntKind.i64 (IntKind.wrap IntKind.i64 (IntKind.wrap IntKind.i64 (x20 + IntKind.wrap IntKind.i64 (Int.tdiv x0 x21)) * x4) + x19) + Int.tmod x0 x21))) y1, x19, x20, x21, x22, x23, x24, x25, x26, x27, x28, x29, x30, x31, x32, x33, x34, x35)) fun r => some r) (
            none )))) (
      none )) (
    some ((x3, x4, x2, x23, x24, x25, x26, x27, x28, x29, x30, x31, x32, x18, x16, x5, x6, x7, x8, x9, x10, x11, x12, x13, x14, x15, x33, x34, x35)))
noncomputable def F29_518558 (N : Nat) : Nat → P29_518558 → Option R29_518558
  | 0, _ => none
  | k + 1, x => B29_518558 N (F29_518558 N k) x
noncomputable def C29_518558 (N : Nat) (k : Nat) : Cut := L29_518558.cut (F29_518558 N k)
theorem C29_518558_ok (N : Nat) (k : Nat) : CutAt Tryz.prog false Tryz.f29 [] 518558 (C29_518558 N k) :=
  L29_518558.loopT ownT mix (tab29_ok N) Tryz.f29 [] (cuts := []) trivial (by decide +kernel) (by kernel_rfl) (B29_518558 N) (F29_518558 N) (fun _ => rfl) (fun _ _ => rfl) (fun f x => by kernel_rfl) k
@[reducible] def L29_506 : LD := ⟨506, [4, 1, 13, 43, 42, 41, 12], [(.ret, [8, 9]), (.exit 0, [12, 13])], ⟨[.adr 0 [], .int .i64, .sl 1, .int .i64, .int .i64, .sl 2, .adr 3 []], [.var 43 (.agg [.int .i64, .int .i64, .bool, .bool, .int .i64, .int .i64, .int .i64, .int .i64, .int .i64, .int .i64]), .row (.int .i64) 3, .row y1 126, .var 124 (.agg [.adr 4 [], .agg [.int .i64, .int .i64, .bool, .bool, .int .i64, .int .i64, .int .i64, .int .i64, .int .i64, .int .i64], .int .i64]), .var 189 (.agg [.str, .int .i64, .int .i64])]⟩, [(.ret, ⟨[.sl 0, .int .i64], [.row (.int .i64) 3]⟩), (.exit 0, ⟨[.adr 0 [], .sl 1], [.var 124 (.agg [.adr 2 [], .agg [.int .i64, .int .i64, .bool, .bool, .int .i64, .int .i64, .int .i64, .int .i64, .int .i64, .int .i64], .int .i64]), .row (.int .i64) 3, .var 189 (.agg [.str, .int .i64, .int .i64])]⟩)]⟩
abbrev P29_506 : Type := Int × Int × Int × Int × Int × Bool × Bool × Int × Int × Int × Int × Int × Int × (List Int) × (List (Int × (Int × (Int × (Int × Unit))))) × Int × Int × Bool × Bool × Int × Int × Int × Int × Int × Int × Int × ByteArray × Int × Int
abbrev R29_506 : Type := ((Int × (List Int)) ⊕ (Int × Int × Bool × Bool × Int × Int × Int × Int × Int × Int × Int × (List Int) × ByteArray × Int × Int))
noncomputable def B29_506 (N : Nat) (f : P29_506 → Option R29_506) : P29_506 → Option R29_506
  | (x0, x1, x2, x3, x4, x5, x6, x7, x8, x9, x10, x11, x12, x13, x14, x15, x16, x17, x18, x19, x20, x21, x22, x23, x24, x25, x26, x27, x28) =>
  iteP (decide (x1 < x2)) (
    iteP (within x1 (List.length x14)) (
      Option.bind (x14[Int.toNat x1]?) fun y0 =>
      Option.bind (F83 N (x15, x16, x17, x18, x19, x20, x21, x22, x23, x24, x25, y0.2.2.1, y0.2.2.2.1, x26, x27, x28)) fun y1 =>
      iteP (!y1.1) (
        some (.inl (((180 : Int), [])))) (
        Option.bind (F84 N (y1.2.1, y1.2.2.1, y1.2.2.2.1, ())) fun y2 =>
        iteP (y2 != (0 : Int)) (
          some (.inl (((180 : Int), [])))) (
          Option.bind (F29_518558 N N ((0 : Int), (↑(List.length y1.2.2.2.2) : Int), x2, x1, x0, x15, x16, x17, x18, x19, x20, x21, x22, x23, x24, x25, x14, y1.2.2.2.2, x13, y0.1, y0.2.1, y0.2.2.1, y0.2.2.2.1, x3, x4, x5, x6, x7, x8, x9, x10, x11, x12, y1.2.1, y1.2.2.1, y1.2.2.2.1)) fun (y3_0, y3_1, y3_2, y3_3, y3_4, y3_5, y3_6, y3_7, y3_8, y3_9, y3_10, y3_11, y3_12, y3_13, y3_14, y3_15, y3_16, y3_17, y3_18, y3_19, y3_20, y3_21, y3_22, y3_23, y3_24, y3_25, y3_26, y3_27, y3_28) =>
          Option.bind (f (y3_1, IntKind.wrap IntKind.i64 (y3_0 + (1 : Int)), y3_2, y3_3, y3_4, y3_5, y3_6, y3_7, y3_8, y3_9, y3_10, y3_11, y3_12, y3_13, y3_14, y3_15, y3_16, y3_17, y3_18, y3_19, y3_20, y3_21, y3_22, y3_23, y3_24, y3_25, y3_26, y3_27, y3_28)) fun r => match r with | .inl y => some (.inl y) | .inr y => some (.inr y)))) (
      none )) (
    some (.inr ((x15, x16, x17, x18, x19, x20, x21, x22, x23, x24, x25, x13, x26, x27, x28))))
noncomputable def F29_506 (N : Nat) : Nat → P29_506 → Option R29_506
  | 0, _ => none
  | k + 1, x => B29_506 N (F29_506 N k) x
noncomputable def C29_506 (N : Nat) (k : Nat) : Cut := L29_506.cut (F29_506 N k)
theorem C29_506_ok (N : Nat) (k : Nat) : CutAt Tryz.prog false Tryz.f29 [] 506 (C29_506 N k) :=
  L29_506.loopT ownT mix (tab29_ok N) Tryz.f29 [] (cuts := [(518558, C29_518558 N N)]) ⟨C29_518558_ok N N, trivial⟩ (by decide +kernel) (by kernel_rfl) (B29_506 N) (F29_506 N) (fun _ => rfl) (fun _ _ => rfl) (fun f x => by kernel_rfl) k
@[reducible] def w29 : List SP := [⟨[.tup [.sl 0, .int .i64]], [.row (.int .i64) 3]⟩]
noncomputable def F29 (N : Nat) : (Int × Int × Bool × Bool × Int × Int × Int × Int × Int × Int × Int × Int × ByteArray) → Option (Int × (List Int))
  | (x0, x1, x2, x3, x4, x5, x6, x7, x8, x9, x10, x11, x12) =>
  Option.bind (F35 N (x0, x1, x2, x3, x4, x5, x6, x7, x8, x9, x10, x11)) fun y0 =>
  iteP (!y0) (
    some (((1 : Int), []))) (
    Option.bind (F37 N (x0, x1, x2, x3, x4, x5, x6, x7, x8, x9)) fun y1 =>
    Option.bind (F81 N x12) fun y2 =>
    iteP (decide ((0 : Int) ≤ IntKind.wrap IntKind.i64 (x10 * x11) ∧ IntKind.wrap IntKind.i64 (x10 * x11) ≤ IntKind.wrap IntKind.i64 (x10 * x11) ∧ IntKind.wrap IntKind.i64 (x10 * x11) * (8 : Int) ≤ (140737488355328 : Int) ∧ IntKind.wrap IntKind.i64 (x10 * x11) ≤ (140737488355328 : Int))) (
      Option.bind (F82 N (x10, x11, (64 : Int))) fun y3 =>
      Option.bind (F29_506 N N (x10, (0 : Int), (↑(List.length y3) : Int), x0, x1, x2, x3, x4, x5, x6, x7, x8, x9, List.replicate (Int.toNat (IntKind.wrap IntKind.i64 (x10 * x11))) (0 : Int), y3, x0, x1, x2, x3, x4, x5, x6, x7, x8, x9, y1.1, y2.1, y2.2.1, y2.2.2)) fun y4 =>
      match y4 with
      | .inl y5 =>
        some ((y5.1, y5.2))
      | .inr (y5_0, y5_1, y5_2, y5_3, y5_4, y5_5, y5_6, y5_7, y5_8, y5_9, y5_10, y5_11, y5_12, y5_13, y5_14) =>
        Option.bind (F86 N (y5_12, y5_13, y5_14, ())) fun y6 =>
        iteP (decide (y6 > (0 : Int))) (
          some (((3 : Int), []))) (
          some (((0 : Int), y5_11)))) (
      none ))
noncomputable def T29 (N : Nat) : Pk → Tr Pk := tellS s29 w29 (F29 N)
theorem T29_ok (N : Nat) : FOK Tryz.prog (29) (T29 N) :=
  (fn_ok2 ownT mix (tab29_ok N) Tryz.func29 s29 w29 [] (cuts := [(518558, C29_518558 N N), (506, C29_506 N N)]) ⟨C29_518558_ok N N, C29_506_ok N N, trivial⟩ (fun _ => by kernel_rfl) (by decide +kernel) (F29 N) (fun x => by kernel_rfl))
@[reducible] def s106 : SP := ⟨[.radr y6 [.i 0 3]], []⟩
noncomputable def tab106 (N : Nat) : List (Nat × (Pk → Tr Pk)) := []
theorem tab106_ok (N : Nat) : TabOK Tryz.prog (tab106 N) := trivial
@[reducible] def w106 : List SP := [⟨[.int .i64], []⟩]
noncomputable def F106 (N : Nat) : ((ByteArray × (Int × (Int × Unit)))) → Option (Int)
  | x0 =>
  some x0.2.1
noncomputable def T106 (N : Nat) : Pk → Tr Pk := tellS s106 w106 (F106 N)
theorem T106_ok (N : Nat) : FOK Tryz.prog (106) (T106 N) :=
  (fn_ok2 ownT mix (tab106_ok N) Tryz.func106 s106 w106 [] (cuts := []) trivial (fun _ => by kernel_rfl) (by decide +kernel) (F106 N) (fun x => by kernel_rfl))
@[reducible] def s79 : SP := ⟨[.adr 0 [.f 0 0, .f 0 0], .agg [.int .i64, .int .i64, .bool, .bool, .int .i64, .int .i64, .int .i64, .int .i64, .int .i64, .int .i64], .int .i64, .int .i64, .str], [.var 162 (.agg [.agg [.agg [.agg [.bool, .str], .int .i64]]])]⟩
noncomputable def tab79 (N : Nat) : List (Nat × (Pk → Tr Pk)) := [(35, T35 N), (32, T32 N), (81, T81 N), (105, T105 N), (135, T135 N), (84, T84 N), (136, T136 N), (29, T29 N), (106, T106 N)]
theorem tab79_ok (N : Nat) : TabOK Tryz.prog (tab79 N) := ⟨T35_ok N, T32_ok N, T81_ok N, T105_ok N, T135_ok N, T84_ok N, T136_ok N, T29_ok N, T106_ok N, trivial⟩
@[reducible] def w79 : List SP := [⟨[.tup [.sl 1, .int .i64, .int .i64]], [.var 162 (.agg [.agg [.agg [.agg [.bool, .str], .int .i64]]]), .row (.int .i64) 3]⟩]
noncomputable def F79 (N : Nat) : (Int × Int × Bool × Bool × Int × Int × Int × Int × Int × Int × Int × Int × ByteArray × Bool × ByteArray × Int) → Option (Int × Int × Bool × ByteArray × Int × (List Int))
  | (x0, x1, x2, x3, x4, x5, x6, x7, x8, x9, x10, x11, x12, x13, x14, x15) =>
  Option.bind (F35 N (x0, x1, x2, x3, x4, x5, x6, x7, x8, x9, x10, x11)) fun y0 =>
  iteP (!y0) (
    some (((0 : Int), (1 : Int), x13, x14, x15, []))) (
    Option.bind (F32 N (x0, x1, x2, x3, x4, x5, x6, x7, x8, x9, x10, x11)) fun y1 =>
    Option.bind (F81 N x12) fun y2 =>
    Option.bind (F105 N ((4 : Int), y2.1, y2.2.1, y2.2.2)) fun y3 =>
    iteP (decide (y3.1 > IntKind.wrap IntKind.i64 (y1 + (1000 : Int)))) (
      some (((0 : Int), (4 : Int), x13, x14, x15, []))) (
      Option.bind (F135 N (y3.1, y3.2.1, y3.2.2.1, y3.2.2.2)) fun y4 =>
      Option.bind (F84 N (y4.2.1, y4.2.2.1, y4.2.2.2, ())) fun y5 =>
      iteP (y5 != (0 : Int)) (
        some (((0 : Int), y5, x13, x14, x15, []))) (
        Option.bind (F136 N (y4.1, y1, x13, x14, x15)) fun y6 =>
        iteP (y6.2.1 != (0 : Int)) (
          some (((0 : Int), y6.2.1, y6.2.2.1, y6.2.2.2.1, y6.2.2.2.2, []))) (
          Option.bind (F29 N (x0, x1, x2, x3, x4, x5, x6, x7, x8, x9, x10, x11, y6.1)) fun y7 =>
          iteP (y7.1 != (0 : Int)) (
            some (((0 : Int), y7.1, y6.2.2.1, y6.2.2.2.1, y6.2.2.2.2, []))) (
            Option.bind (F106 N (y4.2.1, y4.2.2.1, y4.2.2.2, ())) fun y8 =>
            some ((y8, (0 : Int), y6.2.2.1, y6.2.2.2.1, y6.2.2.2.2, y7.2)))))))
noncomputable def T79 (N : Nat) : Pk → Tr Pk := tellS s79 w79 (F79 N)
theorem T79_ok (N : Nat) : FOK Tryz.prog (79) (T79 N) :=
  (fn_ok2 ownT mix (tab79_ok N) Tryz.func79 s79 w79 [0] (cuts := []) trivial (fun _ => by kernel_rfl) (by decide +kernel) (F79 N) (fun x => by kernel_rfl))
@[reducible] def s108 : SP := ⟨[.adr 0 [], .int .i64, .agg [.int .i64, .int .i64, .bool, .bool, .int .i64, .int .i64, .int .i64, .int .i64, .int .i64, .int .i64], .int .i64, .int .i64, .str], [.var 162 (.agg [.agg [.agg [.agg [.bool, .str], .int .i64]]])]⟩
noncomputable def tab108 (N : Nat) : List (Nat × (Pk → Tr Pk)) := [(79, T79 N)]
theorem tab108_ok (N : Nat) : TabOK Tryz.prog (tab108 N) := ⟨T79_ok N, trivial⟩
@[reducible] def w108 : List SP := [⟨[.tup [.sl 1, .int .i64, .int .i64]], [.var 162 (.agg [.agg [.agg [.agg [.bool, .str], .int .i64]]]), .row (.int .i64) 3]⟩]
noncomputable def F108 (N : Nat) : (Int × Int × Int × Bool × Bool × Int × Int × Int × Int × Int × Int × Int × Int × ByteArray × Bool × ByteArray × Int) → Option (Int × Int × Bool × ByteArray × Int × (List Int))
  | (x0, x1, x2, x3, x4, x5, x6, x7, x8, x9, x10, x11, x12, x13, x14, x15, x16) =>
  iteP (x0 == (0 : Int)) (
    none) (
    iteP (x0 == (2 : Int)) (
      none) (
      iteP (x0 == (5 : Int)) (
        none) (
        iteP (x0 == (16 : Int)) (
          Option.bind (F79 N (x1, x2, x3, x4, x5, x6, x7, x8, x9, x10, x11, x12, x13, x14, x15, x16)) fun (y0_0, y0_1, y0_2, y0_3, y0_4, y0_5) =>
          some ((y0_0, y0_1, y0_2, y0_3, y0_4, y0_5))) (
          iteP (x0 == (-260 : Int)) (
            none) (
            some (((0 : Int), (210 : Int), x14, x15, x16, [])))))))
noncomputable def T108 (N : Nat) : Pk → Tr Pk := tellS s108 w108 (F108 N)
theorem T108_ok (N : Nat) : FOK Tryz.prog (108) (T108 N) :=
  (fn_ok2 ownT mix (tab108_ok N) Tryz.func108 s108 w108 [0] (cuts := []) trivial (fun _ => by kernel_rfl) (by decide +kernel) (F108 N) (fun x => by kernel_rfl))
@[reducible] def s31 : SP := ⟨[.ro (.int .i64), .ro (.int .i64)], []⟩
noncomputable def tab31 (N : Nat) : List (Nat × (Pk → Tr Pk)) := []
theorem tab31_ok (N : Nat) : TabOK Tryz.prog (tab31 N) := trivial
@[reducible] def L31_58 : LD := ⟨58, [0, 1, 5], [(.ret, [4]), (.exit 0, [])], ⟨[.ro (.int .i64), .ro (.int .i64), .int .i64], []⟩, [(.ret, ⟨[.bool], []⟩), (.exit 0, ⟨[], []⟩)]⟩
abbrev P31_58 : Type := (List Int) × (List Int) × Int
abbrev R31_58 : Type := ((Bool) ⊕ (Unit))
noncomputable def B31_58 (N : Nat) (f : P31_58 → Option R31_58) : P31_58 → Option R31_58
  | (x0, x1, x2) =>
  iteP (decide (x2 < (↑(List.length x0) : Int))) (
    iteP (within x2 (List.length x0)) (
      Option.bind (x0[Int.toNat x2]?) fun y0 =>
      iteP (within x2 (List.length x1)) (
        Option.bind (x1[Int.toNat x2]?) fun y1 =>
        iteP (y0 != y1) (
          some (.inl (false))) (
          Option.bind (f (x0, x1, IntKind.wrap IntKind.i64 (x2 + (1 : Int)))) fun r => match r with | .inl y => some (.inl y) | .inr y => some (.inr y))) (
        none )) (
      none )) (
    some (.inr (())))
noncomputable def F31_58 (N : Nat) : Nat → P31_58 → Option R31_58
  | 0, _ => none
  | k + 1, x => B31_58 N (F31_58 N k) x
noncomputable def C31_58 (N : Nat) (k : Nat) : Cut := L31_58.cut (F31_58 N k)
theorem C31_58_ok (N : Nat) (k : Nat) : CutAt Tryz.prog false Tryz.f31 [] 58 (C31_58 N k) :=
  L31_58.loopT ownT mix (tab31_ok N) Tryz.f31 [] (cuts := []) trivial (by decide +kernel) (by kernel_rfl) (B31_58 N) (F31_58 N) (fun _ => rfl) (fun _ _ => rfl) (fun f x => by kernel_rfl) k
@[reducible] def w31 : List SP := [⟨[.bool], []⟩]
noncomputable def F31 (N : Nat) : ((List Int) × (List Int)) → Option (Bool)
  | (x0, x1) =>
  iteP ((↑(List.length x0) : Int) != (↑(List.length x1) : Int)) (
    some (false)) (
    Option.bind (F31_58 N N (x0, x1, (0 : Int))) fun y0 =>
    match y0 with
    | .inl y1 =>
      some (y1)
    | .inr y1 =>
      some (true))
noncomputable def T31 (N : Nat) : Pk → Tr Pk := tellS s31 w31 (F31 N)
theorem T31_ok (N : Nat) : FOK Tryz.prog (31) (T31 N) :=
  (fn_ok2 ownT mix (tab31_ok N) Tryz.func31 s31 w31 [] (cuts := [(58, C31_58 N N)]) ⟨C31_58_ok N N, trivial⟩ (fun _ => by kernel_rfl) (by decide +kernel) (F31 N) (fun x => by kernel_rfl))
@[reducible] def s49 : SP := ⟨[.int .i64], []⟩
noncomputable def tab49 (N : Nat) : List (Nat × (Pk → Tr Pk)) := []
theorem tab49_ok (N : Nat) : TabOK Tryz.prog (tab49 N) := trivial
@[reducible] def w49 : List SP := [⟨[.bool], []⟩]
noncomputable def F49 (N : Nat) : (Int) → Option (Bool)
  | x0 =>
  iteP (x0 == (0 : Int)) (
    some (true)) (
    iteP (x0 == (2 : Int)) (
      some (true)) (
      iteP (x0 == (5 : Int)) (
        some (true)) (
        iteP (x0 == (16 : Int)) (
          some (true)) (
          iteP (x0 == (-260 : Int)) (
            some (true)) (
            some (false))))))
noncomputable def T49 (N : Nat) : Pk → Tr Pk := tellS s49 w49 (F49 N)
theorem T49_ok (N : Nat) : FOK Tryz.prog (49) (T49 N) :=
  (fn_ok2 ownT mix (tab49_ok N) Tryz.func49 s49 w49 [] (cuts := []) trivial (fun _ => by kernel_rfl) (by decide +kernel) (F49 N) (fun x => by kernel_rfl))
@[reducible] def s180 : SP := ⟨[.ro (.int .i64), .int .i64], []⟩
noncomputable def tab180 (N : Nat) : List (Nat × (Pk → Tr Pk)) := []
theorem tab180_ok (N : Nat) : TabOK Tryz.prog (tab180 N) := trivial
@[reducible] def L180_26 : LD := ⟨26, [7, 1, 0, 8], [(.ret, [4]), (.exit 0, [])], ⟨[.int .i64, .int .i64, .ro (.int .i64), .int .i64], []⟩, [(.ret, ⟨[.int .i64], []⟩), (.exit 0, ⟨[], []⟩)]⟩
abbrev P180_26 : Type := Int × Int × (List Int) × Int
abbrev R180_26 : Type := ((Int) ⊕ (Unit))
noncomputable def B180_26 (N : Nat) (f : P180_26 → Option R180_26) : P180_26 → Option R180_26
  | (x0, x1, x2, x3) =>
  iteP (decide (x3 < x0)) (
    iteP (within x3 (List.length x2)) (
      Option.bind (x2[Int.toNat x3]?) fun y0 =>
      iteP (x1 == y0) (
        some (.inl (x3))) (
        Option.bind (f (x0, x1, x2, IntKind.wrap IntKind.i64 (x3 + (1 : Int)))) fun r => match r with | .inl y => some (.inl y) | .inr y => some (.inr y))) (
      none )) (
    some (.inr (())))
noncomputable def F180_26 (N : Nat) : Nat → P180_26 → Option R180_26
  | 0, _ => none
  | k + 1, x => B180_26 N (F180_26 N k) x
noncomputable def C180_26 (N : Nat) (k : Nat) : Cut := L180_26.cut (F180_26 N k)
theorem C180_26_ok (N : Nat) (k : Nat) : CutAt Tryz.prog false Tryz.f180 [] 26 (C180_26 N k) :=
  L180_26.loopT ownT mix (tab180_ok N) Tryz.f180 [] (cuts := []) trivial (by decide +kernel) (by kernel_rfl) (B180_26 N) (F180_26 N) (fun _ => rfl) (fun _ _ => rfl) (fun f x => by kernel_rfl) k
@[reducible] def w180 : List SP := [⟨[.int .i64], []⟩]
noncomputable def F180 (N : Nat) : ((List Int) × Int) → Option (Int)
  | (x0, x1) =>
  Option.bind (F180_26 N N ((↑(List.length x0) : Int), x1, x0, (0 : Int))) fun y0 =>
  match y0 with
  | .inl y1 =>
    some (y1)
  | .inr y1 =>
    some ((-1 : Int))
noncomputable def T180 (N : Nat) : Pk → Tr Pk := tellS s180 w180 (F180 N)
theorem T180_ok (N : Nat) : FOK Tryz.prog (180) (T180 N) :=
  (fn_ok2 ownT mix (tab180_ok N) Tryz.func180 s180 w180 [] (cuts := [(26, C180_26 N N)]) ⟨C180_26_ok N N, trivial⟩ (fun _ => by kernel_rfl) (by decide +kernel) (F180 N) (fun x => by kernel_rfl))
@[reducible] def s110 : SP := ⟨[.ro (.int .i64), .int .i64], []⟩
noncomputable def tab110 (N : Nat) : List (Nat × (Pk → Tr Pk)) := [(180, T180 N)]
theorem tab110_ok (N : Nat) : TabOK Tryz.prog (tab110 N) := ⟨T180_ok N, trivial⟩
@[reducible] def w110 : List SP := [⟨[.bool], []⟩]
noncomputable def F110 (N : Nat) : ((List Int) × Int) → Option (Bool)
  | (x0, x1) =>
  Option.bind (F180 N (x0, x1)) fun y0 =>
  some (decide (y0 ≥ (0 : Int)))
noncomputable def T110 (N : Nat) : Pk → Tr Pk := tellS s110 w110 (F110 N)
theorem T110_ok (N : Nat) : FOK Tryz.prog (110) (T110 N) :=
  (fn_ok2 ownT mix (tab110_ok N) Tryz.func110 s110 w110 [] (cuts := []) trivial (fun _ => by kernel_rfl) (by decide +kernel) (F110 N) (fun x => by kernel_rfl))
@[reducible] def s51 : SP := ⟨[.ro (.int .i64), .int .i64], []⟩
noncomputable def tab51 (N : Nat) : List (Nat × (Pk → Tr Pk)) := [(110, T110 N)]
theorem tab51_ok (N : Nat) : TabOK Tryz.prog (tab51 N) := ⟨T110_ok N, trivial⟩
@[reducible] def w51 : List SP := [⟨[.bool], []⟩]
noncomputable def F51 (N : Nat) : ((List Int) × Int) → Option (Bool)
  | (x0, x1) =>
  iteP (x1 == (0 : Int)) (
    some (true)) (
    Option.bind (F110 N (x0, x1)) fun y0 =>
    some (y0))
noncomputable def T51 (N : Nat) : Pk → Tr Pk := tellS s51 w51 (F51 N)
theorem T51_ok (N : Nat) : FOK Tryz.prog (51) (T51 N) :=
  (fn_ok2 ownT mix (tab51_ok N) Tryz.func51 s51 w51 [] (cuts := []) trivial (fun _ => by kernel_rfl) (by decide +kernel) (F51 N) (fun x => by kernel_rfl))
@[reducible] def s109a : SP := ⟨[.ro (.int .i64), .fn 49], []⟩
noncomputable def tab109a (N : Nat) : List (Nat × (Pk → Tr Pk)) := [(49, T49 N)]
theorem tab109a_ok (N : Nat) : TabOK Tryz.prog (tab109a N) := ⟨T49_ok N, trivial⟩
@[reducible] def L109a_26 : LD := ⟨26, [7, 1, 0, 8], [(.ret, [4]), (.exit 0, [])], ⟨[.int .i64, .fn 49, .ro (.int .i64), .int .i64], []⟩, [(.ret, ⟨[.int .i64], []⟩), (.exit 0, ⟨[], []⟩)]⟩
abbrev P109a_26 : Type := Int × (List Int) × Int
abbrev R109a_26 : Type := ((Int) ⊕ (Unit))
noncomputable def B109a_26 (N : Nat) (f : P109a_26 → Option R109a_26) : P109a_26 → Option R109a_26
  | (x0, x1, x2) =>
  iteP (decide (x2 < x0)) (
    iteP (within x2 (List.length x1)) (
      Option.bind (x1[Int.toNat x2]?) fun y0 =>
      Option.bind (F49 N y0) fun y1 =>
      iteP (y1) (
        some (.inl (x2))) (
        Option.bind (f (x0, x1, IntKind.wrap IntKind.i64 (x2 + (1 : Int)))) fun r => match r with | .inl y => some (.inl y) | .inr y => some (.inr y))) (
      none )) (
    some (.inr (())))
noncomputable def F109a_26 (N : Nat) : Nat → P109a_26 → Option R109a_26
  | 0, _ => none
  | k + 1, x => B109a_26 N (F109a_26 N k) x
noncomputable def C109a_26 (N : Nat) (k : Nat) : Cut := L109a_26.cut (F109a_26 N k)
theorem C109a_26_ok (N : Nat) (k : Nat) : CutAt Tryz.prog false Tryz.f109 [] 26 (C109a_26 N k) :=
  L109a_26.loopT ownT mix (tab109a_ok N) Tryz.f109 [] (cuts := []) trivial (by decide +kernel) (by kernel_rfl) (B109a_26 N) (F109a_26 N) (fun _ => rfl) (fun _ _ => rfl) (fun f x => by kernel_rfl) k
@[reducible] def w109a : List SP := [⟨[.int .i64], []⟩]
noncomputable def F109a (N : Nat) : ((List Int)) → Option (Int)
  | x0 =>
  Option.bind (F109a_26 N N ((↑(List.length x0) : Int), x0, (0 : Int))) fun y0 =>
  match y0 with
  | .inl y1 =>
    some (y1)
  | .inr y1 =>
    some ((-1 : Int))
noncomputable def T109a (N : Nat) : Pk → Tr Pk := tellS s109a w109a (F109a N)
theorem T109a_ok (N : Nat) : FOK Tryz.prog (109) (T109a N) :=
  (fn_ok2 ownT mix (tab109a_ok N) Tryz.func109 s109a w109a [] (cuts := [(26, C109a_26 N N)]) ⟨C109a_26_ok N N, trivial⟩ (fun _ => by kernel_rfl) (by decide +kernel) (F109a N) (fun x => by kernel_rfl))
@[reducible] def s48 : SP := ⟨[.ro (.int .i64), .int .i64], []⟩
noncomputable def tab48 (N : Nat) : List (Nat × (Pk → Tr Pk)) := [(49, T49 N), (51, T51 N), (109, T109a N)]
theorem tab48_ok (N : Nat) : TabOK Tryz.prog (tab48 N) := ⟨T49_ok N, T51_ok N, T109a_ok N, trivial⟩
@[reducible] def w48 : List SP := [⟨[.int .i64], []⟩]
noncomputable def F48 (N : Nat) : ((List Int) × Int) → Option (Int)
  | (x0, x1) =>
  Option.bind (F49 N x1) fun y0 =>
  iteP (y0) (
    Option.bind (F51 N (x0, x1)) fun y1 =>
    iteP (y1) (
      some (x1)) (
      Option.bind (F109a N x0) fun y2 =>
      iteP (decide (y2 ≥ (0 : Int))) (
        iteP (within y2 (List.length x0)) (
          Option.bind (x0[Int.toNat y2]?) fun y3 =>
          some (y3)) (
          none )) (
        some ((0 : Int))))) (
    Option.bind (F109a N x0) fun y4 =>
    iteP (decide (y4 ≥ (0 : Int))) (
      iteP (within y4 (List.length x0)) (
        Option.bind (x0[Int.toNat y4]?) fun y5 =>
        some (y5)) (
        none )) (
      some ((0 : Int))))
noncomputable def T48 (N : Nat) : Pk → Tr Pk := tellS s48 w48 (F48 N)
theorem T48_ok (N : Nat) : FOK Tryz.prog (48) (T48 N) :=
  (fn_ok2 ownT mix (tab48_ok N) Tryz.func48 s48 w48 [] (cuts := []) trivial (fun _ => by kernel_rfl) (by decide +kernel) (F48 N) (fun x => by kernel_rfl))
@[reducible] def s47 : SP := ⟨[], []⟩
noncomputable def tab47 (N : Nat) : List (Nat × (Pk → Tr Pk)) := [(102, T102 N), (107, T107 N), (108, T108 N), (31, T31 N), (48, T48 N)]
theorem tab47_ok (N : Nat) : TabOK Tryz.prog (tab47 N) := ⟨T102_ok N, T107_ok N, T108_ok N, T31_ok N, T48_ok N, trivial⟩
@[reducible] def w47 : List SP := [⟨[.bool], []⟩]
noncomputable def F47 (N : Nat) : (Unit) → Option (Bool)
  | () =>
  Option.bind (F102 N ()) fun (y0_0, y0_1, y0_2, y0_3, y0_4, y0_5, y0_6, y0_7, y0_8, y0_9) =>
  Option.bind (F107 N ((16 : Int), y0_0, y0_1, y0_2, y0_3, y0_4, y0_5, y0_6, y0_7, y0_8, y0_9, (1 : Int), (1 : Int), false, ByteArray.mk #[], [(7 : Int)])) fun y1 =>
  Option.bind (F108 N ((16 : Int), y0_0, y0_1, y0_2, y0_3, y0_4, y0_5, y0_6, y0_7, y0_8, y0_9, (1 : Int), (1 : Int), y1.1, false, ByteArray.mk #[], (0 : Int))) fun (y2_0, y2_1, y2_2, y2_3, y2_4, y2_5) =>
  Option.bind (F31 N (y2_5, [(7 : Int)])) fun y3 =>
  Option.bind (F48 N ([(7 : Int), (5 : Int), (16 : Int)], (2 : Int))) fun y4 =>
  iteP (y4 == (5 : Int)) (
    Option.bind (F48 N ([(7 : Int), (5 : Int), (16 : Int)], (16 : Int))) fun y5 =>
    iteP (y5 == (16 : Int)) (
      Option.bind (F48 N ([], (5 : Int))) fun y6 =>
      iteP (y6 == (0 : Int)) (
        iteP (y1.2.1 == (0 : Int)) (
          iteP (y2_1 == (0 : Int)) (
            iteP (y3) (
              some (y2_0 == (↑(ByteArray.size y1.1) : Int))) (
              some (false))) (
            some (false))) (
          some (false))) (
        some (false))) (
      some (false))) (
    some (false))
noncomputable def T47 (N : Nat) : Pk → Tr Pk := tellS s47 w47 (F47 N)
theorem T47_ok (N : Nat) : FOK Tryz.prog (47) (T47 N) :=
  (fn_ok2 ownT mix (tab47_ok N) Tryz.func47 s47 w47 [] (cuts := []) trivial (fun _ => by kernel_rfl) (by decide +kernel) (F47 N) (fun x => by kernel_rfl))
@[reducible] def s14 : SP := ⟨[.ro (.int .i64), .ro (.int .i64), .int .i64], []⟩
noncomputable def tab14 (N : Nat) : List (Nat × (Pk → Tr Pk)) := [(47, T47 N), (49, T49 N), (48, T48 N), (51, T51 N)]
theorem tab14_ok (N : Nat) : TabOK Tryz.prog (tab14 N) := ⟨T47_ok N, T49_ok N, T48_ok N, T51_ok N, trivial⟩
@[reducible] def L14_4090 : LD := ⟨4090, [9, 10, 2, 7, 1, 8, 0], [(.ret, [6]), (.exit 0, [8, 0, 1, 9, 7, 2])], ⟨[.bool, .int .i64, .int .i64, .bool, .ro (.int .i64), .sl 0, .ro (.int .i64)], [.row (.int .i64) 3]⟩, [(.exit 0, ⟨[.sl 0, .ro (.int .i64), .ro (.int .i64), .bool, .bool, .int .i64], [.row (.int .i64) 3]⟩)]⟩
abbrev P14_4090 : Type := Bool × Int × Int × Bool × (List Int) × (List Int) × (List Int)
abbrev R14_4090 : Type := (List Int) × (List Int) × Bool × Bool × Int × (List Int)
noncomputable def B14_4090 (N : Nat) (f : P14_4090 → Option R14_4090) : P14_4090 → Option R14_4090
  | (x0, x1, x2, x3, x4, x5, x6) =>
  iteP (decide (x1 < (↑(List.length x5) : Int))) (
    iteP (x0) (
      Option.bind (f (true, IntKind.wrap IntKind.i64 (x1 + (1 : Int)), x2, x3, x4, x5, x6)) fun r => some r) (
      iteP (within x1 (List.length x5)) (
        Option.bind (x5[Int.toNat x1]?) fun y0 =>
        Option.bind (F49 N y0) fun y1 =>
        Option.bind (f (y1, IntKind.wrap IntKind.i64 (x1 + (1 : Int)), x2, x3, x4, x5, x6)) fun r => some r) (
        none ))) (
    some ((x5, x4, x0, x3, x2, x6)))
noncomputable def F14_4090 (N : Nat) : Nat → P14_4090 → Option R14_4090
  | 0, _ => none
  | k + 1, x => B14_4090 N (F14_4090 N k) x
noncomputable def C14_4090 (N : Nat) (k : Nat) : Cut := L14_4090.cut (F14_4090 N k)
theorem C14_4090_ok (N : Nat) (k : Nat) : CutAt Tryz.prog false Tryz.f14 [] 4090 (C14_4090 N k) :=
  L14_4090.loopT ownT mix (tab14_ok N) Tryz.f14 [] (cuts := []) trivial (by decide +kernel) (by kernel_rfl) (B14_4090 N) (F14_4090 N) (fun _ => rfl) (fun _ _ => rfl) (fun f x => by kernel_rfl) k
@[reducible] def L14_31 : LD := ⟨31, [2, 7, 1, 0], [(.ret, [6]), (.normal, [6])], ⟨[.int .i64, .bool, .ro (.int .i64), .ro (.int .i64)], []⟩, [(.ret, ⟨[.bool], []⟩)]⟩
noncomputable def F14_31 (N : Nat) : (Int × Bool × (List Int) × (List Int)) → Option (Bool)
  | (x0, x1, x2, x3) =>
  iteP (decide (((0 : Nat) + List.length x3) * (8 : Nat) ≤ (140737488355328 : Nat) ∧ (0 : Nat) + List.length x3 ≤ (140737488355328 : Nat))) (
    iteP (decide ((List.length x3 + List.length x2) * (8 : Nat) ≤ (140737488355328 : Nat) ∧ List.length x3 + List.length x2 ≤ (140737488355328 : Nat))) (
      Option.bind (F14_4090 N N (false, (0 : Int), x0, x1, x2, x3, x3 ++ x2)) fun (y0_0, y0_1, y0_2, y0_3, y0_4, y0_5) =>
      Option.bind (F48 N (y0_5, y0_4)) fun y1 =>
      Option.bind (F49 N y0_4) fun y2 =>
      iteP (y2) (
        Option.bind (F51 N (y0_5, y0_4)) fun y3 =>
        iteP (y3) (
          iteP (y0_3) (
            some (y1 == y0_4)) (
            some (false))) (
          iteP (y0_2) (
            iteP (y0_3) (
              Option.bind (F48 N (y0_0, y0_4)) fun y4 =>
              some (y1 == y4)) (
              some (false))) (
            iteP (y0_3) (
              Option.bind (F48 N (y0_1, y0_4)) fun y5 =>
              some (y1 == y5)) (
              some (false))))) (
        iteP (y0_2) (
          iteP (y0_3) (
            Option.bind (F48 N (y0_0, y0_4)) fun y6 =>
            some (y1 == y6)) (
            some (false))) (
          iteP (y0_3) (
            Option.bind (F48 N (y0_1, y0_4)) fun y7 =>
            some (y1 == y7)) (
            some (false))))) (
      none )) (
    none )
noncomputable def C14_31 (N : Nat) (_ : Nat) : Cut := L14_31.cut (F14_31 N)
theorem C14_31_ok (N : Nat) (k : Nat) : CutAt Tryz.prog false Tryz.f14 [] 31 (C14_31 N k) :=
  L14_31.pieceT ownT mix (tab14_ok N) Tryz.f14 [] (cuts := [(4090, C14_4090 N N)]) ⟨C14_4090_ok N N, trivial⟩ (by decide +kernel) (by kernel_rfl) (F14_31 N) (fun x => by kernel_rfl)
@[reducible] def w14 : List SP := [⟨[.bool], []⟩]
noncomputable def F14 (N : Nat) : ((List Int) × (List Int) × Int) → Option (Bool)
  | (x0, x1, x2) =>
  Option.bind (F47 N ()) fun y0 =>
  iteP (!y0) (
    some (false)) (
    iteP (decide ((↑(List.length x0) : Int) > (400 : Int))) (
      some (y0)) (
      iteP (decide ((↑(List.length x1) : Int) > (400 : Int))) (
        some (y0)) (
        Option.bind (F14_31 N (x2, y0, x1, x0)) fun y1 =>
        some (y1))))
noncomputable def T14 (N : Nat) : Pk → Tr Pk := tellS s14 w14 (F14 N)
theorem T14_ok (N : Nat) : FOK Tryz.prog (14) (T14 N) :=
  (fn_ok2 ownT mix (tab14_ok N) Tryz.func14 s14 w14 [] (cuts := [(4090, C14_4090 N N), (31, C14_31 N N)]) ⟨C14_4090_ok N N, C14_31_ok N N, trivial⟩ (fun _ => by kernel_rfl) (by decide +kernel) (F14 N) (fun x => by kernel_rfl))
end Go.Proofs.YtfcamlibbfnldaaGreat.Am
