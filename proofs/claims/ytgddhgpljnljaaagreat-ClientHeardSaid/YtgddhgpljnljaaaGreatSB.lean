/- The seat's Go functions come to the Lean functions written here, wherever these give an answer (part B). -/
import Derived.Test.YtgddhgpljnljaaaGreatSA
set_option linter.unusedSimpArgs false
set_option linter.unusedVariables false
set_option linter.unusedSectionVars false
set_option maxRecDepth 100000
namespace Go.Proofs.YtgddhgpljnljaaaGreat.Am
open Go.Am
@[reducible] def s136 : SP := ⟨[.int .i64], []⟩
noncomputable def tab136 (N : Nat) : List (Nat × (Pk → Tr Pk)) := []
theorem tab136_ok (N : Nat) : TabOK Tryz.prog (tab136 N) := trivial
@[reducible] def w136 : List SP := [⟨[.bool], []⟩]
noncomputable def F136 (N : Nat) : (Int) → Option (Bool)
  | x0 =>
  iteP (decide ((0 : Int) ≤ x0)) (
    some (decide (x0 ≤ (4096 : Int)))) (
    some (false))
noncomputable def T136 (N : Nat) : Pk → Tr Pk := tellS s136 w136 (F136 N)
theorem T136_ok (N : Nat) : FOK Tryz.prog (136) (T136 N) :=
  (fn_ok2 ownT mix (tab136_ok N) Tryz.func136 s136 w136 [] (cuts := []) trivial (fun _ => by kernel_rfl) (by decide +kernel) (F136 N) (fun x => by kernel_rfl))
@[reducible] def s122 : SP := ⟨[.agg [.int .i64, .int .i64, .bool, .bool, .int .i64, .int .i64, .int .i64, .int .i64, .int .i64, .int .i64], .int .i64, .int .i64], []⟩
noncomputable def tab122 (N : Nat) : List (Nat × (Pk → Tr Pk)) := [(6, T6 N), (136, T136 N)]
theorem tab122_ok (N : Nat) : TabOK Tryz.prog (tab122 N) := ⟨T6_ok N, T136_ok N, trivial⟩
@[reducible] def w122 : List SP := [⟨[.bool], []⟩]
noncomputable def F122 (N : Nat) : (Int × Int × Bool × Bool × Int × Int × Int × Int × Int × Int × Int × Int) → Option (Bool)
  | (x0, x1, x2, x3, x4, x5, x6, x7, x8, x9, x10, x11) =>
  Option.bind (F6 N (x0, x1, x2, x3, x4, x5, x6, x7, x8, x9)) fun y0 =>
  iteP (y0) (
    Option.bind (F136 N x10) fun y1 =>
    iteP (y1) (
      Option.bind (F136 N x11) fun y2 =>
      some (y2)) (
      some (false))) (
    some (false))
noncomputable def T122 (N : Nat) : Pk → Tr Pk := tellS s122 w122 (F122 N)
theorem T122_ok (N : Nat) : FOK Tryz.prog (122) (T122 N) :=
  (fn_ok2 ownT mix (tab122_ok N) Tryz.func122 s122 w122 [] (cuts := []) trivial (fun _ => by kernel_rfl) (by decide +kernel) (F122 N) (fun x => by kernel_rfl))
@[reducible] def s123 : SP := ⟨[.agg [.int .i64, .int .i64, .bool, .bool, .int .i64, .int .i64, .int .i64, .int .i64, .int .i64, .int .i64]], []⟩
noncomputable def tab123 (N : Nat) : List (Nat × (Pk → Tr Pk)) := [(6, T6 N)]
theorem tab123_ok (N : Nat) : TabOK Tryz.prog (tab123 N) := ⟨T6_ok N, trivial⟩
@[reducible] def w123 : List SP := [⟨[.int .i64], []⟩]
noncomputable def F123 (N : Nat) : (Int × Int × Bool × Bool × Int × Int × Int × Int × Int × Int) → Option (Int)
  | (x0, x1, x2, x3, x4, x5, x6, x7, x8, x9) =>
  Option.bind (F6 N (x0, x1, x2, x3, x4, x5, x6, x7, x8, x9)) fun y0 =>
  iteP (!y0) (
    some ((0 : Int))) (
    some (IntKind.wrap IntKind.i64 (Int.tdiv x0 (8 : Int))))
noncomputable def T123 (N : Nat) : Pk → Tr Pk := tellS s123 w123 (F123 N)
theorem T123_ok (N : Nat) : FOK Tryz.prog (123) (T123 N) :=
  (fn_ok2 ownT mix (tab123_ok N) Tryz.func123 s123 w123 [] (cuts := []) trivial (fun _ => by kernel_rfl) (by decide +kernel) (F123 N) (fun x => by kernel_rfl))
@[reducible] def s137 : SP := ⟨[.agg [.int .i64, .int .i64, .bool, .bool, .int .i64, .int .i64, .int .i64, .int .i64, .int .i64, .int .i64], .int .i64, .str], []⟩
noncomputable def tab137 (N : Nat) : List (Nat × (Pk → Tr Pk)) := [(6, T6 N)]
theorem tab137_ok (N : Nat) : TabOK Tryz.prog (tab137 N) := ⟨T6_ok N, trivial⟩
@[reducible] def L137_122 : LD := ⟨122, [8, 21, 20, 1, 3, 2], [(.ret, [6, 7]), (.exit 1, [8])], ⟨[.int .i64, .int .i64, .int .i64, .int .i64, .adr 0 [], .str], [.var 23 (.agg [.int .i64, .int .i64, .bool, .bool, .int .i64, .int .i64, .int .i64, .int .i64, .int .i64, .int .i64])]⟩, [(.exit 1, ⟨[.int .i64], []⟩)]⟩
abbrev P137_122 : Type := Int × Int × Int × Int × ByteArray × Int × Int × Bool × Bool × Int × Int × Int × Int × Int × Int
abbrev R137_122 : Type := Int
noncomputable def B137_122 (N : Nat) (f : P137_122 → Option R137_122) : P137_122 → Option R137_122
  | (x0, x1, x2, x3, x4, x5, x6, x7, x8, x9, x10, x11, x12, x13, x14) =>
  iteP (decide (x1 < x2)) (
    iteP (x7) (
      iteP (decide ((0 : Int) ≤ x1)) (
        Option.bind (x4[Int.toNat x1]?) fun y0 =>
        Option.bind (f (IntKind.wrap IntKind.i64 (↑(BitVec.toNat (BitVec.ofInt (64 : Nat) (IntKind.wrap IntKind.i64 (x0 * (256 : Int))) ||| BitVec.ofInt (64 : Nat) (IntKind.wrap IntKind.i64 (↑(UInt8.toNat y0) : Int)))) : Int), IntKind.wrap IntKind.i64 (x1 + (1 : Int)), x2, x3, x4, x5, x6, x7, x8, x9, x10, x11, x12, x13, x14)) fun r => some r) (
        none )) (
      iteP (decide ((0 : Int) ≤ IntKind.wrap IntKind.i64 (IntKind.wrap IntKind.i64 (x3 - (1 : Int)) - x1))) (
        Option.bind (x4[Int.toNat (IntKind.wrap IntKind.i64 (IntKind.wrap IntKind.i64 (x3 - (1 : Int)) - x1))]?) fun y1 =>
        Option.bind (f (IntKind.wrap IntKind.i64 (↑(BitVec.toNat (BitVec.ofInt (64 : Nat) (IntKind.wrap IntKind.i64 (x0 * (256 : Int))) ||| BitVec.ofInt (64 : Nat) (IntKind.wrap IntKind.i64 (↑(UInt8.toNat y1) : Int)))) : Int), IntKind.wrap IntKind.i64 (x1 + (1 : Int)), x2, x3, x4, x5, x6, x7, x8, x9, x10, x11, x12, x13, x14)) fun r => some r) (
        none ))) (
    some (x0))
noncomputable def F137_122 (N : Nat) : Nat → P137_122 → Option R137_122
  | 0, _ => none
  | k + 1, x => B137_122 N (F137_122 N k) x
noncomputable def C137_122 (N : Nat) (k : Nat) : Cut := L137_122.cut (F137_122 N k)
theorem C137_122_ok (N : Nat) (k : Nat) : CutAt Tryz.prog false Tryz.f137 [] 122 (C137_122 N k) :=
  L137_122.loopT ownT mix (tab137_ok N) Tryz.f137 [] (cuts := []) trivial (by decide +kernel) (by kernel_rfl) (B137_122 N) (F137_122 N) (fun _ => rfl) (fun _ _ => rfl) (fun f x => by kernel_rfl) k
@[reducible] def w137 : List SP := [⟨[.tup [.int .i64, .int .i64]], []⟩]
noncomputable def F137 (N : Nat) : (Int × Int × Bool × Bool × Int × Int × Int × Int × Int × Int × Int × ByteArray) → Option (Int × Int)
  | (x0, x1, x2, x3, x4, x5, x6, x7, x8, x9, x10, x11) =>
  Option.bind (F6 N (x0, x1, x2, x3, x4, x5, x6, x7, x8, x9)) fun y0 =>
  iteP (!y0) (
    some (((0 : Int), (130 : Int)))) (
    iteP (decide ((↑(ByteArray.size x11) : Int) < x10)) (
      some (((0 : Int), (2 : Int)))) (
      Option.bind (F137_122 N N ((0 : Int), (0 : Int), x10, x10, x11, x0, x1, x2, x3, x4, x5, x6, x7, x8, x9)) fun y1 =>
      some ((y1, (0 : Int)))))
noncomputable def T137 (N : Nat) : Pk → Tr Pk := tellS s137 w137 (F137 N)
theorem T137_ok (N : Nat) : FOK Tryz.prog (137) (T137 N) :=
  (fn_ok2 ownT mix (tab137_ok N) Tryz.func137 s137 w137 [] (cuts := [(122, C137_122 N N)]) ⟨C137_122_ok N N, trivial⟩ (fun _ => by kernel_rfl) (by decide +kernel) (F137 N) (fun x => by kernel_rfl))
@[reducible] def s124 : SP := ⟨[.agg [.int .i64, .int .i64, .bool, .bool, .int .i64, .int .i64, .int .i64, .int .i64, .int .i64, .int .i64], .str], []⟩
noncomputable def tab124 (N : Nat) : List (Nat × (Pk → Tr Pk)) := [(123, T123 N), (137, T137 N)]
theorem tab124_ok (N : Nat) : TabOK Tryz.prog (tab124 N) := ⟨T123_ok N, T137_ok N, trivial⟩
@[reducible] def w124 : List SP := [⟨[.tup [.int .i64, .int .i64]], []⟩]
noncomputable def F124 (N : Nat) : (Int × Int × Bool × Bool × Int × Int × Int × Int × Int × Int × ByteArray) → Option (Int × Int)
  | (x0, x1, x2, x3, x4, x5, x6, x7, x8, x9, x10) =>
  Option.bind (F123 N (x0, x1, x2, x3, x4, x5, x6, x7, x8, x9)) fun y0 =>
  Option.bind (F137 N (x0, x1, x2, x3, x4, x5, x6, x7, x8, x9, y0, x10)) fun y1 =>
  some ((y1.1, y1.2))
noncomputable def T124 (N : Nat) : Pk → Tr Pk := tellS s124 w124 (F124 N)
theorem T124_ok (N : Nat) : FOK Tryz.prog (124) (T124 N) :=
  (fn_ok2 ownT mix (tab124_ok N) Tryz.func124 s124 w124 [] (cuts := []) trivial (fun _ => by kernel_rfl) (by decide +kernel) (F124 N) (fun x => by kernel_rfl))
@[reducible] def s125 : SP := ⟨[.agg [.int .i64, .int .i64, .bool, .bool, .int .i64, .int .i64, .int .i64, .int .i64, .int .i64, .int .i64], .int .i64], []⟩
noncomputable def tab125 (N : Nat) : List (Nat × (Pk → Tr Pk)) := [(6, T6 N), (26, T26 N)]
theorem tab125_ok (N : Nat) : TabOK Tryz.prog (tab125 N) := ⟨T6_ok N, T26_ok N, trivial⟩
@[reducible] def L125_122 : LD := ⟨122, [5, 14, 13, 1], [(.ret, [4]), (.exit 0, [5])], ⟨[.int .i64, .int .i64, .arr y1 3, .int .i64], []⟩, [(.exit 0, ⟨[.int .i64], []⟩)]⟩
abbrev P125_122 : Type := Int × Int × (List (Int × (Int × Unit))) × Int
abbrev R125_122 : Type := Int
noncomputable def B125_122 (N : Nat) (f : P125_122 → Option R125_122) : P125_122 → Option R125_122
  | (x0, x1, x2, x3) =>
  iteP (decide (x1 < (3 : Int))) (
    iteP (within x1 (List.length x2)) (
      Option.bind (x2[Int.toNat x1]?) fun y0 =>
      iteP (decide (y0.2.1 < (0 : Int))) (
        none ) (
        iteP (decide (y0.1 = (0 : Int))) (
          none ) (
          Option.bind (f (IntKind.wrap IntKind.i64 (↑(BitVec.toNat (BitVec.ofInt (64 : Nat) (IntKind.wrap IntKind.i64 (x0 * (256 : Int))) ||| BitVec.ofInt (64 : Nat) (IntKind.wrap IntKind.i64 (Int.tdiv (IntKind.wrap IntKind.i64 (IntKind.wrap IntKind.i64 (IntKind.wrap IntKind.i64 (↑(BitVec.toNat (BitVec.ofInt (64 : Nat) (Int.fdiv x3 ((2 : Int) ^ min (Int.toNat y0.2.1) (64 : Nat))) &&& BitVec.ofInt (64 : Nat) y0.1)) : Int) * (255 : Int)) + IntKind.wrap IntKind.i64 (Int.tdiv y0.1 (2 : Int)))) y0.1)))) : Int), IntKind.wrap IntKind.i64 (x1 + (1 : Int)), x2, x3)) fun r => some r))) (
      none )) (
    some (x0))
noncomputable def F125_122 (N : Nat) : Nat → P125_122 → Option R125_122
  | 0, _ => none
  | k + 1, x => B125_122 N (F125_122 N k) x
noncomputable def C125_122 (N : Nat) (k : Nat) : Cut := L125_122.cut (F125_122 N k)
theorem C125_122_ok (N : Nat) (k : Nat) : CutAt Tryz.prog false Tryz.f125 [] 122 (C125_122 N k) :=
  L125_122.loopT ownT mix (tab125_ok N) Tryz.f125 [] (cuts := []) trivial (by decide +kernel) (by kernel_rfl) (B125_122 N) (F125_122 N) (fun _ => rfl) (fun _ _ => rfl) (fun f x => by kernel_rfl) k
@[reducible] def w125 : List SP := [⟨[.int .i64], []⟩]
noncomputable def F125 (N : Nat) : (Int × Int × Bool × Bool × Int × Int × Int × Int × Int × Int × Int) → Option (Int)
  | (x0, x1, x2, x3, x4, x5, x6, x7, x8, x9, x10) =>
  Option.bind (F6 N (x0, x1, x2, x3, x4, x5, x6, x7, x8, x9)) fun y0 =>
  iteP (!y0) (
    some ((0 : Int))) (
    Option.bind (F26 N (x0, x1, x2, x3, x4, x5, x6, x7, x8, x9)) fun y1 =>
    Option.bind (F125_122 N N ((0 : Int), (0 : Int), y1, x10)) fun y2 =>
    some (y2))
noncomputable def T125 (N : Nat) : Pk → Tr Pk := tellS s125 w125 (F125 N)
theorem T125_ok (N : Nat) : FOK Tryz.prog (125) (T125 N) :=
  (fn_ok2 ownT mix (tab125_ok N) Tryz.func125 s125 w125 [] (cuts := [(122, C125_122 N N)]) ⟨C125_122_ok N N, trivial⟩ (fun _ => by kernel_rfl) (by decide +kernel) (F125 N) (fun x => by kernel_rfl))
@[reducible] def s113 : SP := ⟨[.agg [.int .i64, .int .i64, .bool, .bool, .int .i64, .int .i64, .int .i64, .int .i64, .int .i64, .int .i64], .int .i64, .int .i64, .str], []⟩
noncomputable def tab113 (N : Nat) : List (Nat × (Pk → Tr Pk)) := [(122, T122 N), (74, T74 N), (123, T123 N), (78, T78 N), (67, T67 N), (124, T124 N), (125, T125 N), (75, T75 N)]
theorem tab113_ok (N : Nat) : TabOK Tryz.prog (tab113 N) := ⟨T122_ok N, T74_ok N, T123_ok N, T78_ok N, T67_ok N, T124_ok N, T125_ok N, T75_ok N, trivial⟩
@[reducible] def L113_508 : LD := ⟨508, [14, 12, 11, 4], [(.ret, [8, 9, 10]), (.exit 0, [14, 11])], ⟨[.sl 0, .str, .adr 1 [], .adr 2 []], [.row (.int .i64) 3, .var 142 (.agg [.str, .int .i64, .int .i64]), .var 23 (.agg [.int .i64, .int .i64, .bool, .bool, .int .i64, .int .i64, .int .i64, .int .i64, .int .i64, .int .i64])]⟩, [(.exit 0, ⟨[.sl 0, .adr 1 []], [.row (.int .i64) 3, .var 142 (.agg [.str, .int .i64, .int .i64])]⟩)]⟩
abbrev P113_508 : Type := ByteArray × (List Int) × ByteArray × Int × Int × Int × Int × Bool × Bool × Int × Int × Int × Int × Int × Int
abbrev R113_508 : Type := (List Int) × ByteArray × Int × Int
noncomputable def B113_508 (N : Nat) (f : P113_508 → Option R113_508) : P113_508 → Option R113_508
  | (x0, x1, x2, x3, x4, x5, x6, x7, x8, x9, x10, x11, x12, x13, x14) =>
  iteP (decide ((↑(ByteArray.size x0) : Int) > (0 : Int))) (
    Option.bind (F124 N (x5, x6, x7, x8, x9, x10, x11, x12, x13, x14, x0)) fun y0 =>
    Option.bind (F125 N (x5, x6, x7, x8, x9, x10, x11, x12, x13, x14, y0.1)) fun y1 =>
    iteP (decide ((List.length x1 + List.length [y1]) * (8 : Nat) ≤ (140737488355328 : Nat) ∧ List.length x1 + List.length [y1] ≤ (140737488355328 : Nat))) (
      Option.bind (F123 N (x5, x6, x7, x8, x9, x10, x11, x12, x13, x14)) fun y2 =>
      iteP (decide ((0 : Int) ≤ y2 ∧ y2 ≤ (↑(ByteArray.size x0) : Int))) (
        Option.bind (f (ByteArray.extract x0 (Int.toNat y2) (ByteArray.size x0), x1 ++ [y1], x2, x3, x4, x5, x6, x7, x8, x9, x10, x11, x12, x13, x14)) fun r => some r) (
        none )) (
      none )) (
    some ((x1, x2, x3, x4)))
noncomputable def F113_508 (N : Nat) : Nat → P113_508 → Option R113_508
  | 0, _ => none
  | k + 1, x => B113_508 N (F113_508 N k) x
noncomputable def C113_508 (N : Nat) (k : Nat) : Cut := L113_508.cut (F113_508 N k)
theorem C113_508_ok (N : Nat) (k : Nat) : CutAt Tryz.prog false Tryz.f113 [] 508 (C113_508 N k) :=
  L113_508.loopT ownT mix (tab113_ok N) Tryz.f113 [] (cuts := []) trivial (by decide +kernel) (by kernel_rfl) (B113_508 N) (F113_508 N) (fun _ => rfl) (fun _ _ => rfl) (fun f x => by kernel_rfl) k
@[reducible] def w113 : List SP := [⟨[.tup [.sl 0, .int .i64, .int .i64]], [.row (.int .i64) 3]⟩]
noncomputable def F113 (N : Nat) : (Int × Int × Bool × Bool × Int × Int × Int × Int × Int × Int × Int × Int × ByteArray) → Option (Int × Int × (List Int))
  | (x0, x1, x2, x3, x4, x5, x6, x7, x8, x9, x10, x11, x12) =>
  Option.bind (F122 N (x0, x1, x2, x3, x4, x5, x6, x7, x8, x9, x10, x11)) fun y0 =>
  iteP (!y0) (
    some (((0 : Int), (1 : Int), []))) (
    Option.bind (F74 N x12) fun y1 =>
    Option.bind (F123 N (x0, x1, x2, x3, x4, x5, x6, x7, x8, x9)) fun y2 =>
    Option.bind (F78 N (IntKind.wrap IntKind.i64 (IntKind.wrap IntKind.i64 (x10 * x11) * y2), y1.1, y1.2.1, y1.2.2)) fun y3 =>
    Option.bind (F67 N (y3.2.1, y3.2.2.1, y3.2.2.2, ())) fun y4 =>
    iteP (y4 != (0 : Int)) (
      some (((0 : Int), y4, []))) (
      Option.bind (F113_508 N N (y3.1, [], y3.2.1, y3.2.2.1, y3.2.2.2, x0, x1, x2, x3, x4, x5, x6, x7, x8, x9)) fun y5 =>
      Option.bind (F75 N (y5.2.1, y5.2.2.1, y5.2.2.2, ())) fun y6 =>
      some ((y6, (0 : Int), y5.1))))
noncomputable def T113 (N : Nat) : Pk → Tr Pk := tellS s113 w113 (F113 N)
theorem T113_ok (N : Nat) : FOK Tryz.prog (113) (T113 N) :=
  (fn_ok2 ownT mix (tab113_ok N) Tryz.func113 s113 w113 [] (cuts := [(508, C113_508 N N)]) ⟨C113_508_ok N N, trivial⟩ (fun _ => by kernel_rfl) (by decide +kernel) (F113 N) (fun x => by kernel_rfl))
@[reducible] def s106 : SP := ⟨[.adr 0 [.f 6 6], .int .i64, .agg [.int .i64, .int .i64, .bool, .bool, .int .i64, .int .i64, .int .i64, .int .i64, .int .i64, .int .i64], .int .i64, .int .i64, .str], [.var 74 (.agg [.adr 1 [], .str, .str, .fv, .int .i64, .agg [.sl 2], .agg [.agg [.agg [.agg [.bool, .str], .int .i64]]], .agg [.int .i64, .int .i64, .bool, .bool, .int .i64, .int .i64, .int .i64, .int .i64, .int .i64, .int .i64], .int .i64, .int .i64, .int .i64]), .var 112 (.agg [.int .i64, .int .i64, .sl 3]), .row y0 38, .row (.int .i64) 3]⟩
noncomputable def tab106 (N : Nat) : List (Nat × (Pk → Tr Pk)) := [(113, T113 N)]
theorem tab106_ok (N : Nat) : TabOK Tryz.prog (tab106 N) := ⟨T113_ok N, trivial⟩
@[reducible] def w106 : List SP := [⟨[.tup [.sl 2, .int .i64, .int .i64]], [.var 74 (.agg [.adr 1 [], .str, .str, .fv, .int .i64, .agg [.sl 3], .agg [.agg [.agg [.agg [.bool, .str], .int .i64]]], .agg [.int .i64, .int .i64, .bool, .bool, .int .i64, .int .i64, .int .i64, .int .i64, .int .i64, .int .i64], .int .i64, .int .i64, .int .i64]), .var 112 (.agg [.int .i64, .int .i64, .sl 4]), .row (.int .i64) 3, .row y0 38, .row (.int .i64) 3]⟩]
noncomputable def F106 (N : Nat) : (Int × Int × Int × Bool × Bool × Int × Int × Int × Int × Int × Int × Int × Int × ByteArray × ByteArray × ByteArray × Nat × Int × Bool × ByteArray × Int × Int × Int × Bool × Bool × Int × Int × Int × Int × Int × Int × Int × Int × Int × Int × Int × (List (Int × (Bool × (Int × ((Int × (Int × (Int × (Int × Unit)))) × ((Int × (Int × (Bool × (Bool × (Int × (Int × (Int × (Int × (Int × (Int × Unit)))))))))) × ((List Int) × (ByteArray × Unit)))))))) × (List Int)) → Option (Int × Int × ByteArray × ByteArray × Nat × Int × Bool × ByteArray × Int × Int × Int × Bool × Bool × Int × Int × Int × Int × Int × Int × Int × Int × Int × Int × Int × (List Int) × (List (Int × (Bool × (Int × ((Int × (Int × (Int × (Int × Unit)))) × ((Int × (Int × (Bool × (Bool × (Int × (Int × (Int × (Int × (Int × (Int × Unit)))))))))) × ((List Int) × (ByteArray × Unit)))))))) × (List Int))
  | (x0, x1, x2, x3, x4, x5, x6, x7, x8, x9, x10, x11, x12, x13, x14, x15, x16, x17, x18, x19, x20, x21, x22, x23, x24, x25, x26, x27, x28, x29, x30, x31, x32, x33, x34, x35, x36, x37) =>
  iteP (x0 == (0 : Int)) (
    Option.bind (F113 N (x1, x2, x3, x4, x5, x6, x7, x8, x9, x10, x11, x12, x13)) fun y0 =>
    some ((y0.1, y0.2.1, x14, x15, x16, x17, x18, x19, x20, x21, x22, x23, x24, x25, x26, x27, x28, x29, x30, x31, x32, x33, x34, x35, y0.2.2, x36, x37))) (
    iteP (x0 == (2 : Int)) (
      none) (
      iteP (x0 == (5 : Int)) (
        none) (
        iteP (x0 == (16 : Int)) (
          none) (
          iteP (x0 == (-260 : Int)) (
            none) (
            some (((0 : Int), (210 : Int), x14, x15, x16, x17, x18, x19, x20, x21, x22, x23, x24, x25, x26, x27, x28, x29, x30, x31, x32, x33, x34, x35, [], x36, x37)))))))
noncomputable def T106 (N : Nat) : Pk → Tr Pk := tellS s106 w106 (F106 N)
theorem T106_ok (N : Nat) : FOK Tryz.prog (106) (T106 N) :=
  (fn_ok2 ownT mix (tab106_ok N) Tryz.func106 s106 w106 [0, 1] (cuts := []) trivial (fun _ => by kernel_rfl) (by decide +kernel) (F106 N) (fun x => by kernel_rfl))
@[reducible] def s97 : SP := ⟨[.adr 0 [], .agg [.agg [.int .i64, .int .i64, .int .i64, .int .i64], .int .i64], .str], [.var 74 (.agg [.adr 1 [], .str, .str, .fv, .int .i64, .agg [.sl 2], .agg [.agg [.agg [.agg [.bool, .str], .int .i64]]], .agg [.int .i64, .int .i64, .bool, .bool, .int .i64, .int .i64, .int .i64, .int .i64, .int .i64, .int .i64], .int .i64, .int .i64, .int .i64]), .var 112 (.agg [.int .i64, .int .i64, .sl 3]), .row y0 38, .row (.int .i64) 3]⟩
noncomputable def tab97 (N : Nat) : List (Nat × (Pk → Tr Pk)) := [(101, T101 N), (102, T102 N), (103, T103 N), (104, T104 N), (105, T105 N), (106, T106 N), (107, T107a N)]
theorem tab97_ok (N : Nat) : TabOK Tryz.prog (tab97 N) := ⟨T101_ok N, T102_ok N, T103_ok N, T104_ok N, T105_ok N, T106_ok N, T107a_ok N, trivial⟩
@[reducible] def w97 : List SP := [⟨[.tup [.int .i64, .int .i64]], [.var 74 (.agg [.adr 1 [], .str, .str, .fv, .int .i64, .agg [.sl 2], .agg [.agg [.agg [.agg [.bool, .str], .int .i64]]], .agg [.int .i64, .int .i64, .bool, .bool, .int .i64, .int .i64, .int .i64, .int .i64, .int .i64, .int .i64], .int .i64, .int .i64, .int .i64]), .var 112 (.agg [.int .i64, .int .i64, .sl 3]), .row y0 38, .row (.int .i64) 3]⟩]
noncomputable def F97 (N : Nat) : (Int × Int × Int × Int × Int × ByteArray × ByteArray × ByteArray × Nat × Int × Bool × ByteArray × Int × Int × Int × Bool × Bool × Int × Int × Int × Int × Int × Int × Int × Int × Int × Int × Int × (List (Int × (Bool × (Int × ((Int × (Int × (Int × (Int × Unit)))) × ((Int × (Int × (Bool × (Bool × (Int × (Int × (Int × (Int × (Int × (Int × Unit)))))))))) × ((List Int) × (ByteArray × Unit)))))))) × (List Int)) → Option (Int × Int × ByteArray × ByteArray × Nat × Int × Bool × ByteArray × Int × Int × Int × Bool × Bool × Int × Int × Int × Int × Int × Int × Int × Int × Int × Int × Int × (List (Int × (Bool × (Int × ((Int × (Int × (Int × (Int × Unit)))) × ((Int × (Int × (Bool × (Bool × (Int × (Int × (Int × (Int × (Int × (Int × Unit)))))))))) × ((List Int) × (ByteArray × Unit)))))))) × (List Int))
  | (x0, x1, x2, x3, x4, x5, x6, x7, x8, x9, x10, x11, x12, x13, x14, x15, x16, x17, x18, x19, x20, x21, x22, x23, x24, x25, x26, x27, x28, x29) =>
  iteP (x4 == (-223 : Int)) (
    Option.bind (F101 N (x2, x3, x26, x27, x29)) fun y0 =>
    iteP (y0.1 != (0 : Int)) (
      some (((0 : Int), (140 : Int), x6, x7, x8, x9, x10, x11, x12, x13, x14, x15, x16, x17, x18, x19, x20, x21, x22, x23, x24, x25, y0.2.1, y0.2.2.1, x28, y0.2.2.2))) (
      some (((0 : Int), (0 : Int), x6, x7, x8, x9, x10, x11, x12, x13, x14, x15, x16, x17, x18, x19, x20, x21, x22, x23, x24, x25, y0.2.1, y0.2.2.1, x28, y0.2.2.2)))) (
    Option.bind (F102 N (x26, x27, x29, ())) fun y1 =>
    iteP (x4 != (1 : Int)) (
      Option.bind (F103 N x4) fun y2 =>
      iteP (!y2) (
        some (((0 : Int), (210 : Int), x6, x7, x8, x9, x10, x11, x12, x13, x14, x15, x16, x17, x18, x19, x20, x21, x22, x23, x24, x25, x26, x27, x28, x29))) (
        Option.bind (F104 N (x0, x1, x2, x3, y1.1, y1.2)) fun y3 =>
        iteP (!y3) (
          some (((0 : Int), (140 : Int), x6, x7, x8, x9, x10, x11, x12, x13, x14, x15, x16, x17, x18, x19, x20, x21, x22, x23, x24, x25, x26, x27, x28, x29))) (
          iteP (x4 == (1 : Int)) (
            Option.bind (F105 N (x0, x1, x2, x3, x5, x6, x7, x8, x9, x10, x11, x12, x13, x14, x15, x16, x17, x18, x19, x20, x21, x22, x23, x24, x25, x26, x27, x28, x29)) fun (y4_0, y4_1, y4_2, y4_3, y4_4, y4_5, y4_6, y4_7, y4_8, y4_9, y4_10, y4_11, y4_12, y4_13, y4_14, y4_15, y4_16, y4_17, y4_18, y4_19, y4_20, y4_21, y4_22, y4_23, y4_24, y4_25) =>
            some ((y4_0, y4_1, y4_2, y4_3, y4_4, y4_5, y4_6, y4_7, y4_8, y4_9, y4_10, y4_11, y4_12, y4_13, y4_14, y4_15, y4_16, y4_17, y4_18, y4_19, y4_20, y4_21, y4_22, y4_23, y4_24, y4_25))) (
            Option.bind (F106 N (x4, x13, x14, x15, x16, x17, x18, x19, x20, x21, x22, x2, x3, x5, x6, x7, x8, x9, x10, x11, x12, x13, x14, x15, x16, x17, x18, x19, x20, x21, x22, x23, x24, x25, x26, x27, x28, x29)) fun (y5_0, y5_1, y5_2, y5_3, y5_4, y5_5, y5_6, y5_7, y5_8, y5_9, y5_10, y5_11, y5_12, y5_13, y5_14, y5_15, y5_16, y5_17, y5_18, y5_19, y5_20, y5_21, y5_22, y5_23, y5_24, y5_25, y5_26) =>
            iteP (y5_1 == (0 : Int)) (
              Option.bind (F107a N (x0, x1, x2, x3, y5_24, y5_22, y5_23, y5_26)) fun y6 =>
              some ((y5_0, y5_1, y5_2, y5_3, y5_4, y5_5, y5_6, y5_7, y5_8, y5_9, y5_10, y5_11, y5_12, y5_13, y5_14, y5_15, y5_16, y5_17, y5_18, y5_19, y5_20, y5_21, y6.2.1, y6.2.2.1, y5_25, y6.2.2.2))) (
              some ((y5_0, y5_1, y5_2, y5_3, y5_4, y5_5, y5_6, y5_7, y5_8, y5_9, y5_10, y5_11, y5_12, y5_13, y5_14, y5_15, y5_16, y5_17, y5_18, y5_19, y5_20, y5_21, y5_22, y5_23, y5_25, y5_26))))))) (
      Option.bind (F104 N (x0, x1, x2, x3, y1.1, y1.2)) fun y7 =>
      iteP (!y7) (
        some (((0 : Int), (140 : Int), x6, x7, x8, x9, x10, x11, x12, x13, x14, x15, x16, x17, x18, x19, x20, x21, x22, x23, x24, x25, x26, x27, x28, x29))) (
        iteP (x4 == (1 : Int)) (
          Option.bind (F105 N (x0, x1, x2, x3, x5, x6, x7, x8, x9, x10, x11, x12, x13, x14, x15, x16, x17, x18, x19, x20, x21, x22, x23, x24, x25, x26, x27, x28, x29)) fun (y8_0, y8_1, y8_2, y8_3, y8_4, y8_5, y8_6, y8_7, y8_8, y8_9, y8_10, y8_11, y8_12, y8_13, y8_14, y8_15, y8_16, y8_17, y8_18, y8_19, y8_20, y8_21, y8_22, y8_23, y8_24, y8_25) =>
          some ((y8_0, y8_1, y8_2, y8_3, y8_4, y8_5, y8_6, y8_7, y8_8, y8_9, y8_10, y8_11, y8_12, y8_13, y8_14, y8_15, y8_16, y8_17, y8_18, y8_19, y8_20, y8_21, y8_22, y8_23, y8_24, y8_25))) (
          Option.bind (F106 N (x4, x13, x14, x15, x16, x17, x18, x19, x20, x21, x22, x2, x3, x5, x6, x7, x8, x9, x10, x11, x12, x13, x14, x15, x16, x17, x18, x19, x20, x21, x22, x23, x24, x25, x26, x27, x28, x29)) fun (y9_0, y9_1, y9_2, y9_3, y9_4, y9_5, y9_6, y9_7, y9_8, y9_9, y9_10, y9_11, y9_12, y9_13, y9_14, y9_15, y9_16, y9_17, y9_18, y9_19, y9_20, y9_21, y9_22, y9_23, y9_24, y9_25, y9_26) =>
          iteP (y9_1 == (0 : Int)) (
            Option.bind (F107a N (x0, x1, x2, x3, y9_24, y9_22, y9_23, y9_26)) fun y10 =>
            some ((y9_0, y9_1, y9_2, y9_3, y9_4, y9_5, y9_6, y9_7, y9_8, y9_9, y9_10, y9_11, y9_12, y9_13, y9_14, y9_15, y9_16, y9_17, y9_18, y9_19, y9_20, y9_21, y10.2.1, y10.2.2.1, y9_25, y10.2.2.2))) (
            some ((y9_0, y9_1, y9_2, y9_3, y9_4, y9_5, y9_6, y9_7, y9_8, y9_9, y9_10, y9_11, y9_12, y9_13, y9_14, y9_15, y9_16, y9_17, y9_18, y9_19, y9_20, y9_21, y9_22, y9_23, y9_25, y9_26)))))))
noncomputable def T97 (N : Nat) : Pk → Tr Pk := tellS s97 w97 (F97 N)
theorem T97_ok (N : Nat) : FOK Tryz.prog (97) (T97 N) :=
  (fn_ok2 ownT mix (tab97_ok N) Tryz.func97 s97 w97 [0, 1] (cuts := []) trivial (fun _ => by kernel_rfl) (by decide +kernel) (F97 N) (fun x => by kernel_rfl))
@[reducible] def s95a : SP := ⟨[.adr 0 []], [.var 74 (.agg [.adr 1 [], .str, .str, .fv, .int .i64, .agg [.sl 2], .agg [.agg [.agg [.agg [.bool, .str], .int .i64]]], .agg [.int .i64, .int .i64, .bool, .bool, .int .i64, .int .i64, .int .i64, .int .i64, .int .i64, .int .i64], .int .i64, .int .i64, .int .i64]), .var 112 (.agg [.int .i64, .int .i64, .sl 3]), .row y0 38, .row (.int .i64) 3]⟩
noncomputable def tab95a (N : Nat) : List (Nat × (Pk → Tr Pk)) := [(96, T96 N), (97, T97 N), (91, T91 N)]
theorem tab95a_ok (N : Nat) : TabOK Tryz.prog (tab95a N) := ⟨T96_ok N, T97_ok N, T91_ok N, trivial⟩
@[reducible] def w95a : List SP := [⟨[.tup [.int .i64, .int .i64]], [.var 74 (.agg [.adr 1 [], .str, .str, .fv, .int .i64, .agg [.sl 2], .agg [.agg [.agg [.agg [.bool, .str], .int .i64]]], .agg [.int .i64, .int .i64, .bool, .bool, .int .i64, .int .i64, .int .i64, .int .i64, .int .i64, .int .i64], .int .i64, .int .i64, .int .i64]), .var 112 (.agg [.int .i64, .int .i64, .sl 3]), .row y0 38, .row (.int .i64) 3]⟩]
noncomputable def F95a (N : Nat) : (ByteArray × ByteArray × Nat × Int × Bool × ByteArray × Int × Int × Int × Bool × Bool × Int × Int × Int × Int × Int × Int × Int × Int × Int × Int × Int × (List (Int × (Bool × (Int × ((Int × (Int × (Int × (Int × Unit)))) × ((Int × (Int × (Bool × (Bool × (Int × (Int × (Int × (Int × (Int × (Int × Unit)))))))))) × ((List Int) × (ByteArray × Unit)))))))) × (List Int)) → Option (Int × Int × ByteArray × ByteArray × Nat × Int × Bool × ByteArray × Int × Int × Int × Bool × Bool × Int × Int × Int × Int × Int × Int × Int × Int × Int × Int × Int × (List (Int × (Bool × (Int × ((Int × (Int × (Int × (Int × Unit)))) × ((Int × (Int × (Bool × (Bool × (Int × (Int × (Int × (Int × (Int × (Int × Unit)))))))))) × ((List Int) × (ByteArray × Unit)))))))) × (List Int))
  | (x0, x1, x2, x3, x4, x5, x6, x7, x8, x9, x10, x11, x12, x13, x14, x15, x16, x17, x18, x19, x20, x21, x22, x23) =>
  Option.bind (F96 N x0) fun (y0_0, y0_1, y0_2, y0_3, y0_4, y0_5, y0_6) =>
  iteP (y0_6 != (0 : Int)) (
    some (((0 : Int), y0_6, x0, x1, x2, x3, x4, x5, x6, x7, x8, x9, x10, x11, x12, x13, x14, x15, x16, x17, x18, x19, x20, x21, x22, x23))) (
    iteP (decide ((0 : Int) ≤ y0_5 ∧ y0_5 ≤ (↑(ByteArray.size x0) : Int))) (
      Option.bind (F97 N (y0_0, y0_1, y0_2, y0_3, y0_4, ByteArray.extract x0 (Int.toNat y0_5) (ByteArray.size x0), x0, x1, x2, x3, x4, x5, x6, x7, x8, x9, x10, x11, x12, x13, x14, x15, x16, x17, x18, x19, x20, x21, x22, x23)) fun (y1_0, y1_1, y1_2, y1_3, y1_4, y1_5, y1_6, y1_7, y1_8, y1_9, y1_10, y1_11, y1_12, y1_13, y1_14, y1_15, y1_16, y1_17, y1_18, y1_19, y1_20, y1_21, y1_22, y1_23, y1_24, y1_25) =>
      iteP (y1_1 != (0 : Int)) (
        some (((0 : Int), y1_1, y1_2, y1_3, y1_4, y1_5, y1_6, y1_7, y1_8, y1_9, y1_10, y1_11, y1_12, y1_13, y1_14, y1_15, y1_16, y1_17, y1_18, y1_19, y1_20, y1_21, y1_22, y1_23, y1_24, y1_25))) (
        Option.bind (F91 N (y1_2, y1_3, y1_4, y1_5, y1_6, y1_7, y1_8, y1_9, y1_10, y1_11, y1_12, y1_13, y1_14, y1_15, y1_16, y1_17, y1_18, IntKind.wrap IntKind.i64 (y1_19 - (1 : Int)), y1_20, y1_21, y1_22, y1_23, y1_24, y1_25)) fun (y2_0, y2_1, y2_2, y2_3, y2_4, y2_5, y2_6, y2_7, y2_8, y2_9, y2_10, y2_11, y2_12, y2_13, y2_14, y2_15, y2_16, y2_17, y2_18, y2_19, y2_20, y2_21, y2_22, y2_23) =>
        some ((IntKind.wrap IntKind.i64 (y0_5 + y1_0), (0 : Int), y2_0, y2_1, y2_2, y2_3, y2_4, y2_5, y2_6, y2_7, y2_8, y2_9, y2_10, y2_11, y2_12, y2_13, y2_14, y2_15, y2_16, y2_17, y2_18, y2_19, y2_20, y2_21, y2_22, y2_23)))) (
      none ))
noncomputable def T95a (N : Nat) : Pk → Tr Pk := tellS s95a w95a (F95a N)
theorem T95a_ok (N : Nat) : FOK Tryz.prog (95) (T95a N) :=
  (fn_ok2 ownT mix (tab95a_ok N) Tryz.func95 s95a w95a [0, 1] (cuts := []) trivial (fun _ => by kernel_rfl) (by decide +kernel) (F95a N) (fun x => by kernel_rfl))
@[reducible] def s8 : SP := ⟨[.adr 0 [], .str], [.var 74 (.agg [.nilp, .str, .str, .fv, .int .i64, .agg [.sl 1], .agg [.agg [.agg [.agg [.bool, .str], .int .i64]]], .agg [.int .i64, .int .i64, .bool, .bool, .int .i64, .int .i64, .int .i64, .int .i64, .int .i64, .int .i64], .int .i64, .int .i64, .int .i64]), .row y0 38]⟩
noncomputable def tab8 (N : Nat) : List (Nat × (Pk → Tr Pk)) := [(29, T29 N), (46, T46 N), (59, T59 N), (71, T71 N), (83, T83a N), (95, T95a N)]
theorem tab8_ok (N : Nat) : TabOK Tryz.prog (tab8 N) := ⟨T29_ok N, T46_ok N, T59_ok N, T71_ok N, T83a_ok N, T95a_ok N, trivial⟩
@[reducible] def L8_14n : LD := ⟨14, [0], [(.ret, [])], ⟨[.adr 0 []], [.var 74 (.agg [.adr 1 [], .str, .str, .fv, .int .i64, .agg [.sl 2], .agg [.agg [.agg [.agg [.bool, .str], .int .i64]]], .agg [.int .i64, .int .i64, .bool, .bool, .int .i64, .int .i64, .int .i64, .int .i64, .int .i64, .int .i64], .int .i64, .int .i64, .int .i64]), .var 112 (.agg [.int .i64, .int .i64, .sl 3]), .row y0 38, .row (.int .i64) 3]⟩, [(.ret, ⟨[], [.var 74 (.agg [.adr 1 [], .str, .str, .fv, .int .i64, .agg [.sl 2], .agg [.agg [.agg [.agg [.bool, .str], .int .i64]]], .agg [.int .i64, .int .i64, .bool, .bool, .int .i64, .int .i64, .int .i64, .int .i64, .int .i64, .int .i64], .int .i64, .int .i64, .int .i64]), .var 112 (.agg [.int .i64, .int .i64, .sl 3]), .row y0 38, .row (.int .i64) 3]⟩), (.ret, ⟨[], [.var 74 (.agg [.nilp, .str, .str, .fv, .int .i64, .agg [.sl 1], .agg [.agg [.agg [.agg [.bool, .str], .int .i64]]], .agg [.int .i64, .int .i64, .bool, .bool, .int .i64, .int .i64, .int .i64, .int .i64, .int .i64, .int .i64], .int .i64, .int .i64, .int .i64]), .row y0 38]⟩)]⟩
abbrev P8_14n : Type := ByteArray × ByteArray × Nat × Int × Bool × ByteArray × Int × Int × Int × Bool × Bool × Int × Int × Int × Int × Int × Int × Int × Int × Int × Int × Int × (List (Int × (Bool × (Int × ((Int × (Int × (Int × (Int × Unit)))) × ((Int × (Int × (Bool × (Bool × (Int × (Int × (Int × (Int × (Int × (Int × Unit)))))))))) × ((List Int) × (ByteArray × Unit)))))))) × (List Int)
abbrev R8_14n : Type := ((ByteArray × ByteArray × Nat × Int × Bool × ByteArray × Int × Int × Int × Bool × Bool × Int × Int × Int × Int × Int × Int × Int × Int × Int × Int × Int × (List (Int × (Bool × (Int × ((Int × (Int × (Int × (Int × Unit)))) × ((Int × (Int × (Bool × (Bool × (Int × (Int × (Int × (Int × (Int × (Int × Unit)))))))))) × ((List Int) × (ByteArray × Unit)))))))) × (List Int)) ⊕ (ByteArray × ByteArray × Nat × Int × Bool × ByteArray × Int × Int × Int × Bool × Bool × Int × Int × Int × Int × Int × Int × Int × Int × Int × (List (Int × (Bool × (Int × ((Int × (Int × (Int × (Int × Unit)))) × ((Int × (Int × (Bool × (Bool × (Int × (Int × (Int × (Int × (Int × (Int × Unit)))))))))) × ((List Int) × (ByteArray × Unit))))))))))
noncomputable def B8_14n (N : Nat) (f : P8_14n → Option R8_14n) : P8_14n → Option R8_14n
  | (x0, x1, x2, x3, x4, x5, x6, x7, x8, x9, x10, x11, x12, x13, x14, x15, x16, x17, x18, x19, x20, x21, x22, x23) =>
  iteP (Nat.beq x2 (29 : Nat)) (
    none) (
    iteP (Nat.beq x2 (46 : Nat)) (
      none) (
      iteP (Nat.beq x2 (59 : Nat)) (
        none) (
        iteP (Nat.beq x2 (71 : Nat)) (
          none) (
          iteP (Nat.beq x2 (83 : Nat)) (
            Option.bind (F83a N (x0, x1, x2, x3, x4, x5, x6, x7, x8, x9, x10, x11, x12, x13, x14, x15, x16, x17, x18, x19, x20, x21, x22, x23)) fun (y0_0, y0_1, y0_2, y0_3, y0_4, y0_5, y0_6, y0_7, y0_8, y0_9, y0_10, y0_11, y0_12, y0_13, y0_14, y0_15, y0_16, y0_17, y0_18, y0_19, y0_20, y0_21, y0_22, y0_23, y0_24, y0_25) =>
            iteP (y0_1 == (0 : Int)) (
              iteP (decide ((0 : Int) ≤ y0_0 ∧ y0_0 ≤ (↑(ByteArray.size y0_2) : Int))) (
                Option.bind (f (ByteArray.extract y0_2 (Int.toNat y0_0) (ByteArray.size y0_2), y0_3, y0_4, y0_5, y0_6, y0_7, y0_8, y0_9, y0_10, y0_11, y0_12, y0_13, y0_14, y0_15, y0_16, y0_17, y0_18, y0_19, y0_20, y0_21, y0_22, y0_23, y0_24, y0_25)) fun r => match r with | .inl y => some (.inl y) | .inr y => some (.inr y)) (
                none )) (
              iteP (y0_1 == (2 : Int)) (
                some (.inl ((y0_2, y0_3, y0_4, y0_5, y0_6, y0_7, y0_8, y0_9, y0_10, y0_11, y0_12, y0_13, y0_14, y0_15, y0_16, y0_17, y0_18, y0_19, y0_20, y0_21, y0_22, y0_23, y0_24, y0_25)))) (
                some (.inl ((ByteArray.mk #[], y0_3, y0_4, y0_1, y0_6, y0_7, y0_8, y0_9, y0_10, y0_11, y0_12, y0_13, y0_14, y0_15, y0_16, y0_17, y0_18, y0_19, y0_20, y0_21, y0_22, y0_23, y0_24, y0_25)))))) (
            iteP (Nat.beq x2 (95 : Nat)) (
              Option.bind (F95a N (x0, x1, x2, x3, x4, x5, x6, x7, x8, x9, x10, x11, x12, x13, x14, x15, x16, x17, x18, x19, x20, x21, x22, x23)) fun (y1_0, y1_1, y1_2, y1_3, y1_4, y1_5, y1_6, y1_7, y1_8, y1_9, y1_10, y1_11, y1_12, y1_13, y1_14, y1_15, y1_16, y1_17, y1_18, y1_19, y1_20, y1_21, y1_22, y1_23, y1_24, y1_25) =>
              iteP (y1_1 == (0 : Int)) (
                iteP (decide ((0 : Int) ≤ y1_0 ∧ y1_0 ≤ (↑(ByteArray.size y1_2) : Int))) (
                  Option.bind (f (ByteArray.extract y1_2 (Int.toNat y1_0) (ByteArray.size y1_2), y1_3, y1_4, y1_5, y1_6, y1_7, y1_8, y1_9, y1_10, y1_11, y1_12, y1_13, y1_14, y1_15, y1_16, y1_17, y1_18, y1_19, y1_20, y1_21, y1_22, y1_23, y1_24, y1_25)) fun r => match r with | .inl y => some (.inl y) | .inr y => some (.inr y)) (
                  none )) (
                iteP (y1_1 == (2 : Int)) (
                  some (.inl ((y1_2, y1_3, y1_4, y1_5, y1_6, y1_7, y1_8, y1_9, y1_10, y1_11, y1_12, y1_13, y1_14, y1_15, y1_16, y1_17, y1_18, y1_19, y1_20, y1_21, y1_22, y1_23, y1_24, y1_25)))) (
                  some (.inl ((ByteArray.mk #[], y1_3, y1_4, y1_1, y1_6, y1_7, y1_8, y1_9, y1_10, y1_11, y1_12, y1_13, y1_14, y1_15, y1_16, y1_17, y1_18, y1_19, y1_20, y1_21, y1_22, y1_23, y1_24, y1_25)))))) (
              none ))))))
noncomputable def F8_14n (N : Nat) : Nat → P8_14n → Option R8_14n
  | 0, _ => none
  | k + 1, x => B8_14n N (F8_14n N k) x
noncomputable def C8_14n (N : Nat) (k : Nat) : Cut := L8_14n.cut (F8_14n N k)
theorem C8_14n_ok (N : Nat) (k : Nat) : CutAt Tryz.prog false Tryz.f8 [0] 14 (C8_14n N k) :=
  L8_14n.loopT ownT mix (tab8_ok N) Tryz.f8 [0] (cuts := []) trivial (by decide +kernel) (by kernel_rfl) (B8_14n N) (F8_14n N) (fun _ => rfl) (fun _ _ => rfl) (fun f x => by kernel_rfl) k
@[reducible] def L8_14 : LD := ⟨14, L8_14n.live, L8_14n.out, ⟨[.adr 0 []], [.var 74 (.agg [.nilp, .str, .str, .fv, .int .i64, .agg [.sl 1], .agg [.agg [.agg [.agg [.bool, .str], .int .i64]]], .agg [.int .i64, .int .i64, .bool, .bool, .int .i64, .int .i64, .int .i64, .int .i64, .int .i64, .int .i64], .int .i64, .int .i64, .int .i64]), .row y0 38]⟩, L8_14n.w⟩
noncomputable def B8_14 (N : Nat) (f : (ByteArray × ByteArray × Nat × Int × Bool × ByteArray × Int × Int × Int × Bool × Bool × Int × Int × Int × Int × Int × Int × Int × Int × Int × (List (Int × (Bool × (Int × ((Int × (Int × (Int × (Int × Unit)))) × ((Int × (Int × (Bool × (Bool × (Int × (Int × (Int × (Int × (Int × (Int × Unit)))))))))) × ((List Int) × (ByteArray × Unit))))))))) → Option (((ByteArray × ByteArray × Nat × Int × Bool × ByteArray × Int × Int × Int × Bool × Bool × Int × Int × Int × Int × Int × Int × Int × Int × Int × Int × Int × (List (Int × (Bool × (Int × ((Int × (Int × (Int × (Int × Unit)))) × ((Int × (Int × (Bool × (Bool × (Int × (Int × (Int × (Int × (Int × (Int × Unit)))))))))) × ((List Int) × (ByteArray × Unit)))))))) × (List Int)) ⊕ (ByteArray × ByteArray × Nat × Int × Bool × ByteArray × Int × Int × Int × Bool × Bool × Int × Int × Int × Int × Int × Int × Int × Int × Int × (List (Int × (Bool × (Int × ((Int × (Int × (Int × (Int × Unit)))) × ((Int × (Int × (Bool × (Bool × (Int × (Int × (Int × (Int × (Int × (Int × Unit)))))))))) × ((List Int) × (ByteArray × Unit)))))))))))) (g : (ByteArray × ByteArray × Nat × Int × Bool × ByteArray × Int × Int × Int × Bool × Bool × Int × Int × Int × Int × Int × Int × Int × Int × Int × Int × Int × (List (Int × (Bool × (Int × ((Int × (Int × (Int × (Int × Unit)))) × ((Int × (Int × (Bool × (Bool × (Int × (Int × (Int × (Int × (Int × (Int × Unit)))))))))) × ((List Int) × (ByteArray × Unit)))))))) × (List Int)) → Option (((ByteArray × ByteArray × Nat × Int × Bool × ByteArray × Int × Int × Int × Bool × Bool × Int × Int × Int × Int × Int × Int × Int × Int × Int × Int × Int × (List (Int × (Bool × (Int × ((Int × (Int × (Int × (Int × Unit)))) × ((Int × (Int × (Bool × (Bool × (Int × (Int × (Int × (Int × (Int × (Int × Unit)))))))))) × ((List Int) × (ByteArray × Unit)))))))) × (List Int)) ⊕ (ByteArray × ByteArray × Nat × Int × Bool × ByteArray × Int × Int × Int × Bool × Bool × Int × Int × Int × Int × Int × Int × Int × Int × Int × (List (Int × (Bool × (Int × ((Int × (Int × (Int × (Int × Unit)))) × ((Int × (Int × (Bool × (Bool × (Int × (Int × (Int × (Int × (Int × (Int × Unit)))))))))) × ((List Int) × (ByteArray × Unit)))))))))))) : (ByteArray × ByteArray × Nat × Int × Bool × ByteArray × Int × Int × Int × Bool × Bool × Int × Int × Int × Int × Int × Int × Int × Int × Int × (List (Int × (Bool × (Int × ((Int × (Int × (Int × (Int × Unit)))) × ((Int × (Int × (Bool × (Bool × (Int × (Int × (Int × (Int × (Int × (Int × Unit)))))))))) × ((List Int) × (ByteArray × Unit))))))))) → Option (((ByteArray × ByteArray × Nat × Int × Bool × ByteArray × Int × Int × Int × Bool × Bool × Int × Int × Int × Int × Int × Int × Int × Int × Int × Int × Int × (List (Int × (Bool × (Int × ((Int × (Int × (Int × (Int × Unit)))) × ((Int × (Int × (Bool × (Bool × (Int × (Int × (Int × (Int × (Int × (Int × Unit)))))))))) × ((List Int) × (ByteArray × Unit)))))))) × (List Int)) ⊕ (ByteArray × ByteArray × Nat × Int × Bool × ByteArray × Int × Int × Int × Bool × Bool × Int × Int × Int × Int × Int × Int × Int × Int × Int × (List (Int × (Bool × (Int × ((Int × (Int × (Int × (Int × Unit)))) × ((Int × (Int × (Bool × (Bool × (Int × (Int × (Int × (Int × (Int × (Int × Unit)))))))))) × ((List Int) × (ByteArray × Unit)))))))))))
  | (x0, x1, x2, x3, x4, x5, x6, x7, x8, x9, x10, x11, x12, x13, x14, x15, x16, x17, x18, x19, x20) =>
  iteP (Nat.beq x2 (29 : Nat)) (
    Option.bind (F29 N (x0, x1, x2, x3, x4, x5, x6, x7, x8, x9, x10, x11, x12, x13, x14, x15, x16, x17, x18, x19, x20)) fun (y0_0, y0_1, y0_2, y0_3, y0_4, y0_5, y0_6, y0_7, y0_8, y0_9, y0_10, y0_11, y0_12, y0_13, y0_14, y0_15, y0_16, y0_17, y0_18, y0_19, y0_20, y0_21, y0_22) =>
    iteP (y0_1 == (0 : Int)) (
      iteP (decide ((0 : Int) ≤ y0_0 ∧ y0_0 ≤ (↑(ByteArray.size y0_2) : Int))) (
        Option.bind (f (ByteArray.extract y0_2 (Int.toNat y0_0) (ByteArray.size y0_2), y0_3, y0_4, y0_5, y0_6, y0_7, y0_8, y0_9, y0_10, y0_11, y0_12, y0_13, y0_14, y0_15, y0_16, y0_17, y0_18, y0_19, y0_20, y0_21, y0_22)) fun r => match r with | .inl y => some (.inl y) | .inr y => some (.inr y)) (
        none )) (
      iteP (y0_1 == (2 : Int)) (
        some (.inr ((y0_2, y0_3, y0_4, y0_5, y0_6, y0_7, y0_8, y0_9, y0_10, y0_11, y0_12, y0_13, y0_14, y0_15, y0_16, y0_17, y0_18, y0_19, y0_20, y0_21, y0_22)))) (
        some (.inr ((ByteArray.mk #[], y0_3, y0_4, y0_1, y0_6, y0_7, y0_8, y0_9, y0_10, y0_11, y0_12, y0_13, y0_14, y0_15, y0_16, y0_17, y0_18, y0_19, y0_20, y0_21, y0_22)))))) (
    iteP (Nat.beq x2 (46 : Nat)) (
      Option.bind (F46 N (x0, x1, x2, x3, x4, x5, x6, x7, x8, x9, x10, x11, x12, x13, x14, x15, x16, x17, x18, x19, x20)) fun (y1_0, y1_1, y1_2, y1_3, y1_4, y1_5, y1_6, y1_7, y1_8, y1_9, y1_10, y1_11, y1_12, y1_13, y1_14, y1_15, y1_16, y1_17, y1_18, y1_19, y1_20, y1_21, y1_22) =>
      iteP (y1_1 == (0 : Int)) (
        iteP (decide ((0 : Int) ≤ y1_0 ∧ y1_0 ≤ (↑(ByteArray.size y1_2) : Int))) (
          Option.bind (f (ByteArray.extract y1_2 (Int.toNat y1_0) (ByteArray.size y1_2), y1_3, y1_4, y1_5, y1_6, y1_7, y1_8, y1_9, y1_10, y1_11, y1_12, y1_13, y1_14, y1_15, y1_16, y1_17, y1_18, y1_19, y1_20, y1_21, y1_22)) fun r => match r with | .inl y => some (.inl y) | .inr y => some (.inr y)) (
          none )) (
        iteP (y1_1 == (2 : Int)) (
          some (.inr ((y1_2, y1_3, y1_4, y1_5, y1_6, y1_7, y1_8, y1_9, y1_10, y1_11, y1_12, y1_13, y1_14, y1_15, y1_16, y1_17, y1_18, y1_19, y1_20, y1_21, y1_22)))) (
          some (.inr ((ByteArray.mk #[], y1_3, y1_4, y1_1, y1_6, y1_7, y1_8, y1_9, y1_10, y1_11, y1_12, y1_13, y1_14, y1_15, y1_16, y1_17, y1_18, y1_19, y1_20, y1_21, y1_22)))))) (
      iteP (Nat.beq x2 (59 : Nat)) (
        Option.bind (F59 N (x0, x1, x2, x3, x4, x5, x6, x7, x8, x9, x10, x11, x12, x13, x14, x15, x16, x17, x18, x19, x20)) fun (y2_0, y2_1, y2_2, y2_3, y2_4, y2_5, y2_6, y2_7, y2_8, y2_9, y2_10, y2_11, y2_12, y2_13, y2_14, y2_15, y2_16, y2_17, y2_18, y2_19, y2_20, y2_21, y2_22) =>
        iteP (y2_1 == (0 : Int)) (
          iteP (decide ((0 : Int) ≤ y2_0 ∧ y2_0 ≤ (↑(ByteArray.size y2_2) : Int))) (
            Option.bind (f (ByteArray.extract y2_2 (Int.toNat y2_0) (ByteArray.size y2_2), y2_3, y2_4, y2_5, y2_6, y2_7, y2_8, y2_9, y2_10, y2_11, y2_12, y2_13, y2_14, y2_15, y2_16, y2_17, y2_18, y2_19, y2_20, y2_21, y2_22)) fun r => match r with | .inl y => some (.inl y) | .inr y => some (.inr y)) (
            none )) (
          iteP (y2_1 == (2 : Int)) (
            some (.inr ((y2_2, y2_3, y2_4, y2_5, y2_6, y2_7, y2_8, y2_9, y2_10, y2_11, y2_12, y2_13, y2_14, y2_15, y2_16, y2_17, y2_18, y2_19, y2_20, y2_21, y2_22)))) (
            some (.inr ((ByteArray.mk #[], y2_3, y2_4, y2_1, y2_6, y2_7, y2_8, y2_9, y2_10, y2_11, y2_12, y2_13, y2_14, y2_15, y2_16, y2_17, y2_18, y2_19, y2_20, y2_21, y2_22)))))) (
        iteP (Nat.beq x2 (71 : Nat)) (
          Option.bind (F71 N (x0, x1, x2, x3, x4, x5, x6, x7, x8, x9, x10, x11, x12, x13, x14, x15, x16, x17, x18, x19, x20)) fun y3 =>
          match y3 with
          | .inl (y4_0, y4_1, y4_2, y4_3, y4_4, y4_5, y4_6, y4_7, y4_8, y4_9, y4_10, y4_11, y4_12, y4_13, y4_14, y4_15, y4_16, y4_17, y4_18, y4_19, y4_20, y4_21, y4_22) =>
            iteP (y4_1 == (0 : Int)) (
              iteP (decide ((0 : Int) ≤ y4_0 ∧ y4_0 ≤ (↑(ByteArray.size y4_2) : Int))) (
                Option.bind (f (ByteArray.extract y4_2 (Int.toNat y4_0) (ByteArray.size y4_2), y4_3, y4_4, y4_5, y4_6, y4_7, y4_8, y4_9, y4_10, y4_11, y4_12, y4_13, y4_14, y4_15, y4_16, y4_17, y4_18, y4_19, y4_20, y4_21, y4_22)) fun r => match r with | .inl y => some (.inl y) | .inr y => some (.inr y)) (
                none )) (
              iteP (y4_1 == (2 : Int)) (
                some (.inr ((y4_2, y4_3, y4_4, y4_5, y4_6, y4_7, y4_8, y4_9, y4_10, y4_11, y4_12, y4_13, y4_14, y4_15, y4_16, y4_17, y4_18, y4_19, y4_20, y4_21, y4_22)))) (
                some (.inr ((ByteArray.mk #[], y4_3, y4_4, y4_1, y4_6, y4_7, y4_8, y4_9, y4_10, y4_11, y4_12, y4_13, y4_14, y4_15, y4_16, y4_17, y4_18, y4_19, y4_20, y4_21, y4_22)))))
          | .inr (y4_0, y4_1, y4_2, y4_3, y4_4, y4_5, y4_6, y4_7, y4_8, y4_9, y4_10, y4_11, y4_12, y4_13, y4_14, y4_15, y4_16, y4_17, y4_18, y4_19, y4_20, y4_21, y4_22, y4_23, y4_24, y4_25) =>
            iteP (y4_1 == (0 : Int)) (
              iteP (decide ((0 : Int) ≤ y4_0 ∧ y4_0 ≤ (↑(ByteArray.size y4_2) : Int))) (
                Option.bind (g (ByteArray.extract y4_2 (Int.toNat y4_0) (ByteArray.size y4_2), y4_3, y4_4, y4_5, y4_6, y4_7, y4_8, y4_9, y4_10, y4_11, y4_12, y4_13, y4_14, y4_15, y4_16, y4_17, y4_18, y4_19, y4_20, y4_21, y4_22, y4_23, y4_24, y4_25)) fun r => match r with | .inl y => some (.inl y) | .inr y => some (.inr y)) (
                none )) (
              iteP (y4_1 == (2 : Int)) (
                some (.inl ((y4_2, y4_3, y4_4, y4_5, y4_6, y4_7, y4_8, y4_9, y4_10, y4_11, y4_12, y4_13, y4_14, y4_15, y4_16, y4_17, y4_18, y4_19, y4_20, y4_21, y4_22, y4_23, y4_24, y4_25)))) (
                some (.inl ((ByteArray.mk #[], y4_3, y4_4, y4_1, y4_6, y4_7, y4_8, y4_9, y4_10, y4_11, y4_12, y4_13, y4_14, y4_15, y4_16, y4_17, y4_18, y4_19, y4_20, y4_21, y4_22, y4_23, y4_24, y4_25)))))) (
          iteP (Nat.beq x2 (83 : Nat)) (
            none) (
            iteP (Nat.beq x2 (95 : Nat)) (
              none) (
              none ))))))
noncomputable def F8_14 (N : Nat) : Nat → (ByteArray × ByteArray × Nat × Int × Bool × ByteArray × Int × Int × Int × Bool × Bool × Int × Int × Int × Int × Int × Int × Int × Int × Int × (List (Int × (Bool × (Int × ((Int × (Int × (Int × (Int × Unit)))) × ((Int × (Int × (Bool × (Bool × (Int × (Int × (Int × (Int × (Int × (Int × Unit)))))))))) × ((List Int) × (ByteArray × Unit))))))))) → Option (((ByteArray × ByteArray × Nat × Int × Bool × ByteArray × Int × Int × Int × Bool × Bool × Int × Int × Int × Int × Int × Int × Int × Int × Int × Int × Int × (List (Int × (Bool × (Int × ((Int × (Int × (Int × (Int × Unit)))) × ((Int × (Int × (Bool × (Bool × (Int × (Int × (Int × (Int × (Int × (Int × Unit)))))))))) × ((List Int) × (ByteArray × Unit)))))))) × (List Int)) ⊕ (ByteArray × ByteArray × Nat × Int × Bool × ByteArray × Int × Int × Int × Bool × Bool × Int × Int × Int × Int × Int × Int × Int × Int × Int × (List (Int × (Bool × (Int × ((Int × (Int × (Int × (Int × Unit)))) × ((Int × (Int × (Bool × (Bool × (Int × (Int × (Int × (Int × (Int × (Int × Unit)))))))))) × ((List Int) × (ByteArray × Unit)))))))))))
  | 0, _ => none
  | k + 1, x => B8_14 N (F8_14 N k) (F8_14n N k) x
noncomputable def C8_14 (N : Nat) (k : Nat) : Cut := L8_14.cut (F8_14 N k)
theorem C8_14_ok (N : Nat) (k : Nat) : CutAt Tryz.prog false Tryz.f8 [0] 14 (C8_14 N k) :=
  L8_14.loop3T ownT mix (tab8_ok N) L8_14n.s Tryz.f8 [0] (cuts := [(14, C8_14n N N)]) ⟨C8_14n_ok N N, trivial⟩ (by decide +kernel) (by kernel_rfl) (B8_14 N) (F8_14 N) (B8_14n N) (F8_14n N) (fun _ => rfl) (fun _ _ => rfl) (fun _ => rfl) (fun _ _ => rfl) (fun f g x => by kernel_rfl) (fun f g x => by kernel_rfl) k
@[reducible] def w8 : List SP := [⟨[.tup []], [.var 74 (.agg [.nilp, .str, .str, .fv, .int .i64, .agg [.sl 1], .agg [.agg [.agg [.agg [.bool, .str], .int .i64]]], .agg [.int .i64, .int .i64, .bool, .bool, .int .i64, .int .i64, .int .i64, .int .i64, .int .i64, .int .i64], .int .i64, .int .i64, .int .i64]), .row y0 38]⟩, ⟨[.tup []], [.var 74 (.agg [.adr 1 [], .str, .str, .fv, .int .i64, .agg [.sl 2], .agg [.agg [.agg [.agg [.bool, .str], .int .i64]]], .agg [.int .i64, .int .i64, .bool, .bool, .int .i64, .int .i64, .int .i64, .int .i64, .int .i64, .int .i64], .int .i64, .int .i64, .int .i64]), .var 112 (.agg [.int .i64, .int .i64, .sl 3]), .row y0 38, .row (.int .i64) 3]⟩]
noncomputable def F8 (N : Nat) : (ByteArray × ByteArray × ByteArray × Nat × Int × Bool × ByteArray × Int × Int × Int × Bool × Bool × Int × Int × Int × Int × Int × Int × Int × Int × Int × (List (Int × (Bool × (Int × ((Int × (Int × (Int × (Int × Unit)))) × ((Int × (Int × (Bool × (Bool × (Int × (Int × (Int × (Int × (Int × (Int × Unit)))))))))) × ((List Int) × (ByteArray × Unit))))))))) → Option (((ByteArray × ByteArray × Nat × Int × Bool × ByteArray × Int × Int × Int × Bool × Bool × Int × Int × Int × Int × Int × Int × Int × Int × Int × (List (Int × (Bool × (Int × ((Int × (Int × (Int × (Int × Unit)))) × ((Int × (Int × (Bool × (Bool × (Int × (Int × (Int × (Int × (Int × (Int × Unit)))))))))) × ((List Int) × (ByteArray × Unit))))))))) ⊕ (ByteArray × ByteArray × Nat × Int × Bool × ByteArray × Int × Int × Int × Bool × Bool × Int × Int × Int × Int × Int × Int × Int × Int × Int × Int × Int × (List (Int × (Bool × (Int × ((Int × (Int × (Int × (Int × Unit)))) × ((Int × (Int × (Bool × (Bool × (Int × (Int × (Int × (Int × (Int × (Int × Unit)))))))))) × ((List Int) × (ByteArray × Unit)))))))) × (List Int))))
  | (x0, x1, x2, x3, x4, x5, x6, x7, x8, x9, x10, x11, x12, x13, x14, x15, x16, x17, x18, x19, x20, x21) =>
  iteP (x4 != (0 : Int)) (
    some (.inl ((x1, x2, x3, x4, x5, x6, x7, x8, x9, x10, x11, x12, x13, x14, x15, x16, x17, x18, x19, x20, x21)))) (
    iteP (decide ((↑(ByteArray.size x1 + ByteArray.size x0) : Int) > (9223372036854775807 : Int))) (
      none ) (
      Option.bind (F8_14 N N (x1 ++ x0, x2, x3, x4, x5, x6, x7, x8, x9, x10, x11, x12, x13, x14, x15, x16, x17, x18, x19, x20, x21)) fun y0 =>
      match y0 with
      | .inl (y1_0, y1_1, y1_2, y1_3, y1_4, y1_5, y1_6, y1_7, y1_8, y1_9, y1_10, y1_11, y1_12, y1_13, y1_14, y1_15, y1_16, y1_17, y1_18, y1_19, y1_20, y1_21, y1_22, y1_23) =>
        some (.inr ((y1_0, y1_1, y1_2, y1_3, y1_4, y1_5, y1_6, y1_7, y1_8, y1_9, y1_10, y1_11, y1_12, y1_13, y1_14, y1_15, y1_16, y1_17, y1_18, y1_19, y1_20, y1_21, y1_22, y1_23)))
      | .inr (y1_0, y1_1, y1_2, y1_3, y1_4, y1_5, y1_6, y1_7, y1_8, y1_9, y1_10, y1_11, y1_12, y1_13, y1_14, y1_15, y1_16, y1_17, y1_18, y1_19, y1_20) =>
        some (.inl ((y1_0, y1_1, y1_2, y1_3, y1_4, y1_5, y1_6, y1_7, y1_8, y1_9, y1_10, y1_11, y1_12, y1_13, y1_14, y1_15, y1_16, y1_17, y1_18, y1_19, y1_20)))))
noncomputable def T8 (N : Nat) : Pk → Tr Pk := tellS s8 w8 (F8 N)
theorem T8_ok (N : Nat) : FOK Tryz.prog (8) (T8 N) :=
  (fn_ok2 ownT mix (tab8_ok N) Tryz.func8 s8 w8 [0] (cuts := [(14, orC L8_14n.s.I (C8_14n N N) (C8_14 N N))]) ⟨fun c' h => orC_ok (C8_14n_ok N N c' h) (C8_14_ok N N c' h) rfl rfl, trivial⟩ (fun _ => by kernel_rfl) (by decide +kernel) (F8 N) (fun x => by kernel_rfl))
@[reducible] def s10 : SP := ⟨[.adr 0 [], .int .i64], [.var 74 (.agg [.nilp, .str, .str, .fv, .int .i64, .agg [.sl 1], .agg [.agg [.agg [.agg [.bool, .str], .int .i64]]], .agg [.int .i64, .int .i64, .bool, .bool, .int .i64, .int .i64, .int .i64, .int .i64, .int .i64, .int .i64], .int .i64, .int .i64, .int .i64]), .row y0 38]⟩
noncomputable def tab10 (N : Nat) : List (Nat × (Pk → Tr Pk)) := []
theorem tab10_ok (N : Nat) : TabOK Tryz.prog (tab10 N) := trivial
@[reducible] def w10 : List SP := [⟨[.str], [.var 74 (.agg [.nilp, .str, .str, .fv, .int .i64, .agg [.sl 1], .agg [.agg [.agg [.agg [.bool, .str], .int .i64]]], .agg [.int .i64, .int .i64, .bool, .bool, .int .i64, .int .i64, .int .i64, .int .i64, .int .i64, .int .i64], .int .i64, .int .i64, .int .i64]), .row y0 38]⟩]
noncomputable def F10 (N : Nat) : (Int × ByteArray × ByteArray × Nat × Int × Bool × ByteArray × Int × Int × Int × Bool × Bool × Int × Int × Int × Int × Int × Int × Int × Int × Int × (List (Int × (Bool × (Int × ((Int × (Int × (Int × (Int × Unit)))) × ((Int × (Int × (Bool × (Bool × (Int × (Int × (Int × (Int × (Int × (Int × Unit)))))))))) × ((List Int) × (ByteArray × Unit))))))))) → Option (ByteArray × ByteArray × ByteArray × Nat × Int × Bool × ByteArray × Int × Int × Int × Bool × Bool × Int × Int × Int × Int × Int × Int × Int × Int × Int × (List (Int × (Bool × (Int × ((Int × (Int × (Int × (Int × Unit)))) × ((Int × (Int × (Bool × (Bool × (Int × (Int × (Int × (Int × (Int × (Int × Unit)))))))))) × ((List Int) × (ByteArray × Unit)))))))))
  | (x0, x1, x2, x3, x4, x5, x6, x7, x8, x9, x10, x11, x12, x13, x14, x15, x16, x17, x18, x19, x20, x21) =>
  iteP (decide (((0 : Int) ≤ if (↑(ByteArray.size x2) : Int) < if (0 : Int) > x0 then (0 : Int) else x0 then (↑(ByteArray.size x2) : Int) else if (0 : Int) > x0 then (0 : Int) else x0) ∧ (if (↑(ByteArray.size x2) : Int) < if (0 : Int) > x0 then (0 : Int) else x0 then (↑(ByteArray.size x2) : Int) else if (0 : Int) > x0 then (0 : Int) else x0) ≤ (↑(ByteArray.size x2) : Int))) (
    iteP (decide (((0 : Int) ≤ if (↑(ByteArray.size x2) : Int) < if (0 : Int) > x0 then (0 : Int) else x0 then (↑(ByteArray.size x2) : Int) else if (0 : Int) > x0 then (0 : Int) else x0) ∧ (if (↑(ByteArray.size x2) : Int) < if (0 : Int) > x0 then (0 : Int) else x0 then (↑(ByteArray.size x2) : Int) else if (0 : Int) > x0 then (0 : Int) else x0) ≤ (↑(ByteArray.size x2) : Int))) (
      some ((ByteArray.extract x2 (0 : Nat) (Int.toNat (if (↑(ByteArray.size x2) : Int) < if (0 : Int) > x0 then (0 : Int) else x0 then (↑(ByteArray.size x2) : Int) else if (0 : Int) > x0 then (0 : Int) else x0)), x1, ByteArray.extract x2 (Int.toNat (if (↑(ByteArray.size x2) : Int) < if (0 : Int) > x0 then (0 : Int) else x0 then (↑(ByteArray.size x2) : Int) else if (0 : Int) > x0 then (0 : Int) else x0)) (ByteArray.size x2), x3, x4, x5, x6, x7, x8, x9, x10, x11, x12, x13, x14, x15, x16, x17, x18, x19, x20, x21))) (
      none )) (
    none )
noncomputable def T10 (N : Nat) : Pk → Tr Pk := tellS s10 w10 (F10 N)
theorem T10_ok (N : Nat) : FOK Tryz.prog (10) (T10 N) :=
  (fn_ok2 ownT mix (tab10_ok N) Tryz.func10 s10 w10 [0] (cuts := []) trivial (fun _ => by kernel_rfl) (by decide +kernel) (F10 N) (fun x => by kernel_rfl))
@[reducible] def s25 : SP := ⟨[.adr 0 []], [.var 74 (.agg [.nilp, .str, .str, .fv, .int .i64, .agg [.sl 1], .agg [.agg [.agg [.agg [.bool, .str], .int .i64]]], .agg [.int .i64, .int .i64, .bool, .bool, .int .i64, .int .i64, .int .i64, .int .i64, .int .i64, .int .i64], .int .i64, .int .i64, .int .i64]), .row y0 38]⟩
noncomputable def tab25 (N : Nat) : List (Nat × (Pk → Tr Pk)) := []
theorem tab25_ok (N : Nat) : TabOK Tryz.prog (tab25 N) := trivial
@[reducible] def w25 : List SP := [⟨[.bool], [.var 74 (.agg [.nilp, .str, .str, .fv, .int .i64, .agg [.sl 1], .agg [.agg [.agg [.agg [.bool, .str], .int .i64]]], .agg [.int .i64, .int .i64, .bool, .bool, .int .i64, .int .i64, .int .i64, .int .i64, .int .i64, .int .i64], .int .i64, .int .i64, .int .i64]), .row y0 38]⟩]
noncomputable def F25 (N : Nat) : (ByteArray × ByteArray × Nat × Int × Bool × ByteArray × Int × Int × Int × Bool × Bool × Int × Int × Int × Int × Int × Int × Int × Int × Int × (List (Int × (Bool × (Int × ((Int × (Int × (Int × (Int × Unit)))) × ((Int × (Int × (Bool × (Bool × (Int × (Int × (Int × (Int × (Int × (Int × Unit)))))))))) × ((List Int) × (ByteArray × Unit))))))))) → Option (Bool × ByteArray × ByteArray × Nat × Int × Bool × ByteArray × Int × Int × Int × Bool × Bool × Int × Int × Int × Int × Int × Int × Int × Int × Int × (List (Int × (Bool × (Int × ((Int × (Int × (Int × (Int × Unit)))) × ((Int × (Int × (Bool × (Bool × (Int × (Int × (Int × (Int × (Int × (Int × Unit)))))))))) × ((List Int) × (ByteArray × Unit)))))))))
  | (x0, x1, x2, x3, x4, x5, x6, x7, x8, x9, x10, x11, x12, x13, x14, x15, x16, x17, x18, x19, x20) =>
  some ((false, x0, x1, x2, x3, x4, x5, x6, x7, x8, x9, x10, x11, x12, x13, x14, x15, x16, x17, x18, x19, x20))
noncomputable def T25 (N : Nat) : Pk → Tr Pk := tellS s25 w25 (F25 N)
theorem T25_ok (N : Nat) : FOK Tryz.prog (25) (T25 N) :=
  (fn_ok2 ownT mix (tab25_ok N) Tryz.func25 s25 w25 [0] (cuts := []) trivial (fun _ => by kernel_rfl) (by decide +kernel) (F25 N) (fun x => by kernel_rfl))
@[reducible] def s43 : SP := ⟨[.nilp], []⟩
noncomputable def tab43 (N : Nat) : List (Nat × (Pk → Tr Pk)) := []
theorem tab43_ok (N : Nat) : TabOK Tryz.prog (tab43 N) := trivial
@[reducible] def w43 : List SP := []
noncomputable def F43 (N : Nat) : (Unit) → Option (Unit)
  | () =>
  none 
noncomputable def T43 (N : Nat) : Pk → Tr Pk := tellS s43 w43 (F43 N)
theorem T43_ok (N : Nat) : FOK Tryz.prog (43) (T43 N) :=
  (fn_ok2 ownT mix (tab43_ok N) Tryz.func43 s43 w43 [] (cuts := []) trivial (fun _ => by kernel_rfl) (by decide +kernel) (F43 N) (fun x => by kernel_rfl))
@[reducible] def s24 : SP := ⟨[.adr 0 []], [.var 74 (.agg [.nilp, .str, .str, .fv, .int .i64, .agg [.sl 1], .agg [.agg [.agg [.agg [.bool, .str], .int .i64]]], .agg [.int .i64, .int .i64, .bool, .bool, .int .i64, .int .i64, .int .i64, .int .i64, .int .i64, .int .i64], .int .i64, .int .i64, .int .i64]), .row y0 38]⟩
noncomputable def tab24 (N : Nat) : List (Nat × (Pk → Tr Pk)) := [(25, T25 N), (43, T43 N)]
theorem tab24_ok (N : Nat) : TabOK Tryz.prog (tab24 N) := ⟨T25_ok N, T43_ok N, trivial⟩
@[reducible] def w24 : List SP := [⟨[.agg [.int .i64, .int .i64, .sl 1]], [.var 74 (.agg [.nilp, .str, .str, .fv, .int .i64, .agg [.sl 2], .agg [.agg [.agg [.agg [.bool, .str], .int .i64]]], .agg [.int .i64, .int .i64, .bool, .bool, .int .i64, .int .i64, .int .i64, .int .i64, .int .i64, .int .i64], .int .i64, .int .i64, .int .i64]), .row (.int .i64) 3, .row y0 38]⟩]
noncomputable def F24 (N : Nat) : (ByteArray × ByteArray × Nat × Int × Bool × ByteArray × Int × Int × Int × Bool × Bool × Int × Int × Int × Int × Int × Int × Int × Int × Int × (List (Int × (Bool × (Int × ((Int × (Int × (Int × (Int × Unit)))) × ((Int × (Int × (Bool × (Bool × (Int × (Int × (Int × (Int × (Int × (Int × Unit)))))))))) × ((List Int) × (ByteArray × Unit))))))))) → Option (Int × Int × ByteArray × ByteArray × Nat × Int × Bool × ByteArray × Int × Int × Int × Bool × Bool × Int × Int × Int × Int × Int × Int × Int × Int × Int × (List Int) × (List (Int × (Bool × (Int × ((Int × (Int × (Int × (Int × Unit)))) × ((Int × (Int × (Bool × (Bool × (Int × (Int × (Int × (Int × (Int × (Int × Unit)))))))))) × ((List Int) × (ByteArray × Unit)))))))))
  | (x0, x1, x2, x3, x4, x5, x6, x7, x8, x9, x10, x11, x12, x13, x14, x15, x16, x17, x18, x19, x20) =>
  Option.bind (F25 N (x0, x1, x2, x3, x4, x5, x6, x7, x8, x9, x10, x11, x12, x13, x14, x15, x16, x17, x18, x19, x20)) fun (y0_0, y0_1, y0_2, y0_3, y0_4, y0_5, y0_6, y0_7, y0_8, y0_9, y0_10, y0_11, y0_12, y0_13, y0_14, y0_15, y0_16, y0_17, y0_18, y0_19, y0_20, y0_21) =>
  iteP (!y0_0) (
    some (((0 : Int), (0 : Int), y0_1, y0_2, y0_3, y0_4, y0_5, y0_6, y0_7, y0_8, y0_9, y0_10, y0_11, y0_12, y0_13, y0_14, y0_15, y0_16, y0_17, y0_18, y0_19, y0_20, [], y0_21))) (
    Option.bind (F43 N ()) fun y1 =>
    none)
noncomputable def T24 (N : Nat) : Pk → Tr Pk := tellS s24 w24 (F24 N)
theorem T24_ok (N : Nat) : FOK Tryz.prog (24) (T24 N) :=
  (fn_ok2 ownT mix (tab24_ok N) Tryz.func24 s24 w24 [0] (cuts := []) trivial (fun _ => by kernel_rfl) (by decide +kernel) (F24 N) (fun x => by kernel_rfl))
@[reducible] def s42 : SP := ⟨[.ro (.int .i64), .ro (.int .i64)], []⟩
noncomputable def tab42 (N : Nat) : List (Nat × (Pk → Tr Pk)) := []
theorem tab42_ok (N : Nat) : TabOK Tryz.prog (tab42 N) := trivial
@[reducible] def L42_58 : LD := ⟨58, [0, 1, 5], [(.ret, [4]), (.exit 0, [])], ⟨[.ro (.int .i64), .ro (.int .i64), .int .i64], []⟩, [(.ret, ⟨[.bool], []⟩), (.exit 0, ⟨[], []⟩)]⟩
abbrev P42_58 : Type := (List Int) × (List Int) × Int
abbrev R42_58 : Type := ((Bool) ⊕ (Unit))
noncomputable def B42_58 (N : Nat) (f : P42_58 → Option R42_58) : P42_58 → Option R42_58
  | (x0, x1, x2) =>
  iteP (decide (x2 < (↑(List.length x0) : Int))) (
    iteP (within x2 (List.length x0)) (
      Option.bind (x0[Int.toNat x2]?) fun y0 =>
      iteP (within x2 (List.length x1)) (
        Option.bind (x1[Int.toNat x2]?) fun y1 =>
        iteP (y0 != y1) (
          some (.inl (false))) (
          Option.bind (f (x0, x1, IntKind.wrap IntKind.i64 (x2 + (1 : Int)))) fun r => match r with | .inl y => some (.inl y) | .inr y => some (.inr y))) (
        none )) (
      none )) (
    some (.inr (())))
noncomputable def F42_58 (N : Nat) : Nat → P42_58 → Option R42_58
  | 0, _ => none
  | k + 1, x => B42_58 N (F42_58 N k) x
noncomputable def C42_58 (N : Nat) (k : Nat) : Cut := L42_58.cut (F42_58 N k)
theorem C42_58_ok (N : Nat) (k : Nat) : CutAt Tryz.prog false Tryz.f42 [] 58 (C42_58 N k) :=
  L42_58.loopT ownT mix (tab42_ok N) Tryz.f42 [] (cuts := []) trivial (by decide +kernel) (by kernel_rfl) (B42_58 N) (F42_58 N) (fun _ => rfl) (fun _ _ => rfl) (fun f x => by kernel_rfl) k
@[reducible] def w42 : List SP := [⟨[.bool], []⟩]
noncomputable def F42 (N : Nat) : ((List Int) × (List Int)) → Option (Bool)
  | (x0, x1) =>
  iteP ((↑(List.length x0) : Int) != (↑(List.length x1) : Int)) (
    some (false)) (
    Option.bind (F42_58 N N (x0, x1, (0 : Int))) fun y0 =>
    match y0 with
    | .inl y1 =>
      some (y1)
    | .inr y1 =>
      some (true))
noncomputable def T42 (N : Nat) : Pk → Tr Pk := tellS s42 w42 (F42 N)
theorem T42_ok (N : Nat) : FOK Tryz.prog (42) (T42 N) :=
  (fn_ok2 ownT mix (tab42_ok N) Tryz.func42 s42 w42 [] (cuts := [(58, C42_58 N N)]) ⟨C42_58_ok N N, trivial⟩ (fun _ => by kernel_rfl) (by decide +kernel) (F42 N) (fun x => by kernel_rfl))
@[reducible] def s23 : SP := ⟨[.agg [.int .i64, .int .i64, .ro (.int .i64)], .agg [.int .i64, .int .i64, .ro (.int .i64)]], []⟩
noncomputable def tab23 (N : Nat) : List (Nat × (Pk → Tr Pk)) := [(42, T42 N)]
theorem tab23_ok (N : Nat) : TabOK Tryz.prog (tab23 N) := ⟨T42_ok N, trivial⟩
@[reducible] def w23 : List SP := [⟨[.bool], []⟩]
noncomputable def F23 (N : Nat) : (Int × Int × (List Int) × Int × Int × (List Int)) → Option (Bool)
  | (x0, x1, x2, x3, x4, x5) =>
  iteP (x0 == x3) (
    iteP (x1 == x4) (
      Option.bind (F42 N (x2, x5)) fun y0 =>
      some (y0)) (
      some (false))) (
    some (false))
noncomputable def T23 (N : Nat) : Pk → Tr Pk := tellS s23 w23 (F23 N)
theorem T23_ok (N : Nat) : FOK Tryz.prog (23) (T23 N) :=
  (fn_ok2 ownT mix (tab23_ok N) Tryz.func23 s23 w23 [] (cuts := []) trivial (fun _ => by kernel_rfl) (by decide +kernel) (F23 N) (fun x => by kernel_rfl))
@[reducible] def s49b : SP := ⟨[.adr 0 [.f 0 0]], [.var 84 (.agg [.agg [.nilp, .sl 1], .bool]), .row (.int .u8) 5]⟩
noncomputable def tab49b (N : Nat) : List (Nat × (Pk → Tr Pk)) := []
theorem tab49b_ok (N : Nat) : TabOK Tryz.prog (tab49b N) := trivial
@[reducible] def w49b : List SP := [⟨[.tup []], [.var 84 (.agg [.agg [.adr 0 [.f 0 0], .sl 1], .bool]), .row (.int .u8) 5]⟩]
noncomputable def F49b (N : Nat) : (Bool × (List Int)) → Option (Bool × (List Int))
  | (x0, x1) =>
  some ((x0, x1))
noncomputable def T49b (N : Nat) : Pk → Tr Pk := tellS s49b w49b (F49b N)
theorem T49b_ok (N : Nat) : FOK Tryz.prog (49) (T49b N) :=
  (fn_ok2 ownT mix (tab49b_ok N) Tryz.func49 s49b w49b [0] (cuts := []) trivial (fun _ => by kernel_rfl) (by decide +kernel) (F49b N) (fun x => by kernel_rfl))
@[reducible] def s32b : SP := ⟨[.adr 0 [.f 0 0], .str], [.var 84 (.agg [.agg [.nilp, .sl 1], .bool]), .row (.int .u8) 5]⟩
noncomputable def tab32b (N : Nat) : List (Nat × (Pk → Tr Pk)) := [(49, T49b N)]
theorem tab32b_ok (N : Nat) : TabOK Tryz.prog (tab32b N) := ⟨T49b_ok N, trivial⟩
@[reducible] def w32b : List SP := [⟨[.tup [.int .i64, .nili]], [.var 84 (.agg [.agg [.adr 0 [.f 0 0], .sl 1], .bool]), .row (.int .u8) 5]⟩]
noncomputable def F32b (N : Nat) : (ByteArray × Bool × (List Int)) → Option (Int × Bool × (List Int))
  | (x0, x1, x2) =>
  Option.bind (F49b N (x1, x2)) fun y0 =>
  iteP (decide ((List.length y0.2 + List.length (bytesOf x0)) * (1 : Nat) ≤ (140737488355328 : Nat) ∧ List.length y0.2 + List.length (bytesOf x0) ≤ (140737488355328 : Nat))) (
    some (((↑(ByteArray.size x0) : Int), y0.1, y0.2 ++ bytesOf x0))) (
    none )
noncomputable def T32b (N : Nat) : Pk → Tr Pk := tellS s32b w32b (F32b N)
theorem T32b_ok (N : Nat) : FOK Tryz.prog (32) (T32b N) :=
  (fn_ok2 ownT mix (tab32b_ok N) Tryz.func32 s32b w32b [0] (cuts := []) trivial (fun _ => by kernel_rfl) (by decide +kernel) (F32b N) (fun x => by kernel_rfl))
@[reducible] def s47 : SP := ⟨[.adr 0 [], .str, .int .i64], [.var 84 (.agg [.agg [.nilp, .sl 1], .bool]), .row (.int .u8) 5]⟩
noncomputable def tab47 (N : Nat) : List (Nat × (Pk → Tr Pk)) := [(32, T32b N)]
theorem tab47_ok (N : Nat) : TabOK Tryz.prog (tab47 N) := ⟨T32b_ok N, trivial⟩
@[reducible] def w47 : List SP := [⟨[.tup []], [.var 84 (.agg [.agg [.adr 0 [.f 0 0], .sl 1], .bool]), .row (.int .u8) 5]⟩]
noncomputable def F47 (N : Nat) : (ByteArray × Int × Bool × (List Int)) → Option (Bool × (List Int))
  | (x0, x1, x2, x3) =>
  iteP (x2) (
    Option.bind (F32b N (x0, true, x3)) fun y0 =>
    some ((y0.2.1, y0.2.2))) (
    Option.bind (F32b N (x0, x1 != (0 : Int), x3)) fun y1 =>
    some ((y1.2.1, y1.2.2)))
noncomputable def T47 (N : Nat) : Pk → Tr Pk := tellS s47 w47 (F47 N)
theorem T47_ok (N : Nat) : FOK Tryz.prog (47) (T47 N) :=
  (fn_ok2 ownT mix (tab47_ok N) Tryz.func47 s47 w47 [0] (cuts := []) trivial (fun _ => by kernel_rfl) (by decide +kernel) (F47 N) (fun x => by kernel_rfl))
@[reducible] def s49c : SP := ⟨[.adr 0 [.f 0 0]], [.var 84 (.agg [.agg [.adr 0 [.f 0 0], .sl 1], .bool]), .row (.int .u8) 5]⟩
noncomputable def tab49c (N : Nat) : List (Nat × (Pk → Tr Pk)) := []
theorem tab49c_ok (N : Nat) : TabOK Tryz.prog (tab49c N) := trivial
@[reducible] def w49c : List SP := [⟨[.tup []], [.var 84 (.agg [.agg [.adr 0 [.f 0 0], .sl 1], .bool]), .row (.int .u8) 5]⟩]
noncomputable def F49c (N : Nat) : (Bool × (List Int)) → Option (Bool × (List Int))
  | (x0, x1) =>
  some ((x0, x1))
noncomputable def T49c (N : Nat) : Pk → Tr Pk := tellS s49c w49c (F49c N)
theorem T49c_ok (N : Nat) : FOK Tryz.prog (49) (T49c N) :=
  (fn_ok2 ownT mix (tab49c_ok N) Tryz.func49 s49c w49c [0, 0] (cuts := []) trivial (fun _ => by kernel_rfl) (by decide +kernel) (F49c N) (fun x => by kernel_rfl))
@[reducible] def s32c : SP := ⟨[.adr 0 [.f 0 0], .str], [.var 84 (.agg [.agg [.adr 0 [.f 0 0], .sl 1], .bool]), .row (.int .u8) 5]⟩
noncomputable def tab32c (N : Nat) : List (Nat × (Pk → Tr Pk)) := [(49, T49c N)]
theorem tab32c_ok (N : Nat) : TabOK Tryz.prog (tab32c N) := ⟨T49c_ok N, trivial⟩
@[reducible] def w32c : List SP := [⟨[.tup [.int .i64, .nili]], [.var 84 (.agg [.agg [.adr 0 [.f 0 0], .sl 1], .bool]), .row (.int .u8) 5]⟩]
noncomputable def F32c (N : Nat) : (ByteArray × Bool × (List Int)) → Option (Int × Bool × (List Int))
  | (x0, x1, x2) =>
  Option.bind (F49c N (x1, x2)) fun y0 =>
  iteP (decide ((List.length y0.2 + List.length (bytesOf x0)) * (1 : Nat) ≤ (140737488355328 : Nat) ∧ List.length y0.2 + List.length (bytesOf x0) ≤ (140737488355328 : Nat))) (
    some (((↑(ByteArray.size x0) : Int), y0.1, y0.2 ++ bytesOf x0))) (
    none )
noncomputable def T32c (N : Nat) : Pk → Tr Pk := tellS s32c w32c (F32c N)
theorem T32c_ok (N : Nat) : FOK Tryz.prog (32) (T32c N) :=
  (fn_ok2 ownT mix (tab32c_ok N) Tryz.func32 s32c w32c [0, 0] (cuts := []) trivial (fun _ => by kernel_rfl) (by decide +kernel) (F32c N) (fun x => by kernel_rfl))
@[reducible] def s47a : SP := ⟨[.adr 0 [], .str, .int .i64], [.var 84 (.agg [.agg [.adr 0 [.f 0 0], .sl 1], .bool]), .row (.int .u8) 5]⟩
noncomputable def tab47a (N : Nat) : List (Nat × (Pk → Tr Pk)) := [(32, T32c N)]
theorem tab47a_ok (N : Nat) : TabOK Tryz.prog (tab47a N) := ⟨T32c_ok N, trivial⟩
@[reducible] def w47a : List SP := [⟨[.tup []], [.var 84 (.agg [.agg [.adr 0 [.f 0 0], .sl 1], .bool]), .row (.int .u8) 5]⟩]
noncomputable def F47a (N : Nat) : (ByteArray × Int × Bool × (List Int)) → Option (Bool × (List Int))
  | (x0, x1, x2, x3) =>
  iteP (x2) (
    Option.bind (F32c N (x0, true, x3)) fun y0 =>
    some ((y0.2.1, y0.2.2))) (
    Option.bind (F32c N (x0, x1 != (0 : Int), x3)) fun y1 =>
    some ((y1.2.1, y1.2.2)))
noncomputable def T47a (N : Nat) : Pk → Tr Pk := tellS s47a w47a (F47a N)
theorem T47a_ok (N : Nat) : FOK Tryz.prog (47) (T47a N) :=
  (fn_ok2 ownT mix (tab47a_ok N) Tryz.func47 s47a w47a [0, 0] (cuts := []) trivial (fun _ => by kernel_rfl) (by decide +kernel) (F47a N) (fun x => by kernel_rfl))
@[reducible] def s31 : SP := ⟨[.adr 0 [], .int .i64, .ro (.int .i64)], [.var 84 (.agg [.agg [.nilp, .sl 1], .bool]), .row (.int .u8) 5]⟩
noncomputable def tab31 (N : Nat) : List (Nat × (Pk → Tr Pk)) := [(48, T48 N), (47, orT s47.I (T47 N) (T47a N))]
theorem tab31_ok (N : Nat) : TabOK Tryz.prog (tab31 N) := ⟨T48_ok N, orT_ok (T47_ok N) (T47a_ok N), trivial⟩
@[reducible] def L31_6n : LD := ⟨6, [10, 9, 8, 0, 1], [(.exit 0, [])], ⟨[.int .i64, .int .i64, .ro (.int .i64), .adr 0 [], .int .i64], [.var 84 (.agg [.agg [.adr 0 [.f 0 0], .sl 1], .bool]), .row (.int .u8) 5]⟩, [(.exit 0, ⟨[], [.var 84 (.agg [.agg [.adr 0 [.f 0 0], .sl 1], .bool]), .row (.int .u8) 5]⟩), (.exit 0, ⟨[], [.var 84 (.agg [.agg [.nilp, .sl 1], .bool]), .row (.int .u8) 5]⟩)]⟩
abbrev P31_6n : Type := Int × Int × (List Int) × Int × Bool × (List Int)
abbrev R31_6n : Type := ((Bool × (List Int)) ⊕ (Bool × (List Int)))
noncomputable def B31_6n (N : Nat) (f : P31_6n → Option R31_6n) : P31_6n → Option R31_6n
  | (x0, x1, x2, x3, x4, x5) =>
  iteP (decide (x0 < x1)) (
    iteP (within x0 (List.length x2)) (
      Option.bind (x2[Int.toNat x0]?) fun y0 =>
      Option.bind (F48 N (x3, y0)) fun y1 =>
      Option.bind (F47a N (y1.1, y1.2, x4, x5)) fun y2 =>
      Option.bind (f (IntKind.wrap IntKind.i64 (x0 + (1 : Int)), x1, x2, x3, y2.1, y2.2)) fun r => match r with | .inl y => some (.inl y) | .inr y => some (.inr y)) (
      none )) (
    some (.inl ((x4, x5))))
noncomputable def F31_6n (N : Nat) : Nat → P31_6n → Option R31_6n
  | 0, _ => none
  | k + 1, x => B31_6n N (F31_6n N k) x
noncomputable def C31_6n (N : Nat) (k : Nat) : Cut := L31_6n.cut (F31_6n N k)
theorem C31_6n_ok (N : Nat) (k : Nat) : CutAt Tryz.prog false Tryz.f31 [0] 6 (C31_6n N k) :=
  L31_6n.loopT ownT mix (tab31_ok N) Tryz.f31 [0] (cuts := []) trivial (by decide +kernel) (by kernel_rfl) (B31_6n N) (F31_6n N) (fun _ => rfl) (fun _ _ => rfl) (fun f x => by kernel_rfl) k
@[reducible] def L31_6 : LD := ⟨6, L31_6n.live, L31_6n.out, ⟨[.int .i64, .int .i64, .ro (.int .i64), .adr 0 [], .int .i64], [.var 84 (.agg [.agg [.nilp, .sl 1], .bool]), .row (.int .u8) 5]⟩, L31_6n.w⟩
noncomputable def B31_6 (N : Nat) (f : (Int × Int × (List Int) × Int × Bool × (List Int)) → Option (((Bool × (List Int)) ⊕ (Bool × (List Int))))) : (Int × Int × (List Int) × Int × Bool × (List Int)) → Option (((Bool × (List Int)) ⊕ (Bool × (List Int))))
  | (x0, x1, x2, x3, x4, x5) =>
  iteP (decide (x0 < x1)) (
    iteP (within x0 (List.length x2)) (
      Option.bind (x2[Int.toNat x0]?) fun y0 =>
      Option.bind (F48 N (x3, y0)) fun y1 =>
      Option.bind (F47 N (y1.1, y1.2, x4, x5)) fun y2 =>
      Option.bind (f (IntKind.wrap IntKind.i64 (x0 + (1 : Int)), x1, x2, x3, y2.1, y2.2)) fun r => match r with | .inl y => some (.inl y) | .inr y => some (.inr y)) (
      none )) (
    some (.inr ((x4, x5))))
noncomputable def F31_6 (N : Nat) (k : Nat) : (Int × Int × (List Int) × Int × Bool × (List Int)) → Option (((Bool × (List Int)) ⊕ (Bool × (List Int)))) := B31_6 N (F31_6n N k)
noncomputable def C31_6 (N : Nat) (k : Nat) : Cut := L31_6.cut (F31_6 N k)
theorem C31_6_ok (N : Nat) (k : Nat) : CutAt Tryz.prog false Tryz.f31 [0] 6 (C31_6 N k) :=
  L31_6.loop2T ownT mix (tab31_ok N) L31_6n.s Tryz.f31 [0] (cuts := [(6, C31_6n N N)]) ⟨C31_6n_ok N N, trivial⟩ (by decide +kernel) (by kernel_rfl) (B31_6 N) (B31_6n N) (F31_6n N) (fun _ => rfl) (fun _ _ => rfl) (fun f g x => by kernel_rfl) (fun f g x => by kernel_rfl) k
@[reducible] def w31 : List SP := [⟨[.tup []], [.var 84 (.agg [.agg [.adr 0 [.f 0 0], .sl 1], .bool]), .row (.int .u8) 5]⟩, ⟨[.tup []], [.var 84 (.agg [.agg [.nilp, .sl 1], .bool]), .row (.int .u8) 5]⟩]
noncomputable def F31 (N : Nat) : (Int × (List Int) × Bool × (List Int)) → Option (((Bool × (List Int)) ⊕ (Bool × (List Int))))
  | (x0, x1, x2, x3) =>
  Option.bind (F31_6 N N ((0 : Int), (↑(List.length x1) : Int), x1, x0, x2, x3)) fun y0 =>
  match y0 with
  | .inl y1 =>
    some (.inl ((y1.1, y1.2)))
  | .inr y1 =>
    some (.inr ((y1.1, y1.2)))
noncomputable def T31 (N : Nat) : Pk → Tr Pk := tellS s31 w31 (F31 N)
theorem T31_ok (N : Nat) : FOK Tryz.prog (31) (T31 N) :=
  (fn_ok2 ownT mix (tab31_ok N) Tryz.func31 s31 w31 [0] (cuts := [(6, orC L31_6n.s.I (C31_6n N N) (C31_6 N N))]) ⟨fun c' h => orC_ok (C31_6n_ok N N c' h) (C31_6_ok N N c' h) rfl rfl, trivial⟩ (fun _ => by kernel_rfl) (by decide +kernel) (F31 N) (fun x => by kernel_rfl))
@[reducible] def s31a : SP := ⟨[.adr 0 [], .int .i64, .ro (.int .i64)], [.var 84 (.agg [.agg [.adr 0 [.f 0 0], .sl 1], .bool]), .row (.int .u8) 5]⟩
noncomputable def tab31a (N : Nat) : List (Nat × (Pk → Tr Pk)) := [(48, T48 N), (47, T47a N)]
theorem tab31a_ok (N : Nat) : TabOK Tryz.prog (tab31a N) := ⟨T48_ok N, T47a_ok N, trivial⟩
@[reducible] def L31a_6 : LD := ⟨6, [10, 9, 8, 0, 1], [(.exit 0, [])], ⟨[.int .i64, .int .i64, .ro (.int .i64), .adr 0 [], .int .i64], [.var 84 (.agg [.agg [.adr 0 [.f 0 0], .sl 1], .bool]), .row (.int .u8) 5]⟩, [(.exit 0, ⟨[], [.var 84 (.agg [.agg [.adr 0 [.f 0 0], .sl 1], .bool]), .row (.int .u8) 5]⟩)]⟩
abbrev P31a_6 : Type := Int × Int × (List Int) × Int × Bool × (List Int)
abbrev R31a_6 : Type := Bool × (List Int)
noncomputable def B31a_6 (N : Nat) (f : P31a_6 → Option R31a_6) : P31a_6 → Option R31a_6
  | (x0, x1, x2, x3, x4, x5) =>
  iteP (decide (x0 < x1)) (
    iteP (within x0 (List.length x2)) (
      Option.bind (x2[Int.toNat x0]?) fun y0 =>
      Option.bind (F48 N (x3, y0)) fun y1 =>
      Option.bind (F47a N (y1.1, y1.2, x4, x5)) fun y2 =>
      Option.bind (f (IntKind.wrap IntKind.i64 (x0 + (1 : Int)), x1, x2, x3, y2.1, y2.2)) fun r => some r) (
      none )) (
    some ((x4, x5)))
noncomputable def F31a_6 (N : Nat) : Nat → P31a_6 → Option R31a_6
  | 0, _ => none
  | k + 1, x => B31a_6 N (F31a_6 N k) x
noncomputable def C31a_6 (N : Nat) (k : Nat) : Cut := L31a_6.cut (F31a_6 N k)
theorem C31a_6_ok (N : Nat) (k : Nat) : CutAt Tryz.prog false Tryz.f31 [0, 0] 6 (C31a_6 N k) :=
  L31a_6.loopT ownT mix (tab31a_ok N) Tryz.f31 [0, 0] (cuts := []) trivial (by decide +kernel) (by kernel_rfl) (B31a_6 N) (F31a_6 N) (fun _ => rfl) (fun _ _ => rfl) (fun f x => by kernel_rfl) k
@[reducible] def w31a : List SP := [⟨[.tup []], [.var 84 (.agg [.agg [.adr 0 [.f 0 0], .sl 1], .bool]), .row (.int .u8) 5]⟩]
noncomputable def F31a (N : Nat) : (Int × (List Int) × Bool × (List Int)) → Option (Bool × (List Int))
  | (x0, x1, x2, x3) =>
  Option.bind (F31a_6 N N ((0 : Int), (↑(List.length x1) : Int), x1, x0, x2, x3)) fun y0 =>
  some ((y0.1, y0.2))
noncomputable def T31a (N : Nat) : Pk → Tr Pk := tellS s31a w31a (F31a N)
theorem T31a_ok (N : Nat) : FOK Tryz.prog (31) (T31a N) :=
  (fn_ok2 ownT mix (tab31a_ok N) Tryz.func31 s31a w31a [0, 0] (cuts := [(6, C31a_6 N N)]) ⟨C31a_6_ok N N, trivial⟩ (fun _ => by kernel_rfl) (by decide +kernel) (F31a N) (fun x => by kernel_rfl))
@[reducible] def s51 : SP := ⟨[.int .i64], []⟩
noncomputable def tab51 (N : Nat) : List (Nat × (Pk → Tr Pk)) := [(48, T48 N)]
theorem tab51_ok (N : Nat) : TabOK Tryz.prog (tab51 N) := ⟨T48_ok N, trivial⟩
@[reducible] def w51 : List SP := [⟨[.str], []⟩]
noncomputable def F51 (N : Nat) : (Int) → Option (ByteArray)
  | x0 =>
  iteP (IntKind.wrap IntKind.i64 (IntKind.wrap IntKind.i32 x0) != x0) (
    some (ByteArray.mk #[])) (
    Option.bind (F48 N ((4 : Int), IntKind.wrap IntKind.i64 (IntKind.wrap IntKind.u32 x0))) fun y0 =>
    some y0.1)
noncomputable def T51 (N : Nat) : Pk → Tr Pk := tellS s51 w51 (F51 N)
theorem T51_ok (N : Nat) : FOK Tryz.prog (51) (T51 N) :=
  (fn_ok2 ownT mix (tab51_ok N) Tryz.func51 s51 w51 [] (cuts := []) trivial (fun _ => by kernel_rfl) (by decide +kernel) (F51 N) (fun x => by kernel_rfl))
@[reducible] def s34 : SP := ⟨[.adr 0 [], .int .i64], [.var 84 (.agg [.agg [.adr 0 [.f 0 0], .sl 1], .bool]), .row (.int .u8) 5]⟩
noncomputable def tab34 (N : Nat) : List (Nat × (Pk → Tr Pk)) := [(51, T51 N), (32, T32c N)]
theorem tab34_ok (N : Nat) : TabOK Tryz.prog (tab34 N) := ⟨T51_ok N, T32c_ok N, trivial⟩
@[reducible] def w34 : List SP := [⟨[.tup []], [.var 84 (.agg [.agg [.adr 0 [.f 0 0], .sl 1], .bool]), .row (.int .u8) 5]⟩]
noncomputable def F34 (N : Nat) : (Int × Bool × (List Int)) → Option (Bool × (List Int))
  | (x0, x1, x2) =>
  Option.bind (F51 N x0) fun y0 =>
  iteP (x1) (
    Option.bind (F32c N (y0, true, x2)) fun y1 =>
    some ((y1.2.1, y1.2.2))) (
    Option.bind (F32c N (y0, ByteArray.toList y0 == [], x2)) fun y2 =>
    some ((y2.2.1, y2.2.2)))
noncomputable def T34 (N : Nat) : Pk → Tr Pk := tellS s34 w34 (F34 N)
theorem T34_ok (N : Nat) : FOK Tryz.prog (34) (T34 N) :=
  (fn_ok2 ownT mix (tab34_ok N) Tryz.func34 s34 w34 [0, 0] (cuts := []) trivial (fun _ => by kernel_rfl) (by decide +kernel) (F34 N) (fun x => by kernel_rfl))
@[reducible] def s34a : SP := ⟨[.adr 0 [], .int .i64], [.var 84 (.agg [.agg [.nilp, .sl 1], .bool]), .row (.int .u8) 5]⟩
noncomputable def tab34a (N : Nat) : List (Nat × (Pk → Tr Pk)) := [(51, T51 N), (32, T32b N)]
theorem tab34a_ok (N : Nat) : TabOK Tryz.prog (tab34a N) := ⟨T51_ok N, T32b_ok N, trivial⟩
@[reducible] def w34a : List SP := [⟨[.tup []], [.var 84 (.agg [.agg [.adr 0 [.f 0 0], .sl 1], .bool]), .row (.int .u8) 5]⟩]
noncomputable def F34a (N : Nat) : (Int × Bool × (List Int)) → Option (Bool × (List Int))
  | (x0, x1, x2) =>
  Option.bind (F51 N x0) fun y0 =>
  iteP (x1) (
    Option.bind (F32b N (y0, true, x2)) fun y1 =>
    some ((y1.2.1, y1.2.2))) (
    Option.bind (F32b N (y0, ByteArray.toList y0 == [], x2)) fun y2 =>
    some ((y2.2.1, y2.2.2)))
noncomputable def T34a (N : Nat) : Pk → Tr Pk := tellS s34a w34a (F34a N)
theorem T34a_ok (N : Nat) : FOK Tryz.prog (34) (T34a N) :=
  (fn_ok2 ownT mix (tab34a_ok N) Tryz.func34 s34a w34a [0] (cuts := []) trivial (fun _ => by kernel_rfl) (by decide +kernel) (F34a N) (fun x => by kernel_rfl))
@[reducible] def s35 : SP := ⟨[.bool], []⟩
noncomputable def tab35 (N : Nat) : List (Nat × (Pk → Tr Pk)) := []
theorem tab35_ok (N : Nat) : TabOK Tryz.prog (tab35 N) := trivial
@[reducible] def w35 : List SP := [⟨[.int .i64], []⟩]
noncomputable def F35 (N : Nat) : (Bool) → Option (Int)
  | x0 =>
  iteP (x0) (
    some ((1 : Int))) (
    some ((0 : Int)))
noncomputable def T35 (N : Nat) : Pk → Tr Pk := tellS s35 w35 (F35 N)
theorem T35_ok (N : Nat) : FOK Tryz.prog (35) (T35 N) :=
  (fn_ok2 ownT mix (tab35_ok N) Tryz.func35 s35 w35 [] (cuts := []) trivial (fun _ => by kernel_rfl) (by decide +kernel) (F35 N) (fun x => by kernel_rfl))
@[reducible] def s12 : SP := ⟨[.agg [.int .i64, .bool, .int .i64, .agg [.int .i64, .int .i64, .int .i64, .int .i64], .agg [.int .i64, .int .i64, .bool, .bool, .int .i64, .int .i64, .int .i64, .int .i64, .int .i64, .int .i64], .ro (.int .i64), .str]], []⟩
noncomputable def tab12 (N : Nat) : List (Nat × (Pk → Tr Pk)) := [(6, T6 N), (31, orT s31.I (T31 N) (T31a N)), (33, T33 N), (32, orT s32c.I (T32c N) (T32b N)), (34, orT s34.I (T34 N) (T34a N)), (35, T35 N)]
theorem tab12_ok (N : Nat) : TabOK Tryz.prog (tab12 N) := ⟨T6_ok N, orT_ok (T31_ok N) (T31a_ok N), T33_ok N, orT_ok (T32c_ok N) (T32b_ok N), orT_ok (T34_ok N) (T34a_ok N), T35_ok N, trivial⟩
@[reducible] def L12_31 : LD := ⟨31, [4], [(.ret, [2, 3]), (.normal, [2, 3])], ⟨[.adr 0 []], [.var 84 (.agg [.agg [.adr 0 [.f 0 0], .sl 1], .bool]), .row (.int .u8) 5]⟩, [(.ret, ⟨[.str, .int .i64], []⟩)]⟩
noncomputable def F12_31 (N : Nat) : (Bool × (List Int)) → Option (ByteArray × Int)
  | (x0, x1) =>
  iteP (x0) (
    some ((ByteArray.mk #[], (1 : Int)))) (
    iteP (decide ((0 : Nat) < List.length x1 ∧ List.length x1 ≤ (140737488355328 : Nat))) (
      some ((stringOf x1, (0 : Int)))) (
      iteP (decide (List.length x1 = (0 : Nat))) (
        some ((ByteArray.empty, (0 : Int)))) (
        none )))
noncomputable def C12_31 (N : Nat) (_ : Nat) : Cut := L12_31.cut (F12_31 N)
theorem C12_31_ok (N : Nat) (k : Nat) : CutAt Tryz.prog false Tryz.f12 [] 31 (C12_31 N k) :=
  L12_31.pieceT ownT mix (tab12_ok N) Tryz.f12 [] (cuts := []) trivial (by decide +kernel) (by kernel_rfl) (F12_31 N) (fun x => by kernel_rfl)
@[reducible] def L12_62942 : LD := ⟨62942, [43, 42, 41, 4], [(.ret, [2, 3]), (.exit 1, [4]), (.exit 0, [4])], ⟨[.int .i64, .int .i64, .ro (.int .i64), .adr 0 []], [.var 84 (.agg [.agg [.adr 0 [.f 0 0], .sl 1], .bool]), .row (.int .u8) 5]⟩, [(.exit 1, ⟨[.adr 0 []], [.var 84 (.agg [.agg [.adr 0 [.f 0 0], .sl 1], .bool]), .row (.int .u8) 5]⟩)]⟩
abbrev P12_62942 : Type := Int × Int × (List Int) × Bool × (List Int)
abbrev R12_62942 : Type := Bool × (List Int)
noncomputable def B12_62942 (N : Nat) (f : P12_62942 → Option R12_62942) : P12_62942 → Option R12_62942
  | (x0, x1, x2, x3, x4) =>
  iteP (decide (x0 < x1)) (
    iteP (within x0 (List.length x2)) (
      Option.bind (x2[Int.toNat x0]?) fun y0 =>
      Option.bind (F34 N (y0, x3, x4)) fun y1 =>
      Option.bind (f (IntKind.wrap IntKind.i64 (x0 + (1 : Int)), x1, x2, y1.1, y1.2)) fun r => some r) (
      none )) (
    some ((x3, x4)))
noncomputable def F12_62942 (N : Nat) : Nat → P12_62942 → Option R12_62942
  | 0, _ => none
  | k + 1, x => B12_62942 N (F12_62942 N k) x
noncomputable def C12_62942 (N : Nat) (k : Nat) : Cut := L12_62942.cut (F12_62942 N k)
theorem C12_62942_ok (N : Nat) (k : Nat) : CutAt Tryz.prog false Tryz.f12 [] 62942 (C12_62942 N k) :=
  L12_62942.loopT ownT mix (tab12_ok N) Tryz.f12 [] (cuts := [(31, C12_31 N N)]) ⟨C12_31_ok N N, trivial⟩ (by decide +kernel) (by kernel_rfl) (B12_62942 N) (F12_62942 N) (fun _ => rfl) (fun _ _ => rfl) (fun f x => by kernel_rfl) k
@[reducible] def L12_62942bn : LD := ⟨62942, [43, 42, 41, 4], [(.ret, [2, 3]), (.exit 1, [4]), (.exit 0, [4])], ⟨[.int .i64, .int .i64, .ro (.int .i64), .adr 0 []], [.var 84 (.agg [.agg [.adr 0 [.f 0 0], .sl 1], .bool]), .row (.int .u8) 5]⟩, [(.exit 1, ⟨[.adr 0 []], [.var 84 (.agg [.agg [.adr 0 [.f 0 0], .sl 1], .bool]), .row (.int .u8) 5]⟩), (.exit 1, ⟨[.adr 0 []], [.var 84 (.agg [.agg [.nilp, .sl 1], .bool]), .row (.int .u8) 5]⟩)]⟩
abbrev P12_62942bn : Type := Int × Int × (List Int) × Bool × (List Int)
abbrev R12_62942bn : Type := ((Bool × (List Int)) ⊕ (Bool × (List Int)))
noncomputable def B12_62942bn (N : Nat) (f : P12_62942bn → Option R12_62942bn) : P12_62942bn → Option R12_62942bn
  | (x0, x1, x2, x3, x4) =>
  iteP (decide (x0 < x1)) (
    iteP (within x0 (List.length x2)) (
      Option.bind (x2[Int.toNat x0]?) fun y0 =>
      Option.bind (F34 N (y0, x3, x4)) fun y1 =>
      Option.bind (f (IntKind.wrap IntKind.i64 (x0 + (1 : Int)), x1, x2, y1.1, y1.2)) fun r => match r with | .inl y => some (.inl y) | .inr y => some (.inr y)) (
      none )) (
    some (.inl ((x3, x4))))
noncomputable def F12_62942bn (N : Nat) : Nat → P12_62942bn → Option R12_62942bn
  | 0, _ => none
  | k + 1, x => B12_62942bn N (F12_62942bn N k) x
noncomputable def C12_62942bn (N : Nat) (k : Nat) : Cut := L12_62942bn.cut (F12_62942bn N k)
theorem C12_62942bn_ok (N : Nat) (k : Nat) : CutAt Tryz.prog false Tryz.f12 [] 62942 (C12_62942bn N k) :=
  L12_62942bn.loopT ownT mix (tab12_ok N) Tryz.f12 [] (cuts := [(31, C12_31 N N), (62942, C12_62942 N N)]) ⟨C12_31_ok N N, C12_62942_ok N N, trivial⟩ (by decide +kernel) (by kernel_rfl) (B12_62942bn N) (F12_62942bn N) (fun _ => rfl) (fun _ _ => rfl) (fun f x => by kernel_rfl) k
@[reducible] def L12_62942b : LD := ⟨62942, L12_62942bn.live, L12_62942bn.out, ⟨[.int .i64, .int .i64, .ro (.int .i64), .adr 0 []], [.var 84 (.agg [.agg [.nilp, .sl 1], .bool]), .row (.int .u8) 5]⟩, L12_62942bn.w⟩
noncomputable def B12_62942b (N : Nat) (f : (Int × Int × (List Int) × Bool × (List Int)) → Option (((Bool × (List Int)) ⊕ (Bool × (List Int))))) : (Int × Int × (List Int) × Bool × (List Int)) → Option (((Bool × (List Int)) ⊕ (Bool × (List Int))))
  | (x0, x1, x2, x3, x4) =>
  iteP (decide (x0 < x1)) (
    iteP (within x0 (List.length x2)) (
      Option.bind (x2[Int.toNat x0]?) fun y0 =>
      Option.bind (F34a N (y0, x3, x4)) fun y1 =>
      Option.bind (f (IntKind.wrap IntKind.i64 (x0 + (1 : Int)), x1, x2, y1.1, y1.2)) fun r => match r with | .inl y => some (.inl y) | .inr y => some (.inr y)) (
      none )) (
    some (.inr ((x3, x4))))
noncomputable def F12_62942b (N : Nat) (k : Nat) : (Int × Int × (List Int) × Bool × (List Int)) → Option (((Bool × (List Int)) ⊕ (Bool × (List Int)))) := B12_62942b N (F12_62942bn N k)
noncomputable def C12_62942b (N : Nat) (k : Nat) : Cut := L12_62942b.cut (F12_62942b N k)
theorem C12_62942b_ok (N : Nat) (k : Nat) : CutAt Tryz.prog false Tryz.f12 [] 62942 (C12_62942b N k) :=
  L12_62942b.loop2T ownT mix (tab12_ok N) L12_62942bn.s Tryz.f12 [] (cuts := [(31, C12_31 N N), (62942, orC L12_62942.s.I (C12_62942 N N) (C12_62942bn N N))]) ⟨C12_31_ok N N, fun c' h => orC_ok (C12_62942_ok N N c' h) (C12_62942bn_ok N N c' h) rfl rfl, trivial⟩ (by decide +kernel) (by kernel_rfl) (B12_62942b N) (B12_62942bn N) (F12_62942bn N) (fun _ => rfl) (fun _ _ => rfl) (fun f g x => by kernel_rfl) (fun f g x => by kernel_rfl) k
@[reducible] def L12_31b : LD := ⟨31, [4], [(.ret, [2, 3]), (.normal, [2, 3])], ⟨[.adr 0 []], [.var 84 (.agg [.agg [.nilp, .sl 1], .bool]), .row (.int .u8) 5]⟩, [(.ret, ⟨[.str, .int .i64], []⟩)]⟩
noncomputable def F12_31b (N : Nat) : (Bool × (List Int)) → Option (ByteArray × Int)
  | (x0, x1) =>
  iteP (x0) (
    some ((ByteArray.mk #[], (1 : Int)))) (
    iteP (decide ((0 : Nat) < List.length x1 ∧ List.length x1 ≤ (140737488355328 : Nat))) (
      some ((stringOf x1, (0 : Int)))) (
      iteP (decide (List.length x1 = (0 : Nat))) (
        some ((ByteArray.empty, (0 : Int)))) (
        none )))
noncomputable def C12_31b (N : Nat) (_ : Nat) : Cut := L12_31b.cut (F12_31b N)
theorem C12_31b_ok (N : Nat) (k : Nat) : CutAt Tryz.prog false Tryz.f12 [] 31 (C12_31b N k) :=
  L12_31b.pieceT ownT mix (tab12_ok N) Tryz.f12 [] (cuts := [(31, C12_31 N N), (62942, orC L12_62942.s.I (C12_62942 N N) (orC L12_62942bn.s.I (C12_62942bn N N) (C12_62942b N N)))]) ⟨C12_31_ok N N, fun c' h => orC_ok (C12_62942_ok N N c' h) (orC_ok (C12_62942bn_ok N N c' h) (C12_62942b_ok N N c' h) rfl rfl) rfl rfl, trivial⟩ (by decide +kernel) (by kernel_rfl) (F12_31b N) (fun x => by kernel_rfl)
@[reducible] def w12 : List SP := [⟨[.tup [.str, .int .i64]], []⟩]
noncomputable def F12 (N : Nat) : (Int × Bool × Int × Int × Int × Int × Int × Int × Int × Bool × Bool × Int × Int × Int × Int × Int × Int × (List Int) × ByteArray) → Option (ByteArray × Int)
  | (x0, x1, x2, x3, x4, x5, x6, x7, x8, x9, x10, x11, x12, x13, x14, x15, x16, x17, x18) =>
  iteP (x0 == (0 : Int)) (
    Option.bind (F6 N (x7, x8, x9, x10, x11, x12, x13, x14, x15, x16)) fun y0 =>
    iteP (!y0) (
      some ((ByteArray.mk #[], (130 : Int)))) (
      Option.bind (F31 N ((4 : Int), [(0 : Int)], false, [])) fun y1 =>
      match y1 with
      | .inl y2 =>
        Option.bind (F33 N (x7, x8, x9, x10, x11, x12, x13, x14, x15, x16)) fun y3 =>
        Option.bind (F32c N (y3, y2.1, y2.2)) fun y4 =>
        Option.bind (F12_31 N (y4.2.1, y4.2.2)) fun y5 =>
        some ((y5.1, y5.2))
      | .inr y2 =>
        Option.bind (F33 N (x7, x8, x9, x10, x11, x12, x13, x14, x15, x16)) fun y6 =>
        Option.bind (F32b N (y6, y2.1, y2.2)) fun y7 =>
        Option.bind (F12_31 N (y7.2.1, y7.2.2)) fun y8 =>
        some ((y8.1, y8.2)))) (
    iteP (x0 == (1 : Int)) (
      Option.bind (F31 N ((1 : Int), [(2 : Int), (0 : Int)], decide ((↑(List.length x17) : Int) > (256 : Int)), [])) fun y9 =>
      match y9 with
      | .inl y10 =>
        Option.bind (F31a N ((2 : Int), [(↑(List.length x17) : Int)], y10.1, y10.2)) fun y11 =>
        Option.bind (F12_62942 N N ((0 : Int), (↑(List.length x17) : Int), x17, y11.1, y11.2)) fun y12 =>
        Option.bind (F12_31 N (y12.1, y12.2)) fun y13 =>
        some ((y13.1, y13.2))
      | .inr y10 =>
        Option.bind (F31 N ((2 : Int), [(↑(List.length x17) : Int)], y10.1, y10.2)) fun y14 =>
        match y14 with
        | .inl y15 =>
          Option.bind (F12_62942 N N ((0 : Int), (↑(List.length x17) : Int), x17, y15.1, y15.2)) fun y16 =>
          Option.bind (F12_31 N (y16.1, y16.2)) fun y17 =>
          some ((y17.1, y17.2))
        | .inr y15 =>
          Option.bind (F12_62942b N N ((0 : Int), (↑(List.length x17) : Int), x17, y15.1, y15.2)) fun y18 =>
          match y18 with
          | .inl y19 =>
            Option.bind (F12_31 N (y19.1, y19.2)) fun y20 =>
            some ((y20.1, y20.2))
          | .inr y19 =>
            Option.bind (F12_31b N (y19.1, y19.2)) fun y21 =>
            some ((y21.1, y21.2))) (
      iteP (x0 == (2 : Int)) (
        Option.bind (F35 N x1) fun y22 =>
        Option.bind (F31 N ((1 : Int), [(3 : Int), y22], false, [])) fun y23 =>
        match y23 with
        | .inl y24 =>
          Option.bind (F31a N ((2 : Int), [x3, x4, x5, x6], y24.1, y24.2)) fun y25 =>
          Option.bind (F12_31 N (y25.1, y25.2)) fun y26 =>
          some ((y26.1, y26.2))
        | .inr y24 =>
          Option.bind (F31 N ((2 : Int), [x3, x4, x5, x6], y24.1, y24.2)) fun y27 =>
          match y27 with
          | .inl y28 =>
            Option.bind (F12_31 N (y28.1, y28.2)) fun y29 =>
            some ((y29.1, y29.2))
          | .inr y28 =>
            Option.bind (F12_31b N (y28.1, y28.2)) fun y30 =>
            some ((y30.1, y30.2))) (
        iteP (x0 == (3 : Int)) (
          Option.bind (F35 N x1) fun y31 =>
          Option.bind (F31 N ((1 : Int), [(4 : Int), y31, (0 : Int), (0 : Int)], false, [])) fun y32 =>
          match y32 with
          | .inl y33 =>
            Option.bind (F31a N ((4 : Int), [x2], y33.1, y33.2)) fun y34 =>
            Option.bind (F12_31 N (y34.1, y34.2)) fun y35 =>
            some ((y35.1, y35.2))
          | .inr y33 =>
            Option.bind (F31 N ((4 : Int), [x2], y33.1, y33.2)) fun y36 =>
            match y36 with
            | .inl y37 =>
              Option.bind (F12_31 N (y37.1, y37.2)) fun y38 =>
              some ((y38.1, y38.2))
            | .inr y37 =>
              Option.bind (F12_31b N (y37.1, y37.2)) fun y39 =>
              some ((y39.1, y39.2))) (
          iteP (x0 == (4 : Int)) (
            Option.bind (F31 N ((1 : Int), [(5 : Int), x2], false, [])) fun y40 =>
            match y40 with
            | .inl y41 =>
              Option.bind (F31a N ((2 : Int), [x3, x4], y41.1, y41.2)) fun y42 =>
              Option.bind (F12_31 N (y42.1, y42.2)) fun y43 =>
              some ((y43.1, y43.2))
            | .inr y41 =>
              Option.bind (F31 N ((2 : Int), [x3, x4], y41.1, y41.2)) fun y44 =>
              match y44 with
              | .inl y45 =>
                Option.bind (F12_31 N (y45.1, y45.2)) fun y46 =>
                some ((y46.1, y46.2))
              | .inr y45 =>
                Option.bind (F12_31b N (y45.1, y45.2)) fun y47 =>
                some ((y47.1, y47.2))) (
            iteP (x0 == (5 : Int)) (
              Option.bind (F31 N ((1 : Int), [(6 : Int), (0 : Int), (0 : Int), (0 : Int)], decide ((↑(ByteArray.size x18) : Int) > (4096 : Int)), [])) fun y48 =>
              match y48 with
              | .inl y49 =>
                Option.bind (F31a N ((4 : Int), [(↑(ByteArray.size x18) : Int)], y49.1, y49.2)) fun y50 =>
                Option.bind (F32c N (x18, y50.1, y50.2)) fun y51 =>
                Option.bind (F12_31 N (y51.2.1, y51.2.2)) fun y52 =>
                some ((y52.1, y52.2))
              | .inr y49 =>
                Option.bind (F31 N ((4 : Int), [(↑(ByteArray.size x18) : Int)], y49.1, y49.2)) fun y53 =>
                match y53 with
                | .inl y54 =>
                  Option.bind (F32c N (x18, y54.1, y54.2)) fun y55 =>
                  Option.bind (F12_31 N (y55.2.1, y55.2.2)) fun y56 =>
                  some ((y56.1, y56.2))
                | .inr y54 =>
                  Option.bind (F32b N (x18, y54.1, y54.2)) fun y57 =>
                  Option.bind (F12_31 N (y57.2.1, y57.2.2)) fun y58 =>
                  some ((y58.1, y58.2))) (
              Option.bind (F12_31b N (true, [])) fun y59 =>
              some ((y59.1, y59.2))))))))
noncomputable def T12 (N : Nat) : Pk → Tr Pk := tellS s12 w12 (F12 N)
theorem T12_ok (N : Nat) : FOK Tryz.prog (12) (T12 N) :=
  (fn_ok2 ownT mix (tab12_ok N) Tryz.func12 s12 w12 [] (cuts := [(31, orC L12_31.s.I (C12_31 N N) (C12_31b N N)), (62942, orC L12_62942.s.I (C12_62942 N N) (orC L12_62942bn.s.I (C12_62942bn N N) (C12_62942b N N)))]) ⟨fun c' h => orC_ok (C12_31_ok N N c' h) (C12_31b_ok N N c' h) rfl rfl, fun c' h => orC_ok (C12_62942_ok N N c' h) (orC_ok (C12_62942bn_ok N N c' h) (C12_62942b_ok N N c' h) rfl rfl) rfl rfl, trivial⟩ (fun _ => by kernel_rfl) (by decide +kernel) (F12 N) (fun x => by kernel_rfl))
@[reducible] def s14 : SP := ⟨[.adr 0 []], [.var 74 (.agg [.nilp, .str, .str, .fv, .int .i64, .agg [.sl 1], .agg [.agg [.agg [.agg [.bool, .str], .int .i64]]], .agg [.int .i64, .int .i64, .bool, .bool, .int .i64, .int .i64, .int .i64, .int .i64, .int .i64, .int .i64], .int .i64, .int .i64, .int .i64]), .row y0 38]⟩
noncomputable def tab14 (N : Nat) : List (Nat × (Pk → Tr Pk)) := []
theorem tab14_ok (N : Nat) : TabOK Tryz.prog (tab14 N) := trivial
@[reducible] def w14 : List SP := [⟨[.bool], [.var 74 (.agg [.nilp, .str, .str, .fv, .int .i64, .agg [.sl 1], .agg [.agg [.agg [.agg [.bool, .str], .int .i64]]], .agg [.int .i64, .int .i64, .bool, .bool, .int .i64, .int .i64, .int .i64, .int .i64, .int .i64, .int .i64], .int .i64, .int .i64, .int .i64]), .row y0 38]⟩]
noncomputable def F14 (N : Nat) : (ByteArray × ByteArray × Nat × Int × Bool × ByteArray × Int × Int × Int × Bool × Bool × Int × Int × Int × Int × Int × Int × Int × Int × Int × (List (Int × (Bool × (Int × ((Int × (Int × (Int × (Int × Unit)))) × ((Int × (Int × (Bool × (Bool × (Int × (Int × (Int × (Int × (Int × (Int × Unit)))))))))) × ((List Int) × (ByteArray × Unit))))))))) → Option (Bool × ByteArray × ByteArray × Nat × Int × Bool × ByteArray × Int × Int × Int × Bool × Bool × Int × Int × Int × Int × Int × Int × Int × Int × Int × (List (Int × (Bool × (Int × ((Int × (Int × (Int × (Int × Unit)))) × ((Int × (Int × (Bool × (Bool × (Int × (Int × (Int × (Int × (Int × (Int × Unit)))))))))) × ((List Int) × (ByteArray × Unit)))))))))
  | (x0, x1, x2, x3, x4, x5, x6, x7, x8, x9, x10, x11, x12, x13, x14, x15, x16, x17, x18, x19, x20) =>
  some ((decide (x18 > x19), x0, x1, x2, x3, x4, x5, x6, x7, x8, x9, x10, x11, x12, x13, x14, x15, x16, x17, x18, x19, x20))
noncomputable def T14 (N : Nat) : Pk → Tr Pk := tellS s14 w14 (F14 N)
theorem T14_ok (N : Nat) : FOK Tryz.prog (14) (T14 N) :=
  (fn_ok2 ownT mix (tab14_ok N) Tryz.func14 s14 w14 [0] (cuts := []) trivial (fun _ => by kernel_rfl) (by decide +kernel) (F14 N) (fun x => by kernel_rfl))
@[reducible] def s13 : SP := ⟨[.adr 0 [], .agg [.int .i64, .bool, .int .i64, .agg [.int .i64, .int .i64, .int .i64, .int .i64], .agg [.int .i64, .int .i64, .bool, .bool, .int .i64, .int .i64, .int .i64, .int .i64, .int .i64, .int .i64], .ro (.int .i64), .str]], [.var 74 (.agg [.nilp, .str, .str, .fv, .int .i64, .agg [.sl 1], .agg [.agg [.agg [.agg [.bool, .str], .int .i64]]], .agg [.int .i64, .int .i64, .bool, .bool, .int .i64, .int .i64, .int .i64, .int .i64, .int .i64, .int .i64], .int .i64, .int .i64, .int .i64]), .row y0 38]⟩
noncomputable def tab13 (N : Nat) : List (Nat × (Pk → Tr Pk)) := [(12, T12 N), (25, T25 N), (14, T14 N)]
theorem tab13_ok (N : Nat) : TabOK Tryz.prog (tab13 N) := ⟨T12_ok N, T25_ok N, T14_ok N, trivial⟩
@[reducible] def w13 : List SP := [⟨[.int .i64], [.var 74 (.agg [.nilp, .str, .str, .fv, .int .i64, .agg [.sl 1], .agg [.agg [.agg [.agg [.bool, .str], .int .i64]]], .agg [.int .i64, .int .i64, .bool, .bool, .int .i64, .int .i64, .int .i64, .int .i64, .int .i64, .int .i64], .int .i64, .int .i64, .int .i64]), .row y0 38]⟩]
noncomputable def F13 (N : Nat) : (Int × Bool × Int × Int × Int × Int × Int × Int × Int × Bool × Bool × Int × Int × Int × Int × Int × Int × (List Int) × ByteArray × ByteArray × ByteArray × Nat × Int × Bool × ByteArray × Int × Int × Int × Bool × Bool × Int × Int × Int × Int × Int × Int × Int × Int × Int × (List (Int × (Bool × (Int × ((Int × (Int × (Int × (Int × Unit)))) × ((Int × (Int × (Bool × (Bool × (Int × (Int × (Int × (Int × (Int × (Int × Unit)))))))))) × ((List Int) × (ByteArray × Unit))))))))) → Option (Int × ByteArray × ByteArray × Nat × Int × Bool × ByteArray × Int × Int × Int × Bool × Bool × Int × Int × Int × Int × Int × Int × Int × Int × Int × (List (Int × (Bool × (Int × ((Int × (Int × (Int × (Int × Unit)))) × ((Int × (Int × (Bool × (Bool × (Int × (Int × (Int × (Int × (Int × (Int × Unit)))))))))) × ((List Int) × (ByteArray × Unit)))))))))
  | (x0, x1, x2, x3, x4, x5, x6, x7, x8, x9, x10, x11, x12, x13, x14, x15, x16, x17, x18, x19, x20, x21, x22, x23, x24, x25, x26, x27, x28, x29, x30, x31, x32, x33, x34, x35, x36, x37, x38, x39) =>
  iteP (x22 != (0 : Int)) (
    some (((6 : Int), x19, x20, x21, x22, x23, x24, x25, x26, x27, x28, x29, x30, x31, x32, x33, x34, x35, x36, x37, x38, x39))) (
    Option.bind (F12 N (x0, x1, x2, x3, x4, x5, x6, x7, x8, x9, x10, x11, x12, x13, x14, x15, x16, x17, x18)) fun y0 =>
    iteP (y0.2 != (0 : Int)) (
      some ((y0.2, x19, x20, x21, x22, x23, x24, x25, x26, x27, x28, x29, x30, x31, x32, x33, x34, x35, x36, x37, x38, x39))) (
      Option.bind (F25 N (x19, x20, x21, x22, x23, x24, x25, x26, x27, x28, x29, x30, x31, x32, x33, x34, x35, x36, x37, x38, x39)) fun (y1_0, y1_1, y1_2, y1_3, y1_4, y1_5, y1_6, y1_7, y1_8, y1_9, y1_10, y1_11, y1_12, y1_13, y1_14, y1_15, y1_16, y1_17, y1_18, y1_19, y1_20, y1_21) =>
      iteP (!y1_0) (
        some (((5 : Int), y1_1, y1_2, y1_3, y1_4, y1_5, y1_6, y1_7, y1_8, y1_9, y1_10, y1_11, y1_12, y1_13, y1_14, y1_15, y1_16, y1_17, y1_18, y1_19, y1_20, y1_21))) (
        iteP (!ByteArray.toList y1_2 == []) (
          some (((5 : Int), y1_1, y1_2, y1_3, y1_4, y1_5, y1_6, y1_7, y1_8, y1_9, y1_10, y1_11, y1_12, y1_13, y1_14, y1_15, y1_16, y1_17, y1_18, y1_19, y1_20, y1_21))) (
          iteP (x0 == (0 : Int)) (
            Option.bind (F14 N (y1_1, y1_2, y1_3, y1_4, y1_5, y1_6, y1_7, y1_8, y1_9, y1_10, y1_11, y1_12, y1_13, y1_14, y1_15, y1_16, y1_17, y1_18, y1_19, y1_20, y1_21)) fun (y2_0, y2_1, y2_2, y2_3, y2_4, y2_5, y2_6, y2_7, y2_8, y2_9, y2_10, y2_11, y2_12, y2_13, y2_14, y2_15, y2_16, y2_17, y2_18, y2_19, y2_20, y2_21) =>
            iteP (y2_0) (
              some (((5 : Int), y2_1, y2_2, y2_3, y2_4, y2_5, y2_6, y2_7, y2_8, y2_9, y2_10, y2_11, y2_12, y2_13, y2_14, y2_15, y2_16, y2_17, y2_18, y2_19, y2_20, y2_21))) (
              iteP (x0 == (2 : Int)) (
                some (((0 : Int), y2_1, y0.1, y2_3, y2_4, y2_5, y2_6, y2_7, y2_8, y2_9, y2_10, y2_11, y2_12, y2_13, y2_14, y2_15, y2_16, y2_17, y2_18, IntKind.wrap IntKind.i64 (y2_19 + (1 : Int)), y2_20, y2_21))) (
                iteP (x0 == (0 : Int)) (
                  some (((0 : Int), y2_1, y0.1, y2_3, y2_4, y2_5, y2_6, y2_7, x7, x8, x9, x10, x11, x12, x13, x14, x15, x16, y2_18, y2_19, y2_20, y2_21))) (
                  some (((0 : Int), y2_1, y0.1, y2_3, y2_4, y2_5, y2_6, y2_7, y2_8, y2_9, y2_10, y2_11, y2_12, y2_13, y2_14, y2_15, y2_16, y2_17, y2_18, y2_19, y2_20, y2_21)))))) (
            iteP (x0 == (2 : Int)) (
              some (((0 : Int), y1_1, y0.1, y1_3, y1_4, y1_5, y1_6, y1_7, y1_8, y1_9, y1_10, y1_11, y1_12, y1_13, y1_14, y1_15, y1_16, y1_17, y1_18, IntKind.wrap IntKind.i64 (y1_19 + (1 : Int)), y1_20, y1_21))) (
              iteP (x0 == (0 : Int)) (
                some (((0 : Int), y1_1, y0.1, y1_3, y1_4, y1_5, y1_6, y1_7, x7, x8, x9, x10, x11, x12, x13, x14, x15, x16, y1_18, y1_19, y1_20, y1_21))) (
                some (((0 : Int), y1_1, y0.1, y1_3, y1_4, y1_5, y1_6, y1_7, y1_8, y1_9, y1_10, y1_11, y1_12, y1_13, y1_14, y1_15, y1_16, y1_17, y1_18, y1_19, y1_20, y1_21)))))))))
noncomputable def T13 (N : Nat) : Pk → Tr Pk := tellS s13 w13 (F13 N)
theorem T13_ok (N : Nat) : FOK Tryz.prog (13) (T13 N) :=
  (fn_ok2 ownT mix (tab13_ok N) Tryz.func13 s13 w13 [0] (cuts := []) trivial (fun _ => by kernel_rfl) (by decide +kernel) (F13 N) (fun x => by kernel_rfl))
@[reducible] def s16 : SP := ⟨[.adr 0 []], [.var 74 (.agg [.nilp, .str, .str, .fv, .int .i64, .agg [.sl 1], .agg [.agg [.agg [.agg [.bool, .str], .int .i64]]], .agg [.int .i64, .int .i64, .bool, .bool, .int .i64, .int .i64, .int .i64, .int .i64, .int .i64, .int .i64], .int .i64, .int .i64, .int .i64]), .row y0 38]⟩
noncomputable def tab16 (N : Nat) : List (Nat × (Pk → Tr Pk)) := []
theorem tab16_ok (N : Nat) : TabOK Tryz.prog (tab16 N) := trivial
@[reducible] def w16 : List SP := [⟨[.int .i64], [.var 74 (.agg [.nilp, .str, .str, .fv, .int .i64, .agg [.sl 1], .agg [.agg [.agg [.agg [.bool, .str], .int .i64]]], .agg [.int .i64, .int .i64, .bool, .bool, .int .i64, .int .i64, .int .i64, .int .i64, .int .i64, .int .i64], .int .i64, .int .i64, .int .i64]), .row y0 38]⟩]
noncomputable def F16 (N : Nat) : (ByteArray × ByteArray × Nat × Int × Bool × ByteArray × Int × Int × Int × Bool × Bool × Int × Int × Int × Int × Int × Int × Int × Int × Int × (List (Int × (Bool × (Int × ((Int × (Int × (Int × (Int × Unit)))) × ((Int × (Int × (Bool × (Bool × (Int × (Int × (Int × (Int × (Int × (Int × Unit)))))))))) × ((List Int) × (ByteArray × Unit))))))))) → Option (Int × ByteArray × ByteArray × Nat × Int × Bool × ByteArray × Int × Int × Int × Bool × Bool × Int × Int × Int × Int × Int × Int × Int × Int × Int × (List (Int × (Bool × (Int × ((Int × (Int × (Int × (Int × Unit)))) × ((Int × (Int × (Bool × (Bool × (Int × (Int × (Int × (Int × (Int × (Int × Unit)))))))))) × ((List Int) × (ByteArray × Unit)))))))))
  | (x0, x1, x2, x3, x4, x5, x6, x7, x8, x9, x10, x11, x12, x13, x14, x15, x16, x17, x18, x19, x20) =>
  some ((x19, x0, x1, x2, x3, x4, x5, x6, x7, x8, x9, x10, x11, x12, x13, x14, x15, x16, x17, x18, x19, x20))
noncomputable def T16 (N : Nat) : Pk → Tr Pk := tellS s16 w16 (F16 N)
theorem T16_ok (N : Nat) : FOK Tryz.prog (16) (T16 N) :=
  (fn_ok2 ownT mix (tab16_ok N) Tryz.func16 s16 w16 [0] (cuts := []) trivial (fun _ => by kernel_rfl) (by decide +kernel) (F16 N) (fun x => by kernel_rfl))
@[reducible] def s22 : SP := ⟨[.adr 0 []], [.var 74 (.agg [.nilp, .str, .str, .fv, .int .i64, .agg [.sl 1], .agg [.agg [.agg [.agg [.bool, .str], .int .i64]]], .agg [.int .i64, .int .i64, .bool, .bool, .int .i64, .int .i64, .int .i64, .int .i64, .int .i64, .int .i64], .int .i64, .int .i64, .int .i64]), .row y0 38]⟩
noncomputable def tab22 (N : Nat) : List (Nat × (Pk → Tr Pk)) := []
theorem tab22_ok (N : Nat) : TabOK Tryz.prog (tab22 N) := trivial
@[reducible] def w22 : List SP := [⟨[.int .i64], [.var 74 (.agg [.nilp, .str, .str, .fv, .int .i64, .agg [.sl 1], .agg [.agg [.agg [.agg [.bool, .str], .int .i64]]], .agg [.int .i64, .int .i64, .bool, .bool, .int .i64, .int .i64, .int .i64, .int .i64, .int .i64, .int .i64], .int .i64, .int .i64, .int .i64]), .row y0 38]⟩]
noncomputable def F22 (N : Nat) : (ByteArray × ByteArray × Nat × Int × Bool × ByteArray × Int × Int × Int × Bool × Bool × Int × Int × Int × Int × Int × Int × Int × Int × Int × (List (Int × (Bool × (Int × ((Int × (Int × (Int × (Int × Unit)))) × ((Int × (Int × (Bool × (Bool × (Int × (Int × (Int × (Int × (Int × (Int × Unit)))))))))) × ((List Int) × (ByteArray × Unit))))))))) → Option (Int × ByteArray × ByteArray × Nat × Int × Bool × ByteArray × Int × Int × Int × Bool × Bool × Int × Int × Int × Int × Int × Int × Int × Int × Int × (List (Int × (Bool × (Int × ((Int × (Int × (Int × (Int × Unit)))) × ((Int × (Int × (Bool × (Bool × (Int × (Int × (Int × (Int × (Int × (Int × Unit)))))))))) × ((List Int) × (ByteArray × Unit)))))))))
  | (x0, x1, x2, x3, x4, x5, x6, x7, x8, x9, x10, x11, x12, x13, x14, x15, x16, x17, x18, x19, x20) =>
  some ((x3, x0, x1, x2, x3, x4, x5, x6, x7, x8, x9, x10, x11, x12, x13, x14, x15, x16, x17, x18, x19, x20))
noncomputable def T22 (N : Nat) : Pk → Tr Pk := tellS s22 w22 (F22 N)
theorem T22_ok (N : Nat) : FOK Tryz.prog (22) (T22 N) :=
  (fn_ok2 ownT mix (tab22_ok N) Tryz.func22 s22 w22 [0] (cuts := []) trivial (fun _ => by kernel_rfl) (by decide +kernel) (F22 N) (fun x => by kernel_rfl))
@[reducible] def s11 : SP := ⟨[.adr 0 []], [.var 74 (.agg [.nilp, .str, .str, .fv, .int .i64, .agg [.sl 1], .agg [.agg [.agg [.agg [.bool, .str], .int .i64]]], .agg [.int .i64, .int .i64, .bool, .bool, .int .i64, .int .i64, .int .i64, .int .i64, .int .i64, .int .i64], .int .i64, .int .i64, .int .i64]), .row y0 38]⟩
noncomputable def tab11 (N : Nat) : List (Nat × (Pk → Tr Pk)) := []
theorem tab11_ok (N : Nat) : TabOK Tryz.prog (tab11 N) := trivial
@[reducible] def w11 : List SP := [⟨[.int .i64], [.var 74 (.agg [.nilp, .str, .str, .fv, .int .i64, .agg [.sl 1], .agg [.agg [.agg [.agg [.bool, .str], .int .i64]]], .agg [.int .i64, .int .i64, .bool, .bool, .int .i64, .int .i64, .int .i64, .int .i64, .int .i64, .int .i64], .int .i64, .int .i64, .int .i64]), .row y0 38]⟩]
noncomputable def F11 (N : Nat) : (ByteArray × ByteArray × Nat × Int × Bool × ByteArray × Int × Int × Int × Bool × Bool × Int × Int × Int × Int × Int × Int × Int × Int × Int × (List (Int × (Bool × (Int × ((Int × (Int × (Int × (Int × Unit)))) × ((Int × (Int × (Bool × (Bool × (Int × (Int × (Int × (Int × (Int × (Int × Unit)))))))))) × ((List Int) × (ByteArray × Unit))))))))) → Option (Int × ByteArray × ByteArray × Nat × Int × Bool × ByteArray × Int × Int × Int × Bool × Bool × Int × Int × Int × Int × Int × Int × Int × Int × Int × (List (Int × (Bool × (Int × ((Int × (Int × (Int × (Int × Unit)))) × ((Int × (Int × (Bool × (Bool × (Int × (Int × (Int × (Int × (Int × (Int × Unit)))))))))) × ((List Int) × (ByteArray × Unit)))))))))
  | (x0, x1, x2, x3, x4, x5, x6, x7, x8, x9, x10, x11, x12, x13, x14, x15, x16, x17, x18, x19, x20) =>
  some (((↑(ByteArray.size x1) : Int), x0, x1, x2, x3, x4, x5, x6, x7, x8, x9, x10, x11, x12, x13, x14, x15, x16, x17, x18, x19, x20))
noncomputable def T11 (N : Nat) : Pk → Tr Pk := tellS s11 w11 (F11 N)
theorem T11_ok (N : Nat) : FOK Tryz.prog (11) (T11 N) :=
  (fn_ok2 ownT mix (tab11_ok N) Tryz.func11 s11 w11 [0] (cuts := []) trivial (fun _ => by kernel_rfl) (by decide +kernel) (F11 N) (fun x => by kernel_rfl))
@[reducible] def s25a : SP := ⟨[.adr 0 []], [.var 74 (.agg [.adr 1 [], .str, .str, .fv, .int .i64, .agg [.sl 2], .agg [.agg [.agg [.agg [.bool, .str], .int .i64]]], .agg [.int .i64, .int .i64, .bool, .bool, .int .i64, .int .i64, .int .i64, .int .i64, .int .i64, .int .i64], .int .i64, .int .i64, .int .i64]), .var 112 (.agg [.int .i64, .int .i64, .sl 3]), .row y0 38, .row (.int .i64) 3]⟩
noncomputable def tab25a (N : Nat) : List (Nat × (Pk → Tr Pk)) := []
theorem tab25a_ok (N : Nat) : TabOK Tryz.prog (tab25a N) := trivial
@[reducible] def w25a : List SP := [⟨[.bool], [.var 74 (.agg [.adr 1 [], .str, .str, .fv, .int .i64, .agg [.sl 2], .agg [.agg [.agg [.agg [.bool, .str], .int .i64]]], .agg [.int .i64, .int .i64, .bool, .bool, .int .i64, .int .i64, .int .i64, .int .i64, .int .i64, .int .i64], .int .i64, .int .i64, .int .i64]), .var 112 (.agg [.int .i64, .int .i64, .sl 3]), .row y0 38, .row (.int .i64) 3]⟩]
noncomputable def F25a (N : Nat) : (ByteArray × ByteArray × Nat × Int × Bool × ByteArray × Int × Int × Int × Bool × Bool × Int × Int × Int × Int × Int × Int × Int × Int × Int × Int × Int × (List (Int × (Bool × (Int × ((Int × (Int × (Int × (Int × Unit)))) × ((Int × (Int × (Bool × (Bool × (Int × (Int × (Int × (Int × (Int × (Int × Unit)))))))))) × ((List Int) × (ByteArray × Unit)))))))) × (List Int)) → Option (Bool × ByteArray × ByteArray × Nat × Int × Bool × ByteArray × Int × Int × Int × Bool × Bool × Int × Int × Int × Int × Int × Int × Int × Int × Int × Int × Int × (List (Int × (Bool × (Int × ((Int × (Int × (Int × (Int × Unit)))) × ((Int × (Int × (Bool × (Bool × (Int × (Int × (Int × (Int × (Int × (Int × Unit)))))))))) × ((List Int) × (ByteArray × Unit)))))))) × (List Int))
  | (x0, x1, x2, x3, x4, x5, x6, x7, x8, x9, x10, x11, x12, x13, x14, x15, x16, x17, x18, x19, x20, x21, x22, x23) =>
  some ((true, x0, x1, x2, x3, x4, x5, x6, x7, x8, x9, x10, x11, x12, x13, x14, x15, x16, x17, x18, x19, x20, x21, x22, x23))
noncomputable def T25a (N : Nat) : Pk → Tr Pk := tellS s25a w25a (F25a N)
theorem T25a_ok (N : Nat) : FOK Tryz.prog (25) (T25a N) :=
  (fn_ok2 ownT mix (tab25a_ok N) Tryz.func25 s25a w25a [0, 1] (cuts := []) trivial (fun _ => by kernel_rfl) (by decide +kernel) (F25a N) (fun x => by kernel_rfl))
@[reducible] def s43a : SP := ⟨[.adr 0 []], [.var 112 (.agg [.int .i64, .int .i64, .sl 1]), .row (.int .i64) 3]⟩
noncomputable def tab43a (N : Nat) : List (Nat × (Pk → Tr Pk)) := []
theorem tab43a_ok (N : Nat) : TabOK Tryz.prog (tab43a N) := trivial
@[reducible] def w43a : List SP := [⟨[.agg [.int .i64, .int .i64, .sl 1]], [.var 112 (.agg [.int .i64, .int .i64, .sl 2]), .row (.int .i64) 3, .row (.int .i64) 3]⟩]
noncomputable def F43a (N : Nat) : (Int × Int × (List Int)) → Option (Int × Int × Int × Int × (List Int) × (List Int))
  | (x0, x1, x2) =>
  iteP (decide (((0 : Nat) + List.length x2) * (8 : Nat) ≤ (140737488355328 : Nat) ∧ (0 : Nat) + List.length x2 ≤ (140737488355328 : Nat))) (
    some ((x0, x1, x0, x1, x2, x2))) (
    none )
noncomputable def T43a (N : Nat) : Pk → Tr Pk := tellS s43a w43a (F43a N)
theorem T43a_ok (N : Nat) : FOK Tryz.prog (43) (T43a N) :=
  (fn_ok2 ownT mix (tab43a_ok N) Tryz.func43 s43a w43a [0] (cuts := []) trivial (fun _ => by kernel_rfl) (by decide +kernel) (F43a N) (fun x => by kernel_rfl))
@[reducible] def s24a : SP := ⟨[.adr 0 []], [.var 74 (.agg [.adr 1 [], .str, .str, .fv, .int .i64, .agg [.sl 2], .agg [.agg [.agg [.agg [.bool, .str], .int .i64]]], .agg [.int .i64, .int .i64, .bool, .bool, .int .i64, .int .i64, .int .i64, .int .i64, .int .i64, .int .i64], .int .i64, .int .i64, .int .i64]), .var 112 (.agg [.int .i64, .int .i64, .sl 3]), .row y0 38, .row (.int .i64) 3]⟩
noncomputable def tab24a (N : Nat) : List (Nat × (Pk → Tr Pk)) := [(25, T25a N), (43, T43a N)]
theorem tab24a_ok (N : Nat) : TabOK Tryz.prog (tab24a N) := ⟨T25a_ok N, T43a_ok N, trivial⟩
@[reducible] def w24a : List SP := [⟨[.agg [.int .i64, .int .i64, .sl 2]], [.var 74 (.agg [.adr 1 [], .str, .str, .fv, .int .i64, .agg [.sl 3], .agg [.agg [.agg [.agg [.bool, .str], .int .i64]]], .agg [.int .i64, .int .i64, .bool, .bool, .int .i64, .int .i64, .int .i64, .int .i64, .int .i64, .int .i64], .int .i64, .int .i64, .int .i64]), .var 112 (.agg [.int .i64, .int .i64, .sl 4]), .row (.int .i64) 3, .row y0 38, .row (.int .i64) 3]⟩]
noncomputable def F24a (N : Nat) : (ByteArray × ByteArray × Nat × Int × Bool × ByteArray × Int × Int × Int × Bool × Bool × Int × Int × Int × Int × Int × Int × Int × Int × Int × Int × Int × (List (Int × (Bool × (Int × ((Int × (Int × (Int × (Int × Unit)))) × ((Int × (Int × (Bool × (Bool × (Int × (Int × (Int × (Int × (Int × (Int × Unit)))))))))) × ((List Int) × (ByteArray × Unit)))))))) × (List Int)) → Option (Int × Int × ByteArray × ByteArray × Nat × Int × Bool × ByteArray × Int × Int × Int × Bool × Bool × Int × Int × Int × Int × Int × Int × Int × Int × Int × Int × Int × (List Int) × (List (Int × (Bool × (Int × ((Int × (Int × (Int × (Int × Unit)))) × ((Int × (Int × (Bool × (Bool × (Int × (Int × (Int × (Int × (Int × (Int × Unit)))))))))) × ((List Int) × (ByteArray × Unit)))))))) × (List Int))
  | (x0, x1, x2, x3, x4, x5, x6, x7, x8, x9, x10, x11, x12, x13, x14, x15, x16, x17, x18, x19, x20, x21, x22, x23) =>
  Option.bind (F25a N (x0, x1, x2, x3, x4, x5, x6, x7, x8, x9, x10, x11, x12, x13, x14, x15, x16, x17, x18, x19, x20, x21, x22, x23)) fun (y0_0, y0_1, y0_2, y0_3, y0_4, y0_5, y0_6, y0_7, y0_8, y0_9, y0_10, y0_11, y0_12, y0_13, y0_14, y0_15, y0_16, y0_17, y0_18, y0_19, y0_20, y0_21, y0_22, y0_23, y0_24) =>
  iteP (!y0_0) (
    some (((0 : Int), (0 : Int), y0_1, y0_2, y0_3, y0_4, y0_5, y0_6, y0_7, y0_8, y0_9, y0_10, y0_11, y0_12, y0_13, y0_14, y0_15, y0_16, y0_17, y0_18, y0_19, y0_20, y0_21, y0_22, [], y0_23, y0_24))) (
    Option.bind (F43a N (y0_21, y0_22, y0_24)) fun (y1_0, y1_1, y1_2, y1_3, y1_4, y1_5) =>
    some ((y1_0, y1_1, y0_1, y0_2, y0_3, y0_4, y0_5, y0_6, y0_7, y0_8, y0_9, y0_10, y0_11, y0_12, y0_13, y0_14, y0_15, y0_16, y0_17, y0_18, y0_19, y0_20, y1_2, y1_3, y1_4, y0_23, y1_5)))
noncomputable def T24a (N : Nat) : Pk → Tr Pk := tellS s24a w24a (F24a N)
theorem T24a_ok (N : Nat) : FOK Tryz.prog (24) (T24a N) :=
  (fn_ok2 ownT mix (tab24a_ok N) Tryz.func24 s24a w24a [0, 1] (cuts := []) trivial (fun _ => by kernel_rfl) (by decide +kernel) (F24a N) (fun x => by kernel_rfl))
@[reducible] def s14a : SP := ⟨[.adr 0 []], [.var 74 (.agg [.adr 1 [], .str, .str, .fv, .int .i64, .agg [.sl 2], .agg [.agg [.agg [.agg [.bool, .str], .int .i64]]], .agg [.int .i64, .int .i64, .bool, .bool, .int .i64, .int .i64, .int .i64, .int .i64, .int .i64, .int .i64], .int .i64, .int .i64, .int .i64]), .var 112 (.agg [.int .i64, .int .i64, .sl 3]), .row y0 38, .row (.int .i64) 3]⟩
noncomputable def tab14a (N : Nat) : List (Nat × (Pk → Tr Pk)) := []
theorem tab14a_ok (N : Nat) : TabOK Tryz.prog (tab14a N) := trivial
@[reducible] def w14a : List SP := [⟨[.bool], [.var 74 (.agg [.adr 1 [], .str, .str, .fv, .int .i64, .agg [.sl 2], .agg [.agg [.agg [.agg [.bool, .str], .int .i64]]], .agg [.int .i64, .int .i64, .bool, .bool, .int .i64, .int .i64, .int .i64, .int .i64, .int .i64, .int .i64], .int .i64, .int .i64, .int .i64]), .var 112 (.agg [.int .i64, .int .i64, .sl 3]), .row y0 38, .row (.int .i64) 3]⟩]
noncomputable def F14a (N : Nat) : (ByteArray × ByteArray × Nat × Int × Bool × ByteArray × Int × Int × Int × Bool × Bool × Int × Int × Int × Int × Int × Int × Int × Int × Int × Int × Int × (List (Int × (Bool × (Int × ((Int × (Int × (Int × (Int × Unit)))) × ((Int × (Int × (Bool × (Bool × (Int × (Int × (Int × (Int × (Int × (Int × Unit)))))))))) × ((List Int) × (ByteArray × Unit)))))))) × (List Int)) → Option (Bool × ByteArray × ByteArray × Nat × Int × Bool × ByteArray × Int × Int × Int × Bool × Bool × Int × Int × Int × Int × Int × Int × Int × Int × Int × Int × Int × (List (Int × (Bool × (Int × ((Int × (Int × (Int × (Int × Unit)))) × ((Int × (Int × (Bool × (Bool × (Int × (Int × (Int × (Int × (Int × (Int × Unit)))))))))) × ((List Int) × (ByteArray × Unit)))))))) × (List Int))
  | (x0, x1, x2, x3, x4, x5, x6, x7, x8, x9, x10, x11, x12, x13, x14, x15, x16, x17, x18, x19, x20, x21, x22, x23) =>
  some ((decide (x18 > x19), x0, x1, x2, x3, x4, x5, x6, x7, x8, x9, x10, x11, x12, x13, x14, x15, x16, x17, x18, x19, x20, x21, x22, x23))
noncomputable def T14a (N : Nat) : Pk → Tr Pk := tellS s14a w14a (F14a N)
theorem T14a_ok (N : Nat) : FOK Tryz.prog (14) (T14a N) :=
  (fn_ok2 ownT mix (tab14a_ok N) Tryz.func14 s14a w14a [0, 1] (cuts := []) trivial (fun _ => by kernel_rfl) (by decide +kernel) (F14a N) (fun x => by kernel_rfl))
@[reducible] def s13a : SP := ⟨[.adr 0 [], .agg [.int .i64, .bool, .int .i64, .agg [.int .i64, .int .i64, .int .i64, .int .i64], .agg [.int .i64, .int .i64, .bool, .bool, .int .i64, .int .i64, .int .i64, .int .i64, .int .i64, .int .i64], .ro (.int .i64), .str]], [.var 74 (.agg [.adr 1 [], .str, .str, .fv, .int .i64, .agg [.sl 2], .agg [.agg [.agg [.agg [.bool, .str], .int .i64]]], .agg [.int .i64, .int .i64, .bool, .bool, .int .i64, .int .i64, .int .i64, .int .i64, .int .i64, .int .i64], .int .i64, .int .i64, .int .i64]), .var 112 (.agg [.int .i64, .int .i64, .sl 3]), .row y0 38, .row (.int .i64) 3]⟩
noncomputable def tab13a (N : Nat) : List (Nat × (Pk → Tr Pk)) := [(12, T12 N), (25, T25a N), (14, T14a N)]
theorem tab13a_ok (N : Nat) : TabOK Tryz.prog (tab13a N) := ⟨T12_ok N, T25a_ok N, T14a_ok N, trivial⟩
@[reducible] def w13a : List SP := [⟨[.int .i64], [.var 74 (.agg [.adr 1 [], .str, .str, .fv, .int .i64, .agg [.sl 2], .agg [.agg [.agg [.agg [.bool, .str], .int .i64]]], .agg [.int .i64, .int .i64, .bool, .bool, .int .i64, .int .i64, .int .i64, .int .i64, .int .i64, .int .i64], .int .i64, .int .i64, .int .i64]), .var 112 (.agg [.int .i64, .int .i64, .sl 3]), .row y0 38, .row (.int .i64) 3]⟩]
noncomputable def F13a (N : Nat) : (Int × Bool × Int × Int × Int × Int × Int × Int × Int × Bool × Bool × Int × Int × Int × Int × Int × Int × (List Int) × ByteArray × ByteArray × ByteArray × Nat × Int × Bool × ByteArray × Int × Int × Int × Bool × Bool × Int × Int × Int × Int × Int × Int × Int × Int × Int × Int × Int × (List (Int × (Bool × (Int × ((Int × (Int × (Int × (Int × Unit)))) × ((Int × (Int × (Bool × (Bool × (Int × (Int × (Int × (Int × (Int × (Int × Unit)))))))))) × ((List Int) × (ByteArray × Unit)))))))) × (List Int)) → Option (Int × ByteArray × ByteArray × Nat × Int × Bool × ByteArray × Int × Int × Int × Bool × Bool × Int × Int × Int × Int × Int × Int × Int × Int × Int × Int × Int × (List (Int × (Bool × (Int × ((Int × (Int × (Int × (Int × Unit)))) × ((Int × (Int × (Bool × (Bool × (Int × (Int × (Int × (Int × (Int × (Int × Unit)))))))))) × ((List Int) × (ByteArray × Unit)))))))) × (List Int))
  | (x0, x1, x2, x3, x4, x5, x6, x7, x8, x9, x10, x11, x12, x13, x14, x15, x16, x17, x18, x19, x20, x21, x22, x23, x24, x25, x26, x27, x28, x29, x30, x31, x32, x33, x34, x35, x36, x37, x38, x39, x40, x41, x42) =>
  iteP (x22 != (0 : Int)) (
    some (((6 : Int), x19, x20, x21, x22, x23, x24, x25, x26, x27, x28, x29, x30, x31, x32, x33, x34, x35, x36, x37, x38, x39, x40, x41, x42))) (
    Option.bind (F12 N (x0, x1, x2, x3, x4, x5, x6, x7, x8, x9, x10, x11, x12, x13, x14, x15, x16, x17, x18)) fun y0 =>
    iteP (y0.2 != (0 : Int)) (
      some ((y0.2, x19, x20, x21, x22, x23, x24, x25, x26, x27, x28, x29, x30, x31, x32, x33, x34, x35, x36, x37, x38, x39, x40, x41, x42))) (
      Option.bind (F25a N (x19, x20, x21, x22, x23, x24, x25, x26, x27, x28, x29, x30, x31, x32, x33, x34, x35, x36, x37, x38, x39, x40, x41, x42)) fun (y1_0, y1_1, y1_2, y1_3, y1_4, y1_5, y1_6, y1_7, y1_8, y1_9, y1_10, y1_11, y1_12, y1_13, y1_14, y1_15, y1_16, y1_17, y1_18, y1_19, y1_20, y1_21, y1_22, y1_23, y1_24) =>
      iteP (!y1_0) (
        some (((5 : Int), y1_1, y1_2, y1_3, y1_4, y1_5, y1_6, y1_7, y1_8, y1_9, y1_10, y1_11, y1_12, y1_13, y1_14, y1_15, y1_16, y1_17, y1_18, y1_19, y1_20, y1_21, y1_22, y1_23, y1_24))) (
        iteP (!ByteArray.toList y1_2 == []) (
          some (((5 : Int), y1_1, y1_2, y1_3, y1_4, y1_5, y1_6, y1_7, y1_8, y1_9, y1_10, y1_11, y1_12, y1_13, y1_14, y1_15, y1_16, y1_17, y1_18, y1_19, y1_20, y1_21, y1_22, y1_23, y1_24))) (
          iteP (x0 == (0 : Int)) (
            Option.bind (F14a N (y1_1, y1_2, y1_3, y1_4, y1_5, y1_6, y1_7, y1_8, y1_9, y1_10, y1_11, y1_12, y1_13, y1_14, y1_15, y1_16, y1_17, y1_18, y1_19, y1_20, y1_21, y1_22, y1_23, y1_24)) fun (y2_0, y2_1, y2_2, y2_3, y2_4, y2_5, y2_6, y2_7, y2_8, y2_9, y2_10, y2_11, y2_12, y2_13, y2_14, y2_15, y2_16, y2_17, y2_18, y2_19, y2_20, y2_21, y2_22, y2_23, y2_24) =>
            iteP (y2_0) (
              some (((5 : Int), y2_1, y2_2, y2_3, y2_4, y2_5, y2_6, y2_7, y2_8, y2_9, y2_10, y2_11, y2_12, y2_13, y2_14, y2_15, y2_16, y2_17, y2_18, y2_19, y2_20, y2_21, y2_22, y2_23, y2_24))) (
              iteP (x0 == (2 : Int)) (
                some (((0 : Int), y2_1, y0.1, y2_3, y2_4, y2_5, y2_6, y2_7, y2_8, y2_9, y2_10, y2_11, y2_12, y2_13, y2_14, y2_15, y2_16, y2_17, y2_18, IntKind.wrap IntKind.i64 (y2_19 + (1 : Int)), y2_20, y2_21, y2_22, y2_23, y2_24))) (
                iteP (x0 == (0 : Int)) (
                  some (((0 : Int), y2_1, y0.1, y2_3, y2_4, y2_5, y2_6, y2_7, x7, x8, x9, x10, x11, x12, x13, x14, x15, x16, y2_18, y2_19, y2_20, y2_21, y2_22, y2_23, y2_24))) (
                  some (((0 : Int), y2_1, y0.1, y2_3, y2_4, y2_5, y2_6, y2_7, y2_8, y2_9, y2_10, y2_11, y2_12, y2_13, y2_14, y2_15, y2_16, y2_17, y2_18, y2_19, y2_20, y2_21, y2_22, y2_23, y2_24)))))) (
            iteP (x0 == (2 : Int)) (
              some (((0 : Int), y1_1, y0.1, y1_3, y1_4, y1_5, y1_6, y1_7, y1_8, y1_9, y1_10, y1_11, y1_12, y1_13, y1_14, y1_15, y1_16, y1_17, y1_18, IntKind.wrap IntKind.i64 (y1_19 + (1 : Int)), y1_20, y1_21, y1_22, y1_23, y1_24))) (
              iteP (x0 == (0 : Int)) (
                some (((0 : Int), y1_1, y0.1, y1_3, y1_4, y1_5, y1_6, y1_7, x7, x8, x9, x10, x11, x12, x13, x14, x15, x16, y1_18, y1_19, y1_20, y1_21, y1_22, y1_23, y1_24))) (
                some (((0 : Int), y1_1, y0.1, y1_3, y1_4, y1_5, y1_6, y1_7, y1_8, y1_9, y1_10, y1_11, y1_12, y1_13, y1_14, y1_15, y1_16, y1_17, y1_18, y1_19, y1_20, y1_21, y1_22, y1_23, y1_24)))))))))
noncomputable def T13a (N : Nat) : Pk → Tr Pk := tellS s13a w13a (F13a N)
theorem T13a_ok (N : Nat) : FOK Tryz.prog (13) (T13a N) :=
  (fn_ok2 ownT mix (tab13a_ok N) Tryz.func13 s13a w13a [0, 1] (cuts := []) trivial (fun _ => by kernel_rfl) (by decide +kernel) (F13a N) (fun x => by kernel_rfl))
@[reducible] def s16a : SP := ⟨[.adr 0 []], [.var 74 (.agg [.adr 1 [], .str, .str, .fv, .int .i64, .agg [.sl 2], .agg [.agg [.agg [.agg [.bool, .str], .int .i64]]], .agg [.int .i64, .int .i64, .bool, .bool, .int .i64, .int .i64, .int .i64, .int .i64, .int .i64, .int .i64], .int .i64, .int .i64, .int .i64]), .var 112 (.agg [.int .i64, .int .i64, .sl 3]), .row y0 38, .row (.int .i64) 3]⟩
noncomputable def tab16a (N : Nat) : List (Nat × (Pk → Tr Pk)) := []
theorem tab16a_ok (N : Nat) : TabOK Tryz.prog (tab16a N) := trivial
@[reducible] def w16a : List SP := [⟨[.int .i64], [.var 74 (.agg [.adr 1 [], .str, .str, .fv, .int .i64, .agg [.sl 2], .agg [.agg [.agg [.agg [.bool, .str], .int .i64]]], .agg [.int .i64, .int .i64, .bool, .bool, .int .i64, .int .i64, .int .i64, .int .i64, .int .i64, .int .i64], .int .i64, .int .i64, .int .i64]), .var 112 (.agg [.int .i64, .int .i64, .sl 3]), .row y0 38, .row (.int .i64) 3]⟩]
noncomputable def F16a (N : Nat) : (ByteArray × ByteArray × Nat × Int × Bool × ByteArray × Int × Int × Int × Bool × Bool × Int × Int × Int × Int × Int × Int × Int × Int × Int × Int × Int × (List (Int × (Bool × (Int × ((Int × (Int × (Int × (Int × Unit)))) × ((Int × (Int × (Bool × (Bool × (Int × (Int × (Int × (Int × (Int × (Int × Unit)))))))))) × ((List Int) × (ByteArray × Unit)))))))) × (List Int)) → Option (Int × ByteArray × ByteArray × Nat × Int × Bool × ByteArray × Int × Int × Int × Bool × Bool × Int × Int × Int × Int × Int × Int × Int × Int × Int × Int × Int × (List (Int × (Bool × (Int × ((Int × (Int × (Int × (Int × Unit)))) × ((Int × (Int × (Bool × (Bool × (Int × (Int × (Int × (Int × (Int × (Int × Unit)))))))))) × ((List Int) × (ByteArray × Unit)))))))) × (List Int))
  | (x0, x1, x2, x3, x4, x5, x6, x7, x8, x9, x10, x11, x12, x13, x14, x15, x16, x17, x18, x19, x20, x21, x22, x23) =>
  some ((x19, x0, x1, x2, x3, x4, x5, x6, x7, x8, x9, x10, x11, x12, x13, x14, x15, x16, x17, x18, x19, x20, x21, x22, x23))
noncomputable def T16a (N : Nat) : Pk → Tr Pk := tellS s16a w16a (F16a N)
theorem T16a_ok (N : Nat) : FOK Tryz.prog (16) (T16a N) :=
  (fn_ok2 ownT mix (tab16a_ok N) Tryz.func16 s16a w16a [0, 1] (cuts := []) trivial (fun _ => by kernel_rfl) (by decide +kernel) (F16a N) (fun x => by kernel_rfl))
@[reducible] def s22a : SP := ⟨[.adr 0 []], [.var 74 (.agg [.adr 1 [], .str, .str, .fv, .int .i64, .agg [.sl 2], .agg [.agg [.agg [.agg [.bool, .str], .int .i64]]], .agg [.int .i64, .int .i64, .bool, .bool, .int .i64, .int .i64, .int .i64, .int .i64, .int .i64, .int .i64], .int .i64, .int .i64, .int .i64]), .var 112 (.agg [.int .i64, .int .i64, .sl 3]), .row y0 38, .row (.int .i64) 3]⟩
noncomputable def tab22a (N : Nat) : List (Nat × (Pk → Tr Pk)) := []
theorem tab22a_ok (N : Nat) : TabOK Tryz.prog (tab22a N) := trivial
@[reducible] def w22a : List SP := [⟨[.int .i64], [.var 74 (.agg [.adr 1 [], .str, .str, .fv, .int .i64, .agg [.sl 2], .agg [.agg [.agg [.agg [.bool, .str], .int .i64]]], .agg [.int .i64, .int .i64, .bool, .bool, .int .i64, .int .i64, .int .i64, .int .i64, .int .i64, .int .i64], .int .i64, .int .i64, .int .i64]), .var 112 (.agg [.int .i64, .int .i64, .sl 3]), .row y0 38, .row (.int .i64) 3]⟩]
noncomputable def F22a (N : Nat) : (ByteArray × ByteArray × Nat × Int × Bool × ByteArray × Int × Int × Int × Bool × Bool × Int × Int × Int × Int × Int × Int × Int × Int × Int × Int × Int × (List (Int × (Bool × (Int × ((Int × (Int × (Int × (Int × Unit)))) × ((Int × (Int × (Bool × (Bool × (Int × (Int × (Int × (Int × (Int × (Int × Unit)))))))))) × ((List Int) × (ByteArray × Unit)))))))) × (List Int)) → Option (Int × ByteArray × ByteArray × Nat × Int × Bool × ByteArray × Int × Int × Int × Bool × Bool × Int × Int × Int × Int × Int × Int × Int × Int × Int × Int × Int × (List (Int × (Bool × (Int × ((Int × (Int × (Int × (Int × Unit)))) × ((Int × (Int × (Bool × (Bool × (Int × (Int × (Int × (Int × (Int × (Int × Unit)))))))))) × ((List Int) × (ByteArray × Unit)))))))) × (List Int))
  | (x0, x1, x2, x3, x4, x5, x6, x7, x8, x9, x10, x11, x12, x13, x14, x15, x16, x17, x18, x19, x20, x21, x22, x23) =>
  some ((x3, x0, x1, x2, x3, x4, x5, x6, x7, x8, x9, x10, x11, x12, x13, x14, x15, x16, x17, x18, x19, x20, x21, x22, x23))
noncomputable def T22a (N : Nat) : Pk → Tr Pk := tellS s22a w22a (F22a N)
theorem T22a_ok (N : Nat) : FOK Tryz.prog (22) (T22a N) :=
  (fn_ok2 ownT mix (tab22a_ok N) Tryz.func22 s22a w22a [0, 1] (cuts := []) trivial (fun _ => by kernel_rfl) (by decide +kernel) (F22a N) (fun x => by kernel_rfl))
@[reducible] def s11a : SP := ⟨[.adr 0 []], [.var 74 (.agg [.adr 1 [], .str, .str, .fv, .int .i64, .agg [.sl 2], .agg [.agg [.agg [.agg [.bool, .str], .int .i64]]], .agg [.int .i64, .int .i64, .bool, .bool, .int .i64, .int .i64, .int .i64, .int .i64, .int .i64, .int .i64], .int .i64, .int .i64, .int .i64]), .var 112 (.agg [.int .i64, .int .i64, .sl 3]), .row y0 38, .row (.int .i64) 3]⟩
noncomputable def tab11a (N : Nat) : List (Nat × (Pk → Tr Pk)) := []
theorem tab11a_ok (N : Nat) : TabOK Tryz.prog (tab11a N) := trivial
@[reducible] def w11a : List SP := [⟨[.int .i64], [.var 74 (.agg [.adr 1 [], .str, .str, .fv, .int .i64, .agg [.sl 2], .agg [.agg [.agg [.agg [.bool, .str], .int .i64]]], .agg [.int .i64, .int .i64, .bool, .bool, .int .i64, .int .i64, .int .i64, .int .i64, .int .i64, .int .i64], .int .i64, .int .i64, .int .i64]), .var 112 (.agg [.int .i64, .int .i64, .sl 3]), .row y0 38, .row (.int .i64) 3]⟩]
noncomputable def F11a (N : Nat) : (ByteArray × ByteArray × Nat × Int × Bool × ByteArray × Int × Int × Int × Bool × Bool × Int × Int × Int × Int × Int × Int × Int × Int × Int × Int × Int × (List (Int × (Bool × (Int × ((Int × (Int × (Int × (Int × Unit)))) × ((Int × (Int × (Bool × (Bool × (Int × (Int × (Int × (Int × (Int × (Int × Unit)))))))))) × ((List Int) × (ByteArray × Unit)))))))) × (List Int)) → Option (Int × ByteArray × ByteArray × Nat × Int × Bool × ByteArray × Int × Int × Int × Bool × Bool × Int × Int × Int × Int × Int × Int × Int × Int × Int × Int × Int × (List (Int × (Bool × (Int × ((Int × (Int × (Int × (Int × Unit)))) × ((Int × (Int × (Bool × (Bool × (Int × (Int × (Int × (Int × (Int × (Int × Unit)))))))))) × ((List Int) × (ByteArray × Unit)))))))) × (List Int))
  | (x0, x1, x2, x3, x4, x5, x6, x7, x8, x9, x10, x11, x12, x13, x14, x15, x16, x17, x18, x19, x20, x21, x22, x23) =>
  some (((↑(ByteArray.size x1) : Int), x0, x1, x2, x3, x4, x5, x6, x7, x8, x9, x10, x11, x12, x13, x14, x15, x16, x17, x18, x19, x20, x21, x22, x23))
noncomputable def T11a (N : Nat) : Pk → Tr Pk := tellS s11a w11a (F11a N)
theorem T11a_ok (N : Nat) : FOK Tryz.prog (11) (T11a N) :=
  (fn_ok2 ownT mix (tab11a_ok N) Tryz.func11 s11a w11a [0, 1] (cuts := []) trivial (fun _ => by kernel_rfl) (by decide +kernel) (F11a N) (fun x => by kernel_rfl))
@[reducible] def s10a : SP := ⟨[.adr 0 [], .int .i64], [.var 74 (.agg [.adr 1 [], .str, .str, .fv, .int .i64, .agg [.sl 2], .agg [.agg [.agg [.agg [.bool, .str], .int .i64]]], .agg [.int .i64, .int .i64, .bool, .bool, .int .i64, .int .i64, .int .i64, .int .i64, .int .i64, .int .i64], .int .i64, .int .i64, .int .i64]), .var 112 (.agg [.int .i64, .int .i64, .sl 3]), .row y0 38, .row (.int .i64) 3]⟩
noncomputable def tab10a (N : Nat) : List (Nat × (Pk → Tr Pk)) := []
theorem tab10a_ok (N : Nat) : TabOK Tryz.prog (tab10a N) := trivial
@[reducible] def w10a : List SP := [⟨[.str], [.var 74 (.agg [.adr 1 [], .str, .str, .fv, .int .i64, .agg [.sl 2], .agg [.agg [.agg [.agg [.bool, .str], .int .i64]]], .agg [.int .i64, .int .i64, .bool, .bool, .int .i64, .int .i64, .int .i64, .int .i64, .int .i64, .int .i64], .int .i64, .int .i64, .int .i64]), .var 112 (.agg [.int .i64, .int .i64, .sl 3]), .row y0 38, .row (.int .i64) 3]⟩]
noncomputable def F10a (N : Nat) : (Int × ByteArray × ByteArray × Nat × Int × Bool × ByteArray × Int × Int × Int × Bool × Bool × Int × Int × Int × Int × Int × Int × Int × Int × Int × Int × Int × (List (Int × (Bool × (Int × ((Int × (Int × (Int × (Int × Unit)))) × ((Int × (Int × (Bool × (Bool × (Int × (Int × (Int × (Int × (Int × (Int × Unit)))))))))) × ((List Int) × (ByteArray × Unit)))))))) × (List Int)) → Option (ByteArray × ByteArray × ByteArray × Nat × Int × Bool × ByteArray × Int × Int × Int × Bool × Bool × Int × Int × Int × Int × Int × Int × Int × Int × Int × Int × Int × (List (Int × (Bool × (Int × ((Int × (Int × (Int × (Int × Unit)))) × ((Int × (Int × (Bool × (Bool × (Int × (Int × (Int × (Int × (Int × (Int × Unit)))))))))) × ((List Int) × (ByteArray × Unit)))))))) × (List Int))
  | (x0, x1, x2, x3, x4, x5, x6, x7, x8, x9, x10, x11, x12, x13, x14, x15, x16, x17, x18, x19, x20, x21, x22, x23, x24) =>
  iteP (decide (((0 : Int) ≤ if (↑(ByteArray.size x2) : Int) < if (0 : Int) > x0 then (0 : Int) else x0 then (↑(ByteArray.size x2) : Int) else if (0 : Int) > x0 then (0 : Int) else x0) ∧ (if (↑(ByteArray.size x2) : Int) < if (0 : Int) > x0 then (0 : Int) else x0 then (↑(ByteArray.size x2) : Int) else if (0 : Int) > x0 then (0 : Int) else x0) ≤ (↑(ByteArray.size x2) : Int))) (
    iteP (decide (((0 : Int) ≤ if (↑(ByteArray.size x2) : Int) < if (0 : Int) > x0 then (0 : Int) else x0 then (↑(ByteArray.size x2) : Int) else if (0 : Int) > x0 then (0 : Int) else x0) ∧ (if (↑(ByteArray.size x2) : Int) < if (0 : Int) > x0 then (0 : Int) else x0 then (↑(ByteArray.size x2) : Int) else if (0 : Int) > x0 then (0 : Int) else x0) ≤ (↑(ByteArray.size x2) : Int))) (
      some ((ByteArray.extract x2 (0 : Nat) (Int.toNat (if (↑(ByteArray.size x2) : Int) < if (0 : Int) > x0 then (0 : Int) else x0 then (↑(ByteArray.size x2) : Int) else if (0 : Int) > x0 then (0 : Int) else x0)), x1, ByteArray.extract x2 (Int.toNat (if (↑(ByteArray.size x2) : Int) < if (0 : Int) > x0 then (0 : Int) else x0 then (↑(ByteArray.size x2) : Int) else if (0 : Int) > x0 then (0 : Int) else x0)) (ByteArray.size x2), x3, x4, x5, x6, x7, x8, x9, x10, x11, x12, x13, x14, x15, x16, x17, x18, x19, x20, x21, x22, x23, x24))) (
      none )) (
    none )
noncomputable def T10a (N : Nat) : Pk → Tr Pk := tellS s10a w10a (F10a N)
theorem T10a_ok (N : Nat) : FOK Tryz.prog (10) (T10a N) :=
  (fn_ok2 ownT mix (tab10a_ok N) Tryz.func10 s10a w10a [0, 1] (cuts := []) trivial (fun _ => by kernel_rfl) (by decide +kernel) (F10a N) (fun x => by kernel_rfl))
@[reducible] def s8a : SP := ⟨[.adr 0 [], .str], [.var 74 (.agg [.adr 1 [], .str, .str, .fv, .int .i64, .agg [.sl 2], .agg [.agg [.agg [.agg [.bool, .str], .int .i64]]], .agg [.int .i64, .int .i64, .bool, .bool, .int .i64, .int .i64, .int .i64, .int .i64, .int .i64, .int .i64], .int .i64, .int .i64, .int .i64]), .var 112 (.agg [.int .i64, .int .i64, .sl 3]), .row y0 38, .row (.int .i64) 3]⟩
noncomputable def tab8a (N : Nat) : List (Nat × (Pk → Tr Pk)) := [(83, T83a N), (95, T95a N)]
theorem tab8a_ok (N : Nat) : TabOK Tryz.prog (tab8a N) := ⟨T83a_ok N, T95a_ok N, trivial⟩
@[reducible] def L8a_14 : LD := ⟨14, [0], [(.ret, [])], ⟨[.adr 0 []], [.var 74 (.agg [.adr 1 [], .str, .str, .fv, .int .i64, .agg [.sl 2], .agg [.agg [.agg [.agg [.bool, .str], .int .i64]]], .agg [.int .i64, .int .i64, .bool, .bool, .int .i64, .int .i64, .int .i64, .int .i64, .int .i64, .int .i64], .int .i64, .int .i64, .int .i64]), .var 112 (.agg [.int .i64, .int .i64, .sl 3]), .row y0 38, .row (.int .i64) 3]⟩, [(.ret, ⟨[], [.var 74 (.agg [.adr 1 [], .str, .str, .fv, .int .i64, .agg [.sl 2], .agg [.agg [.agg [.agg [.bool, .str], .int .i64]]], .agg [.int .i64, .int .i64, .bool, .bool, .int .i64, .int .i64, .int .i64, .int .i64, .int .i64, .int .i64], .int .i64, .int .i64, .int .i64]), .var 112 (.agg [.int .i64, .int .i64, .sl 3]), .row y0 38, .row (.int .i64) 3]⟩)]⟩
abbrev P8a_14 : Type := ByteArray × ByteArray × Nat × Int × Bool × ByteArray × Int × Int × Int × Bool × Bool × Int × Int × Int × Int × Int × Int × Int × Int × Int × Int × Int × (List (Int × (Bool × (Int × ((Int × (Int × (Int × (Int × Unit)))) × ((Int × (Int × (Bool × (Bool × (Int × (Int × (Int × (Int × (Int × (Int × Unit)))))))))) × ((List Int) × (ByteArray × Unit)))))))) × (List Int)
abbrev R8a_14 : Type := ByteArray × ByteArray × Nat × Int × Bool × ByteArray × Int × Int × Int × Bool × Bool × Int × Int × Int × Int × Int × Int × Int × Int × Int × Int × Int × (List (Int × (Bool × (Int × ((Int × (Int × (Int × (Int × Unit)))) × ((Int × (Int × (Bool × (Bool × (Int × (Int × (Int × (Int × (Int × (Int × Unit)))))))))) × ((List Int) × (ByteArray × Unit)))))))) × (List Int)
noncomputable def B8a_14 (N : Nat) (f : P8a_14 → Option R8a_14) : P8a_14 → Option R8a_14
  | (x0, x1, x2, x3, x4, x5, x6, x7, x8, x9, x10, x11, x12, x13, x14, x15, x16, x17, x18, x19, x20, x21, x22, x23) =>
  iteP (Nat.beq x2 (29 : Nat)) (
    none) (
    iteP (Nat.beq x2 (46 : Nat)) (
      none) (
      iteP (Nat.beq x2 (59 : Nat)) (
        none) (
        iteP (Nat.beq x2 (71 : Nat)) (
          none) (
          iteP (Nat.beq x2 (83 : Nat)) (
            Option.bind (F83a N (x0, x1, x2, x3, x4, x5, x6, x7, x8, x9, x10, x11, x12, x13, x14, x15, x16, x17, x18, x19, x20, x21, x22, x23)) fun (y0_0, y0_1, y0_2, y0_3, y0_4, y0_5, y0_6, y0_7, y0_8, y0_9, y0_10, y0_11, y0_12, y0_13, y0_14, y0_15, y0_16, y0_17, y0_18, y0_19, y0_20, y0_21, y0_22, y0_23, y0_24, y0_25) =>
            iteP (y0_1 == (0 : Int)) (
              iteP (decide ((0 : Int) ≤ y0_0 ∧ y0_0 ≤ (↑(ByteArray.size y0_2) : Int))) (
                Option.bind (f (ByteArray.extract y0_2 (Int.toNat y0_0) (ByteArray.size y0_2), y0_3, y0_4, y0_5, y0_6, y0_7, y0_8, y0_9, y0_10, y0_11, y0_12, y0_13, y0_14, y0_15, y0_16, y0_17, y0_18, y0_19, y0_20, y0_21, y0_22, y0_23, y0_24, y0_25)) fun r => some r) (
                none )) (
              iteP (y0_1 == (2 : Int)) (
                some ((y0_2, y0_3, y0_4, y0_5, y0_6, y0_7, y0_8, y0_9, y0_10, y0_11, y0_12, y0_13, y0_14, y0_15, y0_16, y0_17, y0_18, y0_19, y0_20, y0_21, y0_22, y0_23, y0_24, y0_25))) (
                some ((ByteArray.mk #[], y0_3, y0_4, y0_1, y0_6, y0_7, y0_8, y0_9, y0_10, y0_11, y0_12, y0_13, y0_14, y0_15, y0_16, y0_17, y0_18, y0_19, y0_20, y0_21, y0_22, y0_23, y0_24, y0_25))))) (
            iteP (Nat.beq x2 (95 : Nat)) (
              Option.bind (F95a N (x0, x1, x2, x3, x4, x5, x6, x7, x8, x9, x10, x11, x12, x13, x14, x15, x16, x17, x18, x19, x20, x21, x22, x23)) fun (y1_0, y1_1, y1_2, y1_3, y1_4, y1_5, y1_6, y1_7, y1_8, y1_9, y1_10, y1_11, y1_12, y1_13, y1_14, y1_15, y1_16, y1_17, y1_18, y1_19, y1_20, y1_21, y1_22, y1_23, y1_24, y1_25) =>
              iteP (y1_1 == (0 : Int)) (
                iteP (decide ((0 : Int) ≤ y1_0 ∧ y1_0 ≤ (↑(ByteArray.size y1_2) : Int))) (
                  Option.bind (f (ByteArray.extract y1_2 (Int.toNat y1_0) (ByteArray.size y1_2), y1_3, y1_4, y1_5, y1_6, y1_7, y1_8, y1_9, y1_10, y1_11, y1_12, y1_13, y1_14, y1_15, y1_16, y1_17, y1_18, y1_19, y1_20, y1_21, y1_22, y1_23, y1_24, y1_25)) fun r => some r) (
                  none )) (
                iteP (y1_1 == (2 : Int)) (
                  some ((y1_2, y1_3, y1_4, y1_5, y1_6, y1_7, y1_8, y1_9, y1_10, y1_11, y1_12, y1_13, y1_14, y1_15, y1_16, y1_17, y1_18, y1_19, y1_20, y1_21, y1_22, y1_23, y1_24, y1_25))) (
                  some ((ByteArray.mk #[], y1_3, y1_4, y1_1, y1_6, y1_7, y1_8, y1_9, y1_10, y1_11, y1_12, y1_13, y1_14, y1_15, y1_16, y1_17, y1_18, y1_19, y1_20, y1_21, y1_22, y1_23, y1_24, y1_25))))) (
              none ))))))
noncomputable def F8a_14 (N : Nat) : Nat → P8a_14 → Option R8a_14
  | 0, _ => none
  | k + 1, x => B8a_14 N (F8a_14 N k) x
noncomputable def C8a_14 (N : Nat) (k : Nat) : Cut := L8a_14.cut (F8a_14 N k)
theorem C8a_14_ok (N : Nat) (k : Nat) : CutAt Tryz.prog false Tryz.f8 [0, 1] 14 (C8a_14 N k) :=
  L8a_14.loopT ownT mix (tab8a_ok N) Tryz.f8 [0, 1] (cuts := []) trivial (by decide +kernel) (by kernel_rfl) (B8a_14 N) (F8a_14 N) (fun _ => rfl) (fun _ _ => rfl) (fun f x => by kernel_rfl) k
@[reducible] def w8a : List SP := [⟨[.tup []], [.var 74 (.agg [.adr 1 [], .str, .str, .fv, .int .i64, .agg [.sl 2], .agg [.agg [.agg [.agg [.bool, .str], .int .i64]]], .agg [.int .i64, .int .i64, .bool, .bool, .int .i64, .int .i64, .int .i64, .int .i64, .int .i64, .int .i64], .int .i64, .int .i64, .int .i64]), .var 112 (.agg [.int .i64, .int .i64, .sl 3]), .row y0 38, .row (.int .i64) 3]⟩]
noncomputable def F8a (N : Nat) : (ByteArray × ByteArray × ByteArray × Nat × Int × Bool × ByteArray × Int × Int × Int × Bool × Bool × Int × Int × Int × Int × Int × Int × Int × Int × Int × Int × Int × (List (Int × (Bool × (Int × ((Int × (Int × (Int × (Int × Unit)))) × ((Int × (Int × (Bool × (Bool × (Int × (Int × (Int × (Int × (Int × (Int × Unit)))))))))) × ((List Int) × (ByteArray × Unit)))))))) × (List Int)) → Option (ByteArray × ByteArray × Nat × Int × Bool × ByteArray × Int × Int × Int × Bool × Bool × Int × Int × Int × Int × Int × Int × Int × Int × Int × Int × Int × (List (Int × (Bool × (Int × ((Int × (Int × (Int × (Int × Unit)))) × ((Int × (Int × (Bool × (Bool × (Int × (Int × (Int × (Int × (Int × (Int × Unit)))))))))) × ((List Int) × (ByteArray × Unit)))))))) × (List Int))
  | (x0, x1, x2, x3, x4, x5, x6, x7, x8, x9, x10, x11, x12, x13, x14, x15, x16, x17, x18, x19, x20, x21, x22, x23, x24) =>
  iteP (x4 != (0 : Int)) (
    some ((x1, x2, x3, x4, x5, x6, x7, x8, x9, x10, x11, x12, x13, x14, x15, x16, x17, x18, x19, x20, x21, x22, x23, x24))) (
    iteP (decide ((↑(ByteArray.size x1 + ByteArray.size x0) : Int) > (9223372036854775807 : Int))) (
      none ) (
      Option.bind (F8a_14 N N (x1 ++ x0, x2, x3, x4, x5, x6, x7, x8, x9, x10, x11, x12, x13, x14, x15, x16, x17, x18, x19, x20, x21, x22, x23, x24)) fun (y0_0, y0_1, y0_2, y0_3, y0_4, y0_5, y0_6, y0_7, y0_8, y0_9, y0_10, y0_11, y0_12, y0_13, y0_14, y0_15, y0_16, y0_17, y0_18, y0_19, y0_20, y0_21, y0_22, y0_23) =>
      some ((y0_0, y0_1, y0_2, y0_3, y0_4, y0_5, y0_6, y0_7, y0_8, y0_9, y0_10, y0_11, y0_12, y0_13, y0_14, y0_15, y0_16, y0_17, y0_18, y0_19, y0_20, y0_21, y0_22, y0_23))))
noncomputable def T8a (N : Nat) : Pk → Tr Pk := tellS s8a w8a (F8a N)
theorem T8a_ok (N : Nat) : FOK Tryz.prog (8) (T8a N) :=
  (fn_ok2 ownT mix (tab8a_ok N) Tryz.func8 s8a w8a [0, 1] (cuts := [(14, C8a_14 N N)]) ⟨C8a_14_ok N N, trivial⟩ (fun _ => by kernel_rfl) (by decide +kernel) (F8a N) (fun x => by kernel_rfl))
@[reducible] def s5 : SP := ⟨[], []⟩
noncomputable def tab5 (N : Nat) : List (Nat × (Pk → Tr Pk)) := [(7, T7 N), (17, T17 N), (9, T9 N), (8, orT s8.I (T8 N) (T8a N)), (10, orT s10.I (T10 N) (T10a N)), (24, orT s24.I (T24 N) (T24a N)), (23, T23 N), (13, orT s13.I (T13 N) (T13a N)), (16, orT s16.I (T16 N) (T16a N)), (25, orT s25.I (T25 N) (T25a N)), (22, orT s22.I (T22 N) (T22a N)), (11, orT s11.I (T11 N) (T11a N))]
theorem tab5_ok (N : Nat) : TabOK Tryz.prog (tab5 N) := ⟨T7_ok N, T17_ok N, T9_ok N, orT_ok (T8_ok N) (T8a_ok N), orT_ok (T10_ok N) (T10a_ok N), orT_ok (T24_ok N) (T24a_ok N), T23_ok N, orT_ok (T13_ok N) (T13a_ok N), orT_ok (T16_ok N) (T16a_ok N), orT_ok (T25_ok N) (T25a_ok N), orT_ok (T22_ok N) (T22a_ok N), orT_ok (T11_ok N) (T11a_ok N), trivial⟩
@[reducible] def w5 : List SP := [⟨[.bool], []⟩]
noncomputable def F5 (N : Nat) : (Unit) → Option (Bool)
  | () =>
  Option.bind (F7 N ()) fun (y0_0, y0_1, y0_2, y0_3, y0_4, y0_5, y0_6, y0_7, y0_8, y0_9, y0_10, y0_11, y0_12, y0_13, y0_14, y0_15, y0_16, y0_17, y0_18, y0_19, y0_20) =>
  Option.bind (F17 N ()) fun (y1_0, y1_1, y1_2, y1_3, y1_4, y1_5, y1_6, y1_7, y1_8, y1_9) =>
  Option.bind (F9 N ((1 : Int), (1 : Int), y1_0, y1_1, y1_2, y1_3, y1_4, y1_5, y1_6, y1_7, y1_8, y1_9)) fun y2 =>
  Option.bind (F8 N (y2, y0_0, y0_1, y0_2, y0_3, y0_4, y0_5, y0_6, y0_7, y0_8, y0_9, y0_10, y0_11, y0_12, y0_13, y0_14, y0_15, y0_16, y0_17, y0_18, y0_19, y0_20)) fun y3 =>
  match y3 with
  | .inl (y4_0, y4_1, y4_2, y4_3, y4_4, y4_5, y4_6, y4_7, y4_8, y4_9, y4_10, y4_11, y4_12, y4_13, y4_14, y4_15, y4_16, y4_17, y4_18, y4_19, y4_20) =>
    Option.bind (F10 N ((99 : Int), y4_0, y4_1, y4_2, y4_3, y4_4, y4_5, y4_6, y4_7, y4_8, y4_9, y4_10, y4_11, y4_12, y4_13, y4_14, y4_15, y4_16, y4_17, y4_18, y4_19, y4_20)) fun (y5_0, y5_1, y5_2, y5_3, y5_4, y5_5, y5_6, y5_7, y5_8, y5_9, y5_10, y5_11, y5_12, y5_13, y5_14, y5_15, y5_16, y5_17, y5_18, y5_19, y5_20, y5_21) =>
    Option.bind (F8 N (ByteArray.mk #[(0 : UInt8), (0 : UInt8), (0 : UInt8), (1 : UInt8), (0 : UInt8), (0 : UInt8), (0 : UInt8), (0 : UInt8), (0 : UInt8), (1 : UInt8), (0 : UInt8), (1 : UInt8), (0 : UInt8), (0 : UInt8), (0 : UInt8), (0 : UInt8), (7 : UInt8), (0 : UInt8), (0 : UInt8), (0 : UInt8)], y5_1, y5_2, y5_3, y5_4, y5_5, y5_6, y5_7, y5_8, y5_9, y5_10, y5_11, y5_12, y5_13, y5_14, y5_15, y5_16, y5_17, y5_18, y5_19, y5_20, y5_21)) fun y6 =>
    match y6 with
    | .inl (y7_0, y7_1, y7_2, y7_3, y7_4, y7_5, y7_6, y7_7, y7_8, y7_9, y7_10, y7_11, y7_12, y7_13, y7_14, y7_15, y7_16, y7_17, y7_18, y7_19, y7_20) =>
      Option.bind (F24 N (y7_0, y7_1, y7_2, y7_3, y7_4, y7_5, y7_6, y7_7, y7_8, y7_9, y7_10, y7_11, y7_12, y7_13, y7_14, y7_15, y7_16, y7_17, y7_18, y7_19, y7_20)) fun (y8_0, y8_1, y8_2, y8_3, y8_4, y8_5, y8_6, y8_7, y8_8, y8_9, y8_10, y8_11, y8_12, y8_13, y8_14, y8_15, y8_16, y8_17, y8_18, y8_19, y8_20, y8_21, y8_22, y8_23) =>
      Option.bind (F23 N (y8_0, y8_1, y8_22, (1 : Int), (1 : Int), [(7 : Int)])) fun y9 =>
      Option.bind (F13 N ((3 : Int), false, (5 : Int), (0 : Int), (0 : Int), (0 : Int), (0 : Int), (0 : Int), (0 : Int), false, false, (0 : Int), (0 : Int), (0 : Int), (0 : Int), (0 : Int), (0 : Int), [], ByteArray.mk #[], y8_2, y8_3, y8_4, y8_5, y8_6, y8_7, y8_8, y8_9, y8_10, y8_11, y8_12, y8_13, y8_14, y8_15, y8_16, y8_17, y8_18, y8_19, y8_20, y8_21, y8_23)) fun (y10_0, y10_1, y10_2, y10_3, y10_4, y10_5, y10_6, y10_7, y10_8, y10_9, y10_10, y10_11, y10_12, y10_13, y10_14, y10_15, y10_16, y10_17, y10_18, y10_19, y10_20, y10_21) =>
      iteP (ByteArray.toList y5_0 == [(82 : UInt8), (70 : UInt8), (66 : UInt8), (32 : UInt8), (48 : UInt8), (48 : UInt8), (51 : UInt8), (46 : UInt8), (48 : UInt8), (48 : UInt8), (56 : UInt8), (10 : UInt8), (1 : UInt8), (1 : UInt8)]) (
        iteP (y9) (
          Option.bind (F16 N (y10_1, y10_2, y10_3, y10_4, y10_5, y10_6, y10_7, y10_8, y10_9, y10_10, y10_11, y10_12, y10_13, y10_14, y10_15, y10_16, y10_17, y10_18, y10_19, y10_20, y10_21)) fun (y11_0, y11_1, y11_2, y11_3, y11_4, y11_5, y11_6, y11_7, y11_8, y11_9, y11_10, y11_11, y11_12, y11_13, y11_14, y11_15, y11_16, y11_17, y11_18, y11_19, y11_20, y11_21) =>
          iteP (y11_0 == (1 : Int)) (
            Option.bind (F25 N (y11_1, y11_2, y11_3, y11_4, y11_5, y11_6, y11_7, y11_8, y11_9, y11_10, y11_11, y11_12, y11_13, y11_14, y11_15, y11_16, y11_17, y11_18, y11_19, y11_20, y11_21)) fun (y12_0, y12_1, y12_2, y12_3, y12_4, y12_5, y12_6, y12_7, y12_8, y12_9, y12_10, y12_11, y12_12, y12_13, y12_14, y12_15, y12_16, y12_17, y12_18, y12_19, y12_20, y12_21) =>
            iteP (y12_0) (
              Option.bind (F22 N (y12_1, y12_2, y12_3, y12_4, y12_5, y12_6, y12_7, y12_8, y12_9, y12_10, y12_11, y12_12, y12_13, y12_14, y12_15, y12_16, y12_17, y12_18, y12_19, y12_20, y12_21)) fun (y13_0, y13_1, y13_2, y13_3, y13_4, y13_5, y13_6, y13_7, y13_8, y13_9, y13_10, y13_11, y13_12, y13_13, y13_14, y13_15, y13_16, y13_17, y13_18, y13_19, y13_20, y13_21) =>
              iteP (y13_0 == (0 : Int)) (
                iteP (y10_0 == (0 : Int)) (
                  Option.bind (F11 N (y13_1, y13_2, y13_3, y13_4, y13_5, y13_6, y13_7, y13_8, y13_9, y13_10, y13_11, y13_12, y13_13, y13_14, y13_15, y13_16, y13_17, y13_18, y13_19, y13_20, y13_21)) fun (y14_0, y14_1, y14_2, y14_3, y14_4, y14_5, y14_6, y14_7, y14_8, y14_9, y14_10, y14_11, y14_12, y14_13, y14_14, y14_15, y14_16, y14_17, y14_18, y14_19, y14_20, y14_21) =>
                  some (y14_0 == (8 : Int))) (
                  some (false))) (
                some (false))) (
              some (false))) (
            some (false))) (
          some (false))) (
        some (false))
    | .inr (y7_0, y7_1, y7_2, y7_3, y7_4, y7_5, y7_6, y7_7, y7_8, y7_9, y7_10, y7_11, y7_12, y7_13, y7_14, y7_15, y7_16, y7_17, y7_18, y7_19, y7_20, y7_21, y7_22, y7_23) =>
      Option.bind (F24a N (y7_0, y7_1, y7_2, y7_3, y7_4, y7_5, y7_6, y7_7, y7_8, y7_9, y7_10, y7_11, y7_12, y7_13, y7_14, y7_15, y7_16, y7_17, y7_18, y7_19, y7_20, y7_21, y7_22, y7_23)) fun (y15_0, y15_1, y15_2, y15_3, y15_4, y15_5, y15_6, y15_7, y15_8, y15_9, y15_10, y15_11, y15_12, y15_13, y15_14, y15_15, y15_16, y15_17, y15_18, y15_19, y15_20, y15_21, y15_22, y15_23, y15_24, y15_25, y15_26) =>
      Option.bind (F23 N (y15_0, y15_1, y15_24, (1 : Int), (1 : Int), [(7 : Int)])) fun y16 =>
      Option.bind (F13a N ((3 : Int), false, (5 : Int), (0 : Int), (0 : Int), (0 : Int), (0 : Int), (0 : Int), (0 : Int), false, false, (0 : Int), (0 : Int), (0 : Int), (0 : Int), (0 : Int), (0 : Int), [], ByteArray.mk #[], y15_2, y15_3, y15_4, y15_5, y15_6, y15_7, y15_8, y15_9, y15_10, y15_11, y15_12, y15_13, y15_14, y15_15, y15_16, y15_17, y15_18, y15_19, y15_20, y15_21, y15_22, y15_23, y15_25, y15_26)) fun (y17_0, y17_1, y17_2, y17_3, y17_4, y17_5, y17_6, y17_7, y17_8, y17_9, y17_10, y17_11, y17_12, y17_13, y17_14, y17_15, y17_16, y17_17, y17_18, y17_19, y17_20, y17_21, y17_22, y17_23, y17_24) =>
      iteP (ByteArray.toList y5_0 == [(82 : UInt8), (70 : UInt8), (66 : UInt8), (32 : UInt8), (48 : UInt8), (48 : UInt8), (51 : UInt8), (46 : UInt8), (48 : UInt8), (48 : UInt8), (56 : UInt8), (10 : UInt8), (1 : UInt8), (1 : UInt8)]) (
        iteP (y16) (
          Option.bind (F16a N (y17_1, y17_2, y17_3, y17_4, y17_5, y17_6, y17_7, y17_8, y17_9, y17_10, y17_11, y17_12, y17_13, y17_14, y17_15, y17_16, y17_17, y17_18, y17_19, y17_20, y17_21, y17_22, y17_23, y17_24)) fun (y18_0, y18_1, y18_2, y18_3, y18_4, y18_5, y18_6, y18_7, y18_8, y18_9, y18_10, y18_11, y18_12, y18_13, y18_14, y18_15, y18_16, y18_17, y18_18, y18_19, y18_20, y18_21, y18_22, y18_23, y18_24) =>
          iteP (y18_0 == (1 : Int)) (
            Option.bind (F25a N (y18_1, y18_2, y18_3, y18_4, y18_5, y18_6, y18_7, y18_8, y18_9, y18_10, y18_11, y18_12, y18_13, y18_14, y18_15, y18_16, y18_17, y18_18, y18_19, y18_20, y18_21, y18_22, y18_23, y18_24)) fun (y19_0, y19_1, y19_2, y19_3, y19_4, y19_5, y19_6, y19_7, y19_8, y19_9, y19_10, y19_11, y19_12, y19_13, y19_14, y19_15, y19_16, y19_17, y19_18, y19_19, y19_20, y19_21, y19_22, y19_23, y19_24) =>
            iteP (y19_0) (
              Option.bind (F22a N (y19_1, y19_2, y19_3, y19_4, y19_5, y19_6, y19_7, y19_8, y19_9, y19_10, y19_11, y19_12, y19_13, y19_14, y19_15, y19_16, y19_17, y19_18, y19_19, y19_20, y19_21, y19_22, y19_23, y19_24)) fun (y20_0, y20_1, y20_2, y20_3, y20_4, y20_5, y20_6, y20_7, y20_8, y20_9, y20_10, y20_11, y20_12, y20_13, y20_14, y20_15, y20_16, y20_17, y20_18, y20_19, y20_20, y20_21, y20_22, y20_23, y20_24) =>
              iteP (y20_0 == (0 : Int)) (
                iteP (y17_0 == (0 : Int)) (
                  Option.bind (F11a N (y20_1, y20_2, y20_3, y20_4, y20_5, y20_6, y20_7, y20_8, y20_9, y20_10, y20_11, y20_12, y20_13, y20_14, y20_15, y20_16, y20_17, y20_18, y20_19, y20_20, y20_21, y20_22, y20_23, y20_24)) fun (y21_0, y21_1, y21_2, y21_3, y21_4, y21_5, y21_6, y21_7, y21_8, y21_9, y21_10, y21_11, y21_12, y21_13, y21_14, y21_15, y21_16, y21_17, y21_18, y21_19, y21_20, y21_21, y21_22, y21_23, y21_24) =>
                  some (y21_0 == (8 : Int))) (
                  some (false))) (
                some (false))) (
              some (false))) (
            some (false))) (
          some (false))) (
        some (false))
  | .inr (y4_0, y4_1, y4_2, y4_3, y4_4, y4_5, y4_6, y4_7, y4_8, y4_9, y4_10, y4_11, y4_12, y4_13, y4_14, y4_15, y4_16, y4_17, y4_18, y4_19, y4_20, y4_21, y4_22, y4_23) =>
    Option.bind (F10a N ((99 : Int), y4_0, y4_1, y4_2, y4_3, y4_4, y4_5, y4_6, y4_7, y4_8, y4_9, y4_10, y4_11, y4_12, y4_13, y4_14, y4_15, y4_16, y4_17, y4_18, y4_19, y4_20, y4_21, y4_22, y4_23)) fun (y22_0, y22_1, y22_2, y22_3, y22_4, y22_5, y22_6, y22_7, y22_8, y22_9, y22_10, y22_11, y22_12, y22_13, y22_14, y22_15, y22_16, y22_17, y22_18, y22_19, y22_20, y22_21, y22_22, y22_23, y22_24) =>
    Option.bind (F8a N (ByteArray.mk #[(0 : UInt8), (0 : UInt8), (0 : UInt8), (1 : UInt8), (0 : UInt8), (0 : UInt8), (0 : UInt8), (0 : UInt8), (0 : UInt8), (1 : UInt8), (0 : UInt8), (1 : UInt8), (0 : UInt8), (0 : UInt8), (0 : UInt8), (0 : UInt8), (7 : UInt8), (0 : UInt8), (0 : UInt8), (0 : UInt8)], y22_1, y22_2, y22_3, y22_4, y22_5, y22_6, y22_7, y22_8, y22_9, y22_10, y22_11, y22_12, y22_13, y22_14, y22_15, y22_16, y22_17, y22_18, y22_19, y22_20, y22_21, y22_22, y22_23, y22_24)) fun (y23_0, y23_1, y23_2, y23_3, y23_4, y23_5, y23_6, y23_7, y23_8, y23_9, y23_10, y23_11, y23_12, y23_13, y23_14, y23_15, y23_16, y23_17, y23_18, y23_19, y23_20, y23_21, y23_22, y23_23) =>
    Option.bind (F24a N (y23_0, y23_1, y23_2, y23_3, y23_4, y23_5, y23_6, y23_7, y23_8, y23_9, y23_10, y23_11, y23_12, y23_13, y23_14, y23_15, y23_16, y23_17, y23_18, y23_19, y23_20, y23_21, y23_22, y23_23)) fun (y24_0, y24_1, y24_2, y24_3, y24_4, y24_5, y24_6, y24_7, y24_8, y24_9, y24_10, y24_11, y24_12, y24_13, y24_14, y24_15, y24_16, y24_17, y24_18, y24_19, y24_20, y24_21, y24_22, y24_23, y24_24, y24_25, y24_26) =>
    Option.bind (F23 N (y24_0, y24_1, y24_24, (1 : Int), (1 : Int), [(7 : Int)])) fun y25 =>
    Option.bind (F13a N ((3 : Int), false, (5 : Int), (0 : Int), (0 : Int), (0 : Int), (0 : Int), (0 : Int), (0 : Int), false, false, (0 : Int), (0 : Int), (0 : Int), (0 : Int), (0 : Int), (0 : Int), [], ByteArray.mk #[], y24_2, y24_3, y24_4, y24_5, y24_6, y24_7, y24_8, y24_9, y24_10, y24_11, y24_12, y24_13, y24_14, y24_15, y24_16, y24_17, y24_18, y24_19, y24_20, y24_21, y24_22, y24_23, y24_25, y24_26)) fun (y26_0, y26_1, y26_2, y26_3, y26_4, y26_5, y26_6, y26_7, y26_8, y26_9, y26_10, y26_11, y26_12, y26_13, y26_14, y26_15, y26_16, y26_17, y26_18, y26_19, y26_20, y26_21, y26_22, y26_23, y26_24) =>
    iteP (ByteArray.toList y22_0 == [(82 : UInt8), (70 : UInt8), (66 : UInt8), (32 : UInt8), (48 : UInt8), (48 : UInt8), (51 : UInt8), (46 : UInt8), (48 : UInt8), (48 : UInt8), (56 : UInt8), (10 : UInt8), (1 : UInt8), (1 : UInt8)]) (
      iteP (y25) (
        Option.bind (F16a N (y26_1, y26_2, y26_3, y26_4, y26_5, y26_6, y26_7, y26_8, y26_9, y26_10, y26_11, y26_12, y26_13, y26_14, y26_15, y26_16, y26_17, y26_18, y26_19, y26_20, y26_21, y26_22, y26_23, y26_24)) fun (y27_0, y27_1, y27_2, y27_3, y27_4, y27_5, y27_6, y27_7, y27_8, y27_9, y27_10, y27_11, y27_12, y27_13, y27_14, y27_15, y27_16, y27_17, y27_18, y27_19, y27_20, y27_21, y27_22, y27_23, y27_24) =>
        iteP (y27_0 == (1 : Int)) (
          Option.bind (F25a N (y27_1, y27_2, y27_3, y27_4, y27_5, y27_6, y27_7, y27_8, y27_9, y27_10, y27_11, y27_12, y27_13, y27_14, y27_15, y27_16, y27_17, y27_18, y27_19, y27_20, y27_21, y27_22, y27_23, y27_24)) fun (y28_0, y28_1, y28_2, y28_3, y28_4, y28_5, y28_6, y28_7, y28_8, y28_9, y28_10, y28_11, y28_12, y28_13, y28_14, y28_15, y28_16, y28_17, y28_18, y28_19, y28_20, y28_21, y28_22, y28_23, y28_24) =>
          iteP (y28_0) (
            Option.bind (F22a N (y28_1, y28_2, y28_3, y28_4, y28_5, y28_6, y28_7, y28_8, y28_9, y28_10, y28_11, y28_12, y28_13, y28_14, y28_15, y28_16, y28_17, y28_18, y28_19, y28_20, y28_21, y28_22, y28_23, y28_24)) fun (y29_0, y29_1, y29_2, y29_3, y29_4, y29_5, y29_6, y29_7, y29_8, y29_9, y29_10, y29_11, y29_12, y29_13, y29_14, y29_15, y29_16, y29_17, y29_18, y29_19, y29_20, y29_21, y29_22, y29_23, y29_24) =>
            iteP (y29_0 == (0 : Int)) (
              iteP (y26_0 == (0 : Int)) (
                Option.bind (F11a N (y29_1, y29_2, y29_3, y29_4, y29_5, y29_6, y29_7, y29_8, y29_9, y29_10, y29_11, y29_12, y29_13, y29_14, y29_15, y29_16, y29_17, y29_18, y29_19, y29_20, y29_21, y29_22, y29_23, y29_24)) fun (y30_0, y30_1, y30_2, y30_3, y30_4, y30_5, y30_6, y30_7, y30_8, y30_9, y30_10, y30_11, y30_12, y30_13, y30_14, y30_15, y30_16, y30_17, y30_18, y30_19, y30_20, y30_21, y30_22, y30_23, y30_24) =>
                some (y30_0 == (8 : Int))) (
                some (false))) (
              some (false))) (
            some (false))) (
          some (false))) (
        some (false))) (
      some (false))
noncomputable def T5 (N : Nat) : Pk → Tr Pk := tellS s5 w5 (F5 N)
theorem T5_ok (N : Nat) : FOK Tryz.prog (5) (T5 N) :=
  (fn_ok2 ownT mix (tab5_ok N) Tryz.func5 s5 w5 [] (cuts := []) trivial (fun _ => by kernel_rfl) (by decide +kernel) (F5 N) (fun x => by kernel_rfl))
@[reducible] def s40a : SP := ⟨[.adr 0 []], [.var 95 (.agg [.agg [.nilp, .sl 1], .int .i64]), .row (.int .u8) 5]⟩
noncomputable def tab40a (N : Nat) : List (Nat × (Pk → Tr Pk)) := []
theorem tab40a_ok (N : Nat) : TabOK Tryz.prog (tab40a N) := trivial
@[reducible] def w40a : List SP := [⟨[.tup [.str, .int .i64]], [.var 95 (.agg [.agg [.nilp, .sl 1], .int .i64]), .row (.int .u8) 5]⟩, ⟨[.tup [.str, .int .i64]], [.var 95 (.agg [.agg [.nilp, .ro (.int .u8)], .int .i64])]⟩]
noncomputable def F40a (N : Nat) : (Int × (List Int)) → Option (((ByteArray × Int × Int × (List Int)) ⊕ (ByteArray × Int × (List Int) × Int)))
  | (x0, x1) =>
  iteP (x0 != (0 : Int)) (
    some (.inl ((ByteArray.mk #[], x0, x0, x1)))) (
    iteP (decide ((0 : Nat) < List.length x1 ∧ List.length x1 ≤ (140737488355328 : Nat))) (
      some (.inr ((stringOf x1, (0 : Int), x1, x0)))) (
      iteP (decide (List.length x1 = (0 : Nat))) (
        some (.inl ((ByteArray.empty, (0 : Int), x0, x1)))) (
        none )))
noncomputable def T40a (N : Nat) : Pk → Tr Pk := tellS s40a w40a (F40a N)
theorem T40a_ok (N : Nat) : FOK Tryz.prog (40) (T40a N) :=
  (fn_ok2 ownT mix (tab40a_ok N) Tryz.func40 s40a w40a [0] (cuts := []) trivial (fun _ => by kernel_rfl) (by decide +kernel) (F40a N) (fun x => by kernel_rfl))
@[reducible] def s38a : SP := ⟨[.adr 0 [], .str], [.var 95 (.agg [.agg [.nilp, .sl 1], .int .i64]), .row (.int .u8) 5]⟩
noncomputable def tab38a (N : Nat) : List (Nat × (Pk → Tr Pk)) := [(39, T39 N), (37, T37 N), (32, orT s32a.I (T32a N) (T32 N))]
theorem tab38a_ok (N : Nat) : TabOK Tryz.prog (tab38a N) := ⟨T39_ok N, T37_ok N, orT_ok (T32a_ok N) (T32_ok N), trivial⟩
@[reducible] def w38a : List SP := [⟨[.tup []], [.var 95 (.agg [.agg [.adr 0 [.f 0 0], .sl 1], .int .i64]), .row (.int .u8) 5]⟩]
noncomputable def F38a (N : Nat) : (ByteArray × Int × (List Int)) → Option (Int × (List Int))
  | (x0, x1, x2) =>
  Option.bind (F39 N (decide ((↑(ByteArray.size x0) : Int) ≤ (4096 : Int)), (1 : Int), x1, x2)) fun y0 =>
  Option.bind (F37 N ((4 : Int), [(↑(ByteArray.size x0) : Int)], y0.1, y0.2)) fun y1 =>
  match y1 with
  | .inl y2 =>
    Option.bind (F32a N (x0, y2.1, y2.2)) fun y3 =>
    some ((y3.2.1, y3.2.2))
  | .inr y2 =>
    Option.bind (F32 N (x0, y2.1, y2.2)) fun y4 =>
    some ((y4.2.1, y4.2.2))
noncomputable def T38a (N : Nat) : Pk → Tr Pk := tellS s38a w38a (F38a N)
theorem T38a_ok (N : Nat) : FOK Tryz.prog (38) (T38a N) :=
  (fn_ok2 ownT mix (tab38a_ok N) Tryz.func38 s38a w38a [0] (cuts := []) trivial (fun _ => by kernel_rfl) (by decide +kernel) (F38a N) (fun x => by kernel_rfl))
@[reducible] def s18 : SP := ⟨[.agg [.int .i64, .bool, .int .i64, .agg [.int .i64, .int .i64, .int .i64, .int .i64], .agg [.int .i64, .int .i64, .bool, .bool, .int .i64, .int .i64, .int .i64, .int .i64, .int .i64, .int .i64], .ro (.int .i64), .str]], []⟩
noncomputable def tab18 (N : Nat) : List (Nat × (Pk → Tr Pk)) := [(37, orT s37.I (T37 N) (T37a N)), (40, orT s40.I (T40 N) (T40a N)), (38, orT s38.I (T38 N) (T38a N)), (39, T39 N)]
theorem tab18_ok (N : Nat) : TabOK Tryz.prog (tab18 N) := ⟨orT_ok (T37_ok N) (T37a_ok N), orT_ok (T40_ok N) (T40a_ok N), orT_ok (T38_ok N) (T38a_ok N), T39_ok N, trivial⟩
@[reducible] def w18 : List SP := [⟨[.tup [.str, .int .i64]], []⟩]
noncomputable def F18 (N : Nat) : (Int × Bool × Int × Int × Int × Int × Int × Int × Int × Bool × Bool × Int × Int × Int × Int × Int × Int × (List Int) × ByteArray) → Option (ByteArray × Int)
  | (x0, x1, x2, x3, x4, x5, x6, x7, x8, x9, x10, x11, x12, x13, x14, x15, x16, x17, x18) =>
  iteP (x0 == (6 : Int)) (
    Option.bind (F37 N ((1 : Int), [(0 : Int), (0 : Int)], (0 : Int), [])) fun y0 =>
    match y0 with
    | .inl y1 =>
      Option.bind (F37a N ((2 : Int), [x2], y1.1, y1.2)) fun y2 =>
      Option.bind (F40 N (y2.1, y2.2)) fun y3 =>
      match y3 with
      | .inl y4 =>
        some ((y4.1, y4.2.1))
      | .inr y4 =>
        some ((y4.1, y4.2.1))
    | .inr y1 =>
      Option.bind (F37 N ((2 : Int), [x2], y1.1, y1.2)) fun y5 =>
      match y5 with
      | .inl y6 =>
        Option.bind (F40 N (y6.1, y6.2)) fun y7 =>
        match y7 with
        | .inl y8 =>
          some ((y8.1, y8.2.1))
        | .inr y8 =>
          some ((y8.1, y8.2.1))
      | .inr y6 =>
        Option.bind (F40a N (y6.1, y6.2)) fun y9 =>
        match y9 with
        | .inl y10 =>
          some ((y10.1, y10.2.1))
        | .inr y10 =>
          some ((y10.1, y10.2.1))) (
    iteP (x0 == (7 : Int)) (
      Option.bind (F37 N ((1 : Int), [(2 : Int)], (0 : Int), [])) fun y11 =>
      match y11 with
      | .inl y12 =>
        Option.bind (F40 N (y12.1, y12.2)) fun y13 =>
        match y13 with
        | .inl y14 =>
          some ((y14.1, y14.2.1))
        | .inr y14 =>
          some ((y14.1, y14.2.1))
      | .inr y12 =>
        Option.bind (F40a N (y12.1, y12.2)) fun y15 =>
        match y15 with
        | .inl y16 =>
          some ((y16.1, y16.2.1))
        | .inr y16 =>
          some ((y16.1, y16.2.1))) (
      iteP (x0 == (5 : Int)) (
        Option.bind (F37 N ((1 : Int), [(3 : Int), (0 : Int), (0 : Int), (0 : Int)], (0 : Int), [])) fun y17 =>
        match y17 with
        | .inl y18 =>
          Option.bind (F38 N (x18, y18.1, y18.2)) fun y19 =>
          Option.bind (F40 N (y19.1, y19.2)) fun y20 =>
          match y20 with
          | .inl y21 =>
            some ((y21.1, y21.2.1))
          | .inr y21 =>
            some ((y21.1, y21.2.1))
        | .inr y18 =>
          Option.bind (F38a N (x18, y18.1, y18.2)) fun y22 =>
          Option.bind (F40 N (y22.1, y22.2)) fun y23 =>
          match y23 with
          | .inl y24 =>
            some ((y24.1, y24.2.1))
          | .inr y24 =>
            some ((y24.1, y24.2.1))) (
        Option.bind (F39 N (false, (1 : Int), (0 : Int), [])) fun y25 =>
        Option.bind (F40a N (y25.1, y25.2)) fun y26 =>
        match y26 with
        | .inl y27 =>
          some ((y27.1, y27.2.1))
        | .inr y27 =>
          some ((y27.1, y27.2.1)))))
noncomputable def T18 (N : Nat) : Pk → Tr Pk := tellS s18 w18 (F18 N)
theorem T18_ok (N : Nat) : FOK Tryz.prog (18) (T18 N) :=
  (fn_ok2 ownT mix (tab18_ok N) Tryz.func18 s18 w18 [] (cuts := []) trivial (fun _ => by kernel_rfl) (by decide +kernel) (F18 N) (fun x => by kernel_rfl))
@[reducible] def s41 : SP := ⟨[.adr 0 [.f 5 5]], [.var 74 (.agg [.adr 1 [], .str, .str, .fv, .int .i64, .agg [.sl 2], .agg [.agg [.agg [.agg [.bool, .str], .int .i64]]], .agg [.int .i64, .int .i64, .bool, .bool, .int .i64, .int .i64, .int .i64, .int .i64, .int .i64, .int .i64], .int .i64, .int .i64, .int .i64]), .var 112 (.agg [.int .i64, .int .i64, .sl 3]), .row y0 38, .row (.int .i64) 3]⟩
noncomputable def tab41 (N : Nat) : List (Nat × (Pk → Tr Pk)) := []
theorem tab41_ok (N : Nat) : TabOK Tryz.prog (tab41 N) := trivial
@[reducible] def w41 : List SP := [⟨[.sl 2], [.var 74 (.agg [.adr 1 [], .str, .str, .fv, .int .i64, .agg [.sl 3], .agg [.agg [.agg [.agg [.bool, .str], .int .i64]]], .agg [.int .i64, .int .i64, .bool, .bool, .int .i64, .int .i64, .int .i64, .int .i64, .int .i64, .int .i64], .int .i64, .int .i64, .int .i64]), .var 112 (.agg [.int .i64, .int .i64, .sl 4]), .row y0 38, .row y0 38, .row (.int .i64) 3]⟩]
noncomputable def F41 (N : Nat) : (ByteArray × ByteArray × Nat × Int × Bool × ByteArray × Int × Int × Int × Bool × Bool × Int × Int × Int × Int × Int × Int × Int × Int × Int × Int × Int × (List (Int × (Bool × (Int × ((Int × (Int × (Int × (Int × Unit)))) × ((Int × (Int × (Bool × (Bool × (Int × (Int × (Int × (Int × (Int × (Int × Unit)))))))))) × ((List Int) × (ByteArray × Unit)))))))) × (List Int)) → Option (ByteArray × ByteArray × Nat × Int × Bool × ByteArray × Int × Int × Int × Bool × Bool × Int × Int × Int × Int × Int × Int × Int × Int × Int × Int × Int × (List (Int × (Bool × (Int × ((Int × (Int × (Int × (Int × Unit)))) × ((Int × (Int × (Bool × (Bool × (Int × (Int × (Int × (Int × (Int × (Int × Unit)))))))))) × ((List Int) × (ByteArray × Unit)))))))) × (List (Int × (Bool × (Int × ((Int × (Int × (Int × (Int × Unit)))) × ((Int × (Int × (Bool × (Bool × (Int × (Int × (Int × (Int × (Int × (Int × Unit)))))))))) × ((List Int) × (ByteArray × Unit)))))))) × (List Int))
  | (x0, x1, x2, x3, x4, x5, x6, x7, x8, x9, x10, x11, x12, x13, x14, x15, x16, x17, x18, x19, x20, x21, x22, x23) =>
  iteP (decide (((0 : Nat) + List.length x22) * (168 : Nat) ≤ (140737488355328 : Nat) ∧ (0 : Nat) + List.length x22 ≤ (140737488355328 : Nat))) (
    some ((x0, x1, x2, x3, x4, x5, x6, x7, x8, x9, x10, x11, x12, x13, x14, x15, x16, x17, x18, x19, x20, x21, x22, x22, x23))) (
    none )
noncomputable def T41 (N : Nat) : Pk → Tr Pk := tellS s41 w41 (F41 N)
theorem T41_ok (N : Nat) : FOK Tryz.prog (41) (T41 N) :=
  (fn_ok2 ownT mix (tab41_ok N) Tryz.func41 s41 w41 [0, 1] (cuts := []) trivial (fun _ => by kernel_rfl) (by decide +kernel) (F41 N) (fun x => by kernel_rfl))
@[reducible] def s20 : SP := ⟨[.adr 0 []], [.var 74 (.agg [.adr 1 [], .str, .str, .fv, .int .i64, .agg [.sl 2], .agg [.agg [.agg [.agg [.bool, .str], .int .i64]]], .agg [.int .i64, .int .i64, .bool, .bool, .int .i64, .int .i64, .int .i64, .int .i64, .int .i64, .int .i64], .int .i64, .int .i64, .int .i64]), .var 112 (.agg [.int .i64, .int .i64, .sl 3]), .row y0 38, .row (.int .i64) 3]⟩
noncomputable def tab20 (N : Nat) : List (Nat × (Pk → Tr Pk)) := [(41, T41 N)]
theorem tab20_ok (N : Nat) : TabOK Tryz.prog (tab20 N) := ⟨T41_ok N, trivial⟩
@[reducible] def w20 : List SP := [⟨[.sl 2], [.var 74 (.agg [.adr 1 [], .str, .str, .fv, .int .i64, .agg [.sl 3], .agg [.agg [.agg [.agg [.bool, .str], .int .i64]]], .agg [.int .i64, .int .i64, .bool, .bool, .int .i64, .int .i64, .int .i64, .int .i64, .int .i64, .int .i64], .int .i64, .int .i64, .int .i64]), .var 112 (.agg [.int .i64, .int .i64, .sl 4]), .row y0 38, .row y0 38, .row (.int .i64) 3]⟩]
noncomputable def F20 (N : Nat) : (ByteArray × ByteArray × Nat × Int × Bool × ByteArray × Int × Int × Int × Bool × Bool × Int × Int × Int × Int × Int × Int × Int × Int × Int × Int × Int × (List (Int × (Bool × (Int × ((Int × (Int × (Int × (Int × Unit)))) × ((Int × (Int × (Bool × (Bool × (Int × (Int × (Int × (Int × (Int × (Int × Unit)))))))))) × ((List Int) × (ByteArray × Unit)))))))) × (List Int)) → Option (ByteArray × ByteArray × Nat × Int × Bool × ByteArray × Int × Int × Int × Bool × Bool × Int × Int × Int × Int × Int × Int × Int × Int × Int × Int × Int × (List (Int × (Bool × (Int × ((Int × (Int × (Int × (Int × Unit)))) × ((Int × (Int × (Bool × (Bool × (Int × (Int × (Int × (Int × (Int × (Int × Unit)))))))))) × ((List Int) × (ByteArray × Unit)))))))) × (List (Int × (Bool × (Int × ((Int × (Int × (Int × (Int × Unit)))) × ((Int × (Int × (Bool × (Bool × (Int × (Int × (Int × (Int × (Int × (Int × Unit)))))))))) × ((List Int) × (ByteArray × Unit)))))))) × (List Int))
  | (x0, x1, x2, x3, x4, x5, x6, x7, x8, x9, x10, x11, x12, x13, x14, x15, x16, x17, x18, x19, x20, x21, x22, x23) =>
  Option.bind (F41 N (x0, x1, x2, x3, x4, x5, x6, x7, x8, x9, x10, x11, x12, x13, x14, x15, x16, x17, x18, x19, x20, x21, x22, x23)) fun (y0_0, y0_1, y0_2, y0_3, y0_4, y0_5, y0_6, y0_7, y0_8, y0_9, y0_10, y0_11, y0_12, y0_13, y0_14, y0_15, y0_16, y0_17, y0_18, y0_19, y0_20, y0_21, y0_22, y0_23, y0_24) =>
  some ((y0_0, y0_1, y0_2, y0_3, y0_4, y0_5, y0_6, y0_7, y0_8, y0_9, y0_10, y0_11, y0_12, y0_13, y0_14, y0_15, y0_16, y0_17, y0_18, y0_19, y0_20, y0_21, y0_22, [], y0_24))
noncomputable def T20 (N : Nat) : Pk → Tr Pk := tellS s20 w20 (F20 N)
theorem T20_ok (N : Nat) : FOK Tryz.prog (20) (T20 N) :=
  (fn_ok2 ownT mix (tab20_ok N) Tryz.func20 s20 w20 [0, 1] (cuts := []) trivial (fun _ => by kernel_rfl) (by decide +kernel) (F20 N) (fun x => by kernel_rfl))
@[reducible] def s21 : SP := ⟨[.agg [.int .i64, .bool, .int .i64, .agg [.int .i64, .int .i64, .int .i64, .int .i64], .agg [.int .i64, .int .i64, .bool, .bool, .int .i64, .int .i64, .int .i64, .int .i64, .int .i64, .int .i64], .ro (.int .i64), .str], .agg [.int .i64, .bool, .int .i64, .agg [.int .i64, .int .i64, .int .i64, .int .i64], .agg [.int .i64, .int .i64, .bool, .bool, .int .i64, .int .i64, .int .i64, .int .i64, .int .i64, .int .i64], .ro (.int .i64), .str]], []⟩
noncomputable def tab21 (N : Nat) : List (Nat × (Pk → Tr Pk)) := []
theorem tab21_ok (N : Nat) : TabOK Tryz.prog (tab21 N) := trivial
@[reducible] def L21_58 : LD := ⟨58, [2, 3, 5], [(.ret, [4]), (.exit 0, [])], ⟨[.adr 0 [], .adr 1 [], .int .i64], [.var 38 (.agg [.int .i64, .bool, .int .i64, .agg [.int .i64, .int .i64, .int .i64, .int .i64], .agg [.int .i64, .int .i64, .bool, .bool, .int .i64, .int .i64, .int .i64, .int .i64, .int .i64, .int .i64], .ro (.int .i64), .str]), .var 38 (.agg [.int .i64, .bool, .int .i64, .agg [.int .i64, .int .i64, .int .i64, .int .i64], .agg [.int .i64, .int .i64, .bool, .bool, .int .i64, .int .i64, .int .i64, .int .i64, .int .i64, .int .i64], .ro (.int .i64), .str])]⟩, [(.ret, ⟨[.bool], []⟩), (.exit 0, ⟨[], []⟩)]⟩
abbrev P21_58 : Type := Int × Int × Bool × Int × Int × Int × Int × Int × Int × Int × Bool × Bool × Int × Int × Int × Int × Int × Int × (List Int) × ByteArray × Int × Bool × Int × Int × Int × Int × Int × Int × Int × Bool × Bool × Int × Int × Int × Int × Int × Int × (List Int) × ByteArray
abbrev R21_58 : Type := ((Bool) ⊕ (Unit))
noncomputable def B21_58 (N : Nat) (f : P21_58 → Option R21_58) : P21_58 → Option R21_58
  | (x0, x1, x2, x3, x4, x5, x6, x7, x8, x9, x10, x11, x12, x13, x14, x15, x16, x17, x18, x19, x20, x21, x22, x23, x24, x25, x26, x27, x28, x29, x30, x31, x32, x33, x34, x35, x36, x37, x38) =>
  iteP (decide (x0 < (↑(List.length x18) : Int))) (
    iteP (within x0 (List.length x18)) (
      Option.bind (x18[Int.toNat x0]?) fun y0 =>
      iteP (within x0 (List.length x37)) (
        Option.bind (x37[Int.toNat x0]?) fun y1 =>
        iteP (y0 != y1) (
          some (.inl (false))) (
          Option.bind (f (IntKind.wrap IntKind.i64 (x0 + (1 : Int)), x1, x2, x3, x4, x5, x6, x7, x8, x9, x10, x11, x12, x13, x14, x15, x16, x17, x18, x19, x20, x21, x22, x23, x24, x25, x26, x27, x28, x29, x30, x31, x32, x33, x34, x35, x36, x37, x38)) fun r => match r with | .inl y => some (.inl y) | .inr y => some (.inr y))) (
        none )) (
      none )) (
    some (.inr (())))
noncomputable def F21_58 (N : Nat) : Nat → P21_58 → Option R21_58
  | 0, _ => none
  | k + 1, x => B21_58 N (F21_58 N k) x
noncomputable def C21_58 (N : Nat) (k : Nat) : Cut := L21_58.cut (F21_58 N k)
theorem C21_58_ok (N : Nat) (k : Nat) : CutAt Tryz.prog false Tryz.f21 [] 58 (C21_58 N k) :=
  L21_58.loopT ownT mix (tab21_ok N) Tryz.f21 [] (cuts := []) trivial (by decide +kernel) (by kernel_rfl) (B21_58 N) (F21_58 N) (fun _ => rfl) (fun _ _ => rfl) (fun f x => by kernel_rfl) k
@[reducible] def w21 : List SP := [⟨[.bool], []⟩]
noncomputable def F21 (N : Nat) : (Int × Bool × Int × Int × Int × Int × Int × Int × Int × Bool × Bool × Int × Int × Int × Int × Int × Int × (List Int) × ByteArray × Int × Bool × Int × Int × Int × Int × Int × Int × Int × Bool × Bool × Int × Int × Int × Int × Int × Int × (List Int) × ByteArray) → Option (Bool)
  | (x0, x1, x2, x3, x4, x5, x6, x7, x8, x9, x10, x11, x12, x13, x14, x15, x16, x17, x18, x19, x20, x21, x22, x23, x24, x25, x26, x27, x28, x29, x30, x31, x32, x33, x34, x35, x36, x37) =>
  iteP (x0 != x19) (
    some (false)) (
    iteP (!x1 == x20) (
      some (false)) (
      iteP (x2 != x21) (
        some (false)) (
        iteP (!(x3 == x22 && (x4 == x23 && (x5 == x24 && (x6 == x25 && true))))) (
          some (false)) (
          iteP (!(x7 == x26 && (x8 == x27 && (x9 == x28 && (x10 == x29 && (x11 == x30 && (x12 == x31 && (x13 == x32 && (x14 == x33 && (x15 == x34 && (x16 == x35 && true))))))))))) (
            some (false)) (
            iteP (!ByteArray.toList x18 == ByteArray.toList x37) (
              some (false)) (
              iteP ((↑(List.length x17) : Int) != (↑(List.length x36) : Int)) (
                some (false)) (
                Option.bind (F21_58 N N ((0 : Int), x0, x1, x2, x3, x4, x5, x6, x7, x8, x9, x10, x11, x12, x13, x14, x15, x16, x17, x18, x19, x20, x21, x22, x23, x24, x25, x26, x27, x28, x29, x30, x31, x32, x33, x34, x35, x36, x37)) fun y0 =>
                match y0 with
                | .inl y1 =>
                  some (y1)
                | .inr y1 =>
                  some (true))))))))
noncomputable def T21 (N : Nat) : Pk → Tr Pk := tellS s21 w21 (F21 N)
theorem T21_ok (N : Nat) : FOK Tryz.prog (21) (T21 N) :=
  (fn_ok2 ownT mix (tab21_ok N) Tryz.func21 s21 w21 [] (cuts := [(58, C21_58 N N)]) ⟨C21_58_ok N N, trivial⟩ (fun _ => by kernel_rfl) (by decide +kernel) (F21 N) (fun x => by kernel_rfl))
@[reducible] def s19 : SP := ⟨[.ro y0, .ro y0], []⟩
noncomputable def tab19 (N : Nat) : List (Nat × (Pk → Tr Pk)) := [(21, T21 N)]
theorem tab19_ok (N : Nat) : TabOK Tryz.prog (tab19 N) := ⟨T21_ok N, trivial⟩
@[reducible] def L19_58 : LD := ⟨58, [0, 1, 5], [(.ret, [4]), (.exit 0, [])], ⟨[.ro y0, .ro y0, .int .i64], []⟩, [(.ret, ⟨[.bool], []⟩), (.exit 0, ⟨[], []⟩)]⟩
abbrev P19_58 : Type := (List (Int × (Bool × (Int × ((Int × (Int × (Int × (Int × Unit)))) × ((Int × (Int × (Bool × (Bool × (Int × (Int × (Int × (Int × (Int × (Int × Unit)))))))))) × ((List Int) × (ByteArray × Unit)))))))) × (List (Int × (Bool × (Int × ((Int × (Int × (Int × (Int × Unit)))) × ((Int × (Int × (Bool × (Bool × (Int × (Int × (Int × (Int × (Int × (Int × Unit)))))))))) × ((List Int) × (ByteArray × Unit)))))))) × Int
abbrev R19_58 : Type := ((Bool) ⊕ (Unit))
noncomputable def B19_58 (N : Nat) (f : P19_58 → Option R19_58) : P19_58 → Option R19_58
  | (x0, x1, x2) =>
  iteP (decide (x2 < (↑(List.length x0) : Int))) (
    iteP (within x2 (List.length x0)) (
      Option.bind (x0[Int.toNat x2]?) fun (y0_0, y0_1, y0_2, y0_3, y0_4, y0_5, y0_6, y0_7) =>
      iteP (within x2 (List.length x1)) (
        Option.bind (x1[Int.toNat x2]?) fun (y1_0, y1_1, y1_2, y1_3, y1_4, y1_5, y1_6, y1_7) =>
        Option.bind (F21 N (y0_0, y0_1, y0_2, y0_3.1, y0_3.2.1, y0_3.2.2.1, y0_3.2.2.2.1, y0_4.1, y0_4.2.1, y0_4.2.2.1, y0_4.2.2.2.1, y0_4.2.2.2.2.1, y0_4.2.2.2.2.2.1, y0_4.2.2.2.2.2.2.1, y0_4.2.2.2.2.2.2.2.1, y0_4.2.2.2.2.2.2.2.2.1, y0_4.2.2.2.2.2.2.2.2.2.1, y0_5, y0_6, y1_0, y1_1, y1_2, y1_3.1, y1_3.2.1, y1_3.2.2.1, y1_3.2.2.2.1, y1_4.1, y1_4.2.1, y1_4.2.2.1, y1_4.2.2.2.1, y1_4.2.2.2.2.1, y1_4.2.2.2.2.2.1, y1_4.2.2.2.2.2.2.1, y1_4.2.2.2.2.2.2.2.1, y1_4.2.2.2.2.2.2.2.2.1, y1_4.2.2.2.2.2.2.2.2.2.1, y1_5, y1_6)) fun y2 =>
        iteP (!y2) (
          some (.inl (false))) (
          Option.bind (f (x0, x1, IntKind.wrap IntKind.i64 (x2 + (1 : Int)))) fun r => match r with | .inl y => some (.inl y) | .inr y => some (.inr y))) (
        none )) (
      none )) (
    some (.inr (())))
noncomputable def F19_58 (N : Nat) : Nat → P19_58 → Option R19_58
  | 0, _ => none
  | k + 1, x => B19_58 N (F19_58 N k) x
noncomputable def C19_58 (N : Nat) (k : Nat) : Cut := L19_58.cut (F19_58 N k)
theorem C19_58_ok (N : Nat) (k : Nat) : CutAt Tryz.prog false Tryz.f19 [] 58 (C19_58 N k) :=
  L19_58.loopT ownT mix (tab19_ok N) Tryz.f19 [] (cuts := []) trivial (by decide +kernel) (by kernel_rfl) (B19_58 N) (F19_58 N) (fun _ => rfl) (fun _ _ => rfl) (fun f x => by kernel_rfl) k
@[reducible] def w19 : List SP := [⟨[.bool], []⟩]
noncomputable def F19 (N : Nat) : ((List (Int × (Bool × (Int × ((Int × (Int × (Int × (Int × Unit)))) × ((Int × (Int × (Bool × (Bool × (Int × (Int × (Int × (Int × (Int × (Int × Unit)))))))))) × ((List Int) × (ByteArray × Unit)))))))) × (List (Int × (Bool × (Int × ((Int × (Int × (Int × (Int × Unit)))) × ((Int × (Int × (Bool × (Bool × (Int × (Int × (Int × (Int × (Int × (Int × Unit)))))))))) × ((List Int) × (ByteArray × Unit))))))))) → Option (Bool)
  | (x0, x1) =>
  iteP ((↑(List.length x0) : Int) != (↑(List.length x1) : Int)) (
    some (false)) (
    Option.bind (F19_58 N N (x0, x1, (0 : Int))) fun y0 =>
    match y0 with
    | .inl y1 =>
      some (y1)
    | .inr y1 =>
      some (true))
noncomputable def T19 (N : Nat) : Pk → Tr Pk := tellS s19 w19 (F19 N)
theorem T19_ok (N : Nat) : FOK Tryz.prog (19) (T19 N) :=
  (fn_ok2 ownT mix (tab19_ok N) Tryz.func19 s19 w19 [] (cuts := [(58, C19_58 N N)]) ⟨C19_58_ok N N, trivial⟩ (fun _ => by kernel_rfl) (by decide +kernel) (F19 N) (fun x => by kernel_rfl))
@[reducible] def s41a : SP := ⟨[.adr 0 [.f 5 5]], [.var 74 (.agg [.nilp, .str, .str, .fv, .int .i64, .agg [.sl 1], .agg [.agg [.agg [.agg [.bool, .str], .int .i64]]], .agg [.int .i64, .int .i64, .bool, .bool, .int .i64, .int .i64, .int .i64, .int .i64, .int .i64, .int .i64], .int .i64, .int .i64, .int .i64]), .row y0 38]⟩
noncomputable def tab41a (N : Nat) : List (Nat × (Pk → Tr Pk)) := []
theorem tab41a_ok (N : Nat) : TabOK Tryz.prog (tab41a N) := trivial
@[reducible] def w41a : List SP := [⟨[.sl 1], [.var 74 (.agg [.nilp, .str, .str, .fv, .int .i64, .agg [.sl 2], .agg [.agg [.agg [.agg [.bool, .str], .int .i64]]], .agg [.int .i64, .int .i64, .bool, .bool, .int .i64, .int .i64, .int .i64, .int .i64, .int .i64, .int .i64], .int .i64, .int .i64, .int .i64]), .row y0 38, .row y0 38]⟩]
noncomputable def F41a (N : Nat) : (ByteArray × ByteArray × Nat × Int × Bool × ByteArray × Int × Int × Int × Bool × Bool × Int × Int × Int × Int × Int × Int × Int × Int × Int × (List (Int × (Bool × (Int × ((Int × (Int × (Int × (Int × Unit)))) × ((Int × (Int × (Bool × (Bool × (Int × (Int × (Int × (Int × (Int × (Int × Unit)))))))))) × ((List Int) × (ByteArray × Unit))))))))) → Option (ByteArray × ByteArray × Nat × Int × Bool × ByteArray × Int × Int × Int × Bool × Bool × Int × Int × Int × Int × Int × Int × Int × Int × Int × (List (Int × (Bool × (Int × ((Int × (Int × (Int × (Int × Unit)))) × ((Int × (Int × (Bool × (Bool × (Int × (Int × (Int × (Int × (Int × (Int × Unit)))))))))) × ((List Int) × (ByteArray × Unit)))))))) × (List (Int × (Bool × (Int × ((Int × (Int × (Int × (Int × Unit)))) × ((Int × (Int × (Bool × (Bool × (Int × (Int × (Int × (Int × (Int × (Int × Unit)))))))))) × ((List Int) × (ByteArray × Unit)))))))))
  | (x0, x1, x2, x3, x4, x5, x6, x7, x8, x9, x10, x11, x12, x13, x14, x15, x16, x17, x18, x19, x20) =>
  iteP (decide (((0 : Nat) + List.length x20) * (168 : Nat) ≤ (140737488355328 : Nat) ∧ (0 : Nat) + List.length x20 ≤ (140737488355328 : Nat))) (
    some ((x0, x1, x2, x3, x4, x5, x6, x7, x8, x9, x10, x11, x12, x13, x14, x15, x16, x17, x18, x19, x20, x20))) (
    none )
noncomputable def T41a (N : Nat) : Pk → Tr Pk := tellS s41a w41a (F41a N)
theorem T41a_ok (N : Nat) : FOK Tryz.prog (41) (T41a N) :=
  (fn_ok2 ownT mix (tab41a_ok N) Tryz.func41 s41a w41a [0] (cuts := []) trivial (fun _ => by kernel_rfl) (by decide +kernel) (F41a N) (fun x => by kernel_rfl))
@[reducible] def s20a : SP := ⟨[.adr 0 []], [.var 74 (.agg [.nilp, .str, .str, .fv, .int .i64, .agg [.sl 1], .agg [.agg [.agg [.agg [.bool, .str], .int .i64]]], .agg [.int .i64, .int .i64, .bool, .bool, .int .i64, .int .i64, .int .i64, .int .i64, .int .i64, .int .i64], .int .i64, .int .i64, .int .i64]), .row y0 38]⟩
noncomputable def tab20a (N : Nat) : List (Nat × (Pk → Tr Pk)) := [(41, T41a N)]
theorem tab20a_ok (N : Nat) : TabOK Tryz.prog (tab20a N) := ⟨T41a_ok N, trivial⟩
@[reducible] def w20a : List SP := [⟨[.sl 1], [.var 74 (.agg [.nilp, .str, .str, .fv, .int .i64, .agg [.sl 2], .agg [.agg [.agg [.agg [.bool, .str], .int .i64]]], .agg [.int .i64, .int .i64, .bool, .bool, .int .i64, .int .i64, .int .i64, .int .i64, .int .i64, .int .i64], .int .i64, .int .i64, .int .i64]), .row y0 38, .row y0 38]⟩]
noncomputable def F20a (N : Nat) : (ByteArray × ByteArray × Nat × Int × Bool × ByteArray × Int × Int × Int × Bool × Bool × Int × Int × Int × Int × Int × Int × Int × Int × Int × (List (Int × (Bool × (Int × ((Int × (Int × (Int × (Int × Unit)))) × ((Int × (Int × (Bool × (Bool × (Int × (Int × (Int × (Int × (Int × (Int × Unit)))))))))) × ((List Int) × (ByteArray × Unit))))))))) → Option (ByteArray × ByteArray × Nat × Int × Bool × ByteArray × Int × Int × Int × Bool × Bool × Int × Int × Int × Int × Int × Int × Int × Int × Int × (List (Int × (Bool × (Int × ((Int × (Int × (Int × (Int × Unit)))) × ((Int × (Int × (Bool × (Bool × (Int × (Int × (Int × (Int × (Int × (Int × Unit)))))))))) × ((List Int) × (ByteArray × Unit)))))))) × (List (Int × (Bool × (Int × ((Int × (Int × (Int × (Int × Unit)))) × ((Int × (Int × (Bool × (Bool × (Int × (Int × (Int × (Int × (Int × (Int × Unit)))))))))) × ((List Int) × (ByteArray × Unit)))))))))
  | (x0, x1, x2, x3, x4, x5, x6, x7, x8, x9, x10, x11, x12, x13, x14, x15, x16, x17, x18, x19, x20) =>
  Option.bind (F41a N (x0, x1, x2, x3, x4, x5, x6, x7, x8, x9, x10, x11, x12, x13, x14, x15, x16, x17, x18, x19, x20)) fun (y0_0, y0_1, y0_2, y0_3, y0_4, y0_5, y0_6, y0_7, y0_8, y0_9, y0_10, y0_11, y0_12, y0_13, y0_14, y0_15, y0_16, y0_17, y0_18, y0_19, y0_20, y0_21) =>
  some ((y0_0, y0_1, y0_2, y0_3, y0_4, y0_5, y0_6, y0_7, y0_8, y0_9, y0_10, y0_11, y0_12, y0_13, y0_14, y0_15, y0_16, y0_17, y0_18, y0_19, y0_20, []))
noncomputable def T20a (N : Nat) : Pk → Tr Pk := tellS s20a w20a (F20a N)
theorem T20a_ok (N : Nat) : FOK Tryz.prog (20) (T20a N) :=
  (fn_ok2 ownT mix (tab20a_ok N) Tryz.func20 s20a w20a [0] (cuts := []) trivial (fun _ => by kernel_rfl) (by decide +kernel) (F20a N) (fun x => by kernel_rfl))
end Go.Proofs.YtgddhgpljnljaaaGreat.Am
