/- The seat's Go functions come to the Lean functions written here, wherever these give an answer (part C). -/
import Derived.Test.YtfcamlibbfnldaaGreatSB
set_option linter.unusedSimpArgs false
set_option linter.unusedVariables false
set_option linter.unusedSectionVars false
set_option maxRecDepth 100000
namespace Go.Proofs.YtfcamlibbfnldaaGreat.Am
open Go.Am
@[reducible] def s365 : SP := ⟨[.adr 0 [], .int .i64], [.var 345 (.agg [.str, .int .i64, .int .i64])]⟩
noncomputable def tab365 (N : Nat) : List (Nat × (Pk → Tr Pk)) := [(362, T362 N), (329, T329 N), (330, T330 N), (368, T368 N), (349, T349 N)]
theorem tab365_ok (N : Nat) : TabOK Tryz.prog (tab365 N) := ⟨T362_ok N, T329_ok N, T330_ok N, T368_ok N, T349_ok N, trivial⟩
@[reducible] def L365_58 : LD := ⟨58, [17, 16, 15, 6, 0], [(.ret, [4, 5]), (.exit 0, [0, 6])], ⟨[.int .i64, .int .i64, .slp 1 (.c 0) .h, .sl 2, .adr 0 []], [.var 345 (.agg [.str, .int .i64, .int .i64]), .row (.int .i64) 3, .row (.int .i64) 3]⟩, [(.exit 0, ⟨[.adr 0 [], .sl 1], [.var 345 (.agg [.str, .int .i64, .int .i64]), .row (.int .i64) 3]⟩)]⟩
abbrev P365_58 : Type := Int × Int × Nat × ByteArray × Int × Int × (List Int) × (List Int)
abbrev R365_58 : Type := ByteArray × Int × Int × (List Int)
noncomputable def B365_58 (N : Nat) (f : P365_58 → Option R365_58) : P365_58 → Option R365_58
  | (x0, x1, x2, x3, x4, x5, x6, x7) =>
  iteP (decide (x0 < x1)) (
    iteP (within x0 x2) (
      Option.bind (x6[(0 : Nat) + Int.toNat x0]?) fun y0 =>
      Option.bind (F329 N ((3 : Int), x3, x4, x5)) fun y1 =>
      iteP (within y0 (List.length x7)) (
        Option.bind (x7[Int.toNat y0]?) fun y2 =>
        Option.bind (f (IntKind.wrap IntKind.i64 (x0 + (1 : Int)), x1, x2, y1.2.1, y1.2.2.1, y1.2.2.2, x6, List.set x7 (Int.toNat y0) y1.1)) fun r => some r) (
        none )) (
      none )) (
    some ((x3, x4, x5, x7)))
noncomputable def F365_58 (N : Nat) : Nat → P365_58 → Option R365_58
  | 0, _ => none
  | k + 1, x => B365_58 N (F365_58 N k) x
noncomputable def C365_58 (N : Nat) (k : Nat) : Cut := L365_58.cut (F365_58 N k)
theorem C365_58_ok (N : Nat) (k : Nat) : CutAt Tryz.prog false Tryz.f365 [0] 58 (C365_58 N k) :=
  L365_58.loopT ownT mix (tab365_ok N) Tryz.f365 [0] (cuts := []) trivial (by decide +kernel) (by kernel_rfl) (B365_58 N) (F365_58 N) (fun _ => rfl) (fun _ _ => rfl) (fun f x => by kernel_rfl) k
@[reducible] def w365 : List SP := [⟨[.tup [.nilp, .int .i64]], [.var 345 (.agg [.str, .int .i64, .int .i64])]⟩, ⟨[.tup [.adr 1 [], .int .i64]], [.var 345 (.agg [.str, .int .i64, .int .i64]), .var 397 (.agg [.arr (.int .i64) 16, .sl 2, .int .i64]), .row (.int .i64) 3]⟩]
noncomputable def F365 (N : Nat) : (Int × ByteArray × Int × Int) → Option (((Int × ByteArray × Int × Int) ⊕ (Int × ByteArray × Int × Int × (List Int) × Int × (List Int))))
  | (x0, x1, x2, x3) =>
  Option.bind (F362 N ()) fun y0 =>
  iteP (decide ((0 : Int) ≤ x0 ∧ x0 ≤ (↑(List.length y0) : Int))) (
    Option.bind (F365_58 N N ((0 : Int), (↑(Int.toNat x0 - (0 : Nat)) : Int), Int.toNat x0 - (0 : Nat), x1, x2, x3, y0, List.replicate (19 : Nat) (0 : Int))) fun y1 =>
    Option.bind (F330 N (y1.1, y1.2.1, y1.2.2.1, ())) fun y2 =>
    iteP (y2 != (0 : Int)) (
      some (.inl ((y2, y1.1, y1.2.1, y1.2.2.1)))) (
      Option.bind (F368 N y1.2.2.2) fun y3 =>
      match y3 with
      | .inl y4 =>
        Option.bind (F349 N y4) fun y5 =>
        some (.inl ((y5, y1.1, y1.2.1, y1.2.2.1)))
      | .inr y4 =>
        Option.bind (F349 N y4.1) fun y6 =>
        some (.inr ((y6, y1.1, y1.2.1, y1.2.2.1, y4.2.1, y4.2.2.1, y4.2.2.2))))) (
    none )
noncomputable def T365 (N : Nat) : Pk → Tr Pk := tellS s365 w365 (F365 N)
theorem T365_ok (N : Nat) : FOK Tryz.prog (365) (T365 N) :=
  (fn_ok2 ownT mix (tab365_ok N) Tryz.func365 s365 w365 [0] (cuts := [(58, C365_58 N N)]) ⟨C365_58_ok N N, trivial⟩ (fun _ => by kernel_rfl) (by decide +kernel) (F365 N) (fun x => by kernel_rfl))
@[reducible] def s366 : SP := ⟨[.nilp, .adr 0 []], [.var 345 (.agg [.str, .int .i64, .int .i64])]⟩
noncomputable def tab366 (N : Nat) : List (Nat × (Pk → Tr Pk)) := []
theorem tab366_ok (N : Nat) : TabOK Tryz.prog (tab366 N) := trivial
@[reducible] def L366_58 : LD := ⟨58, [8, 0, 7, 1, 9, 6], [(.ret, [4, 5])], ⟨[.int .i64, .nilp, .int .i64, .adr 0 [], .int .i64, .int .i64], [.var 345 (.agg [.str, .int .i64, .int .i64])]⟩, []⟩
abbrev P366_58 : Type := Int × Int × Int × Int × ByteArray × Int × Int
abbrev R366_58 : Type := Unit
noncomputable def B366_58 (N : Nat) (f : P366_58 → Option R366_58) : P366_58 → Option R366_58
  | (x0, x1, x2, x3, x4, x5, x6) =>
  none 
noncomputable def F366_58 (N : Nat) : Nat → P366_58 → Option R366_58
  | 0, _ => none
  | k + 1, x => B366_58 N (F366_58 N k) x
noncomputable def C366_58 (N : Nat) (k : Nat) : Cut := L366_58.cut (F366_58 N k)
theorem C366_58_ok (N : Nat) (k : Nat) : CutAt Tryz.prog false Tryz.f366 [0] 58 (C366_58 N k) :=
  L366_58.loopT ownT mix (tab366_ok N) Tryz.f366 [0] (cuts := []) trivial (by decide +kernel) (by kernel_rfl) (B366_58 N) (F366_58 N) (fun _ => rfl) (fun _ _ => rfl) (fun f x => by kernel_rfl) k
@[reducible] def w366 : List SP := []
noncomputable def F366 (N : Nat) : (ByteArray × Int × Int) → Option (Unit)
  | (x0, x1, x2) =>
  Option.bind (F366_58 N N ((0 : Int), (0 : Int), (1 : Int), (0 : Int), x0, x1, x2)) fun y0 =>
  none
noncomputable def T366 (N : Nat) : Pk → Tr Pk := tellS s366 w366 (F366 N)
theorem T366_ok (N : Nat) : FOK Tryz.prog (366) (T366 N) :=
  (fn_ok2 ownT mix (tab366_ok N) Tryz.func366 s366 w366 [0] (cuts := [(58, C366_58 N N)]) ⟨C366_58_ok N N, trivial⟩ (fun _ => by kernel_rfl) (by decide +kernel) (F366 N) (fun x => by kernel_rfl))
@[reducible] def s380 : SP := ⟨[.adr 0 [], .int .i64], [.var 397 (.agg [.arr (.int .i64) 16, .sl 1, .int .i64]), .row (.int .i64) 3]⟩
noncomputable def tab380 (N : Nat) : List (Nat × (Pk → Tr Pk)) := []
theorem tab380_ok (N : Nat) : TabOK Tryz.prog (tab380 N) := trivial
@[reducible] def L380_58 : LD := ⟨58, [5, 6, 1, 0], [(.ret, [4]), (.exit 0, [5])], ⟨[.int .i64, .int .i64, .int .i64, .adr 0 []], [.var 397 (.agg [.arr (.int .i64) 16, .sl 1, .int .i64]), .row (.int .i64) 3]⟩, [(.exit 0, ⟨[.int .i64], [.var 397 (.agg [.arr (.int .i64) 16, .sl 1, .int .i64]), .row (.int .i64) 3]⟩)]⟩
abbrev P380_58 : Type := Int × Int × Int × (List Int) × Int × (List Int)
abbrev R380_58 : Type := Int × (List Int) × Int × (List Int)
noncomputable def B380_58 (N : Nat) (f : P380_58 → Option R380_58) : P380_58 → Option R380_58
  | (x0, x1, x2, x3, x4, x5) =>
  iteP (decide (x1 > x2)) (
    iteP (within x1 (16 : Nat)) (
      Option.bind (x3[Int.toNat x1]?) fun y0 =>
      Option.bind (f (IntKind.wrap IntKind.i64 (Int.tdiv (IntKind.wrap IntKind.i64 (IntKind.wrap IntKind.i64 (x0 + y0) + (1 : Int))) (2 : Int)), IntKind.wrap IntKind.i64 (x1 - (1 : Int)), x2, x3, x4, x5)) fun r => some r) (
      none )) (
    some ((x0, x3, x4, x5)))
noncomputable def F380_58 (N : Nat) : Nat → P380_58 → Option R380_58
  | 0, _ => none
  | k + 1, x => B380_58 N (F380_58 N k) x
noncomputable def C380_58 (N : Nat) (k : Nat) : Cut := L380_58.cut (F380_58 N k)
theorem C380_58_ok (N : Nat) (k : Nat) : CutAt Tryz.prog false Tryz.f380 [0] 58 (C380_58 N k) :=
  L380_58.loopT ownT mix (tab380_ok N) Tryz.f380 [0] (cuts := []) trivial (by decide +kernel) (by kernel_rfl) (B380_58 N) (F380_58 N) (fun _ => rfl) (fun _ _ => rfl) (fun f x => by kernel_rfl) k
@[reducible] def w380 : List SP := [⟨[.int .i64], [.var 397 (.agg [.arr (.int .i64) 16, .sl 1, .int .i64]), .row (.int .i64) 3]⟩]
noncomputable def F380 (N : Nat) : (Int × (List Int) × Int × (List Int)) → Option (Int × (List Int) × Int × (List Int))
  | (x0, x1, x2, x3) =>
  Option.bind (F380_58 N N ((0 : Int), x2, x0, x1, x2, x3)) fun y0 =>
  some ((y0.1, y0.2.1, y0.2.2.1, y0.2.2.2))
noncomputable def T380 (N : Nat) : Pk → Tr Pk := tellS s380 w380 (F380 N)
theorem T380_ok (N : Nat) : FOK Tryz.prog (380) (T380 N) :=
  (fn_ok2 ownT mix (tab380_ok N) Tryz.func380 s380 w380 [0] (cuts := [(58, C380_58 N N)]) ⟨C380_58_ok N N, trivial⟩ (fun _ => by kernel_rfl) (by decide +kernel) (F380 N) (fun x => by kernel_rfl))
@[reducible] def s366a : SP := ⟨[.adr 0 [], .adr 1 []], [.var 397 (.agg [.arr (.int .i64) 16, .sl 2, .int .i64]), .var 345 (.agg [.str, .int .i64, .int .i64]), .row (.int .i64) 3]⟩
noncomputable def tab366a (N : Nat) : List (Nat × (Pk → Tr Pk)) := [(329, T329 N), (330, T330 N), (380, T380 N)]
theorem tab366a_ok (N : Nat) : TabOK Tryz.prog (tab366a N) := ⟨T329_ok N, T330_ok N, T380_ok N, trivial⟩
@[reducible] def L366a_58 : LD := ⟨58, [8, 0, 7, 1, 9, 6], [(.ret, [4, 5]), (.exit 0, [])], ⟨[.int .i64, .adr 0 [], .int .i64, .adr 1 [], .int .i64, .int .i64], [.var 397 (.agg [.arr (.int .i64) 16, .sl 2, .int .i64]), .var 345 (.agg [.str, .int .i64, .int .i64]), .row (.int .i64) 3]⟩, [(.ret, ⟨[.int .i64, .int .i64], [.var 397 (.agg [.arr (.int .i64) 16, .sl 2, .int .i64]), .var 345 (.agg [.str, .int .i64, .int .i64]), .row (.int .i64) 3]⟩), (.exit 0, ⟨[], [.var 397 (.agg [.arr (.int .i64) 16, .sl 2, .int .i64]), .var 345 (.agg [.str, .int .i64, .int .i64]), .row (.int .i64) 3]⟩)]⟩
abbrev P366a_58 : Type := Int × Int × Int × Int × (List Int) × Int × ByteArray × Int × Int × (List Int)
abbrev R366a_58 : Type := ((Int × Int × (List Int) × Int × ByteArray × Int × Int × (List Int)) ⊕ ((List Int) × Int × ByteArray × Int × Int × (List Int)))
noncomputable def B366a_58 (N : Nat) (f : P366a_58 → Option R366a_58) : P366a_58 → Option R366a_58
  | (x0, x1, x2, x3, x4, x5, x6, x7, x8, x9) =>
  iteP (decide (x2 ≤ x5)) (
    Option.bind (F329 N ((1 : Int), x6, x7, x8)) fun y0 =>
    Option.bind (F330 N (y0.2.1, y0.2.2.1, y0.2.2.2, ())) fun y1 =>
    iteP (y1 != (0 : Int)) (
      some (.inl (((0 : Int), y1, x4, x5, y0.2.1, y0.2.2.1, y0.2.2.2, x9)))) (
      iteP (within x2 (16 : Nat)) (
        Option.bind (x4[Int.toNat x2]?) fun y2 =>
        iteP (decide (IntKind.wrap IntKind.i64 (IntKind.wrap IntKind.i64 (↑(BitVec.toNat (BitVec.ofInt (64 : Nat) x3 ||| BitVec.ofInt (64 : Nat) y0.1)) : Int) - x1) < y2)) (
          iteP (within (IntKind.wrap IntKind.i64 (x0 + IntKind.wrap IntKind.i64 (IntKind.wrap IntKind.i64 (↑(BitVec.toNat (BitVec.ofInt (64 : Nat) x3 ||| BitVec.ofInt (64 : Nat) y0.1)) : Int) - x1))) (List.length x9)) (
            Option.bind (x9[Int.toNat (IntKind.wrap IntKind.i64 (x0 + IntKind.wrap IntKind.i64 (IntKind.wrap IntKind.i64 (↑(BitVec.toNat (BitVec.ofInt (64 : Nat) x3 ||| BitVec.ofInt (64 : Nat) y0.1)) : Int) - x1)))]?) fun y3 =>
            some (.inl ((y3, (0 : Int), x4, x5, y0.2.1, y0.2.2.1, y0.2.2.2, x9)))) (
            none )) (
          iteP (within x2 (16 : Nat)) (
            Option.bind (x4[Int.toNat x2]?) fun y4 =>
            iteP (within x2 (16 : Nat)) (
              Option.bind (x4[Int.toNat x2]?) fun y5 =>
              Option.bind (F380 N (x2, x4, x5, x9)) fun y6 =>
              iteP (decide (IntKind.wrap IntKind.i64 (Int.fdiv (IntKind.wrap IntKind.i64 (IntKind.wrap IntKind.i64 (↑(BitVec.toNat (BitVec.ofInt (64 : Nat) x3 ||| BitVec.ofInt (64 : Nat) y0.1)) : Int) * (2 : Int))) (2 : Int) - Int.fdiv (IntKind.wrap IntKind.i64 (IntKind.wrap IntKind.i64 (x1 + y5) * (2 : Int))) (2 : Int)) ≥ y6.1)) (
                some (.inl (((0 : Int), (3 : Int), y6.2.1, y6.2.2.1, y0.2.1, y0.2.2.1, y0.2.2.2, y6.2.2.2)))) (
                Option.bind (f (IntKind.wrap IntKind.i64 (x0 + y4), IntKind.wrap IntKind.i64 (IntKind.wrap IntKind.i64 (x1 + y5) * (2 : Int)), IntKind.wrap IntKind.i64 (x2 + (1 : Int)), IntKind.wrap IntKind.i64 (IntKind.wrap IntKind.i64 (↑(BitVec.toNat (BitVec.ofInt (64 : Nat) x3 ||| BitVec.ofInt (64 : Nat) y0.1)) : Int) * (2 : Int)), y6.2.1, y6.2.2.1, y0.2.1, y0.2.2.1, y0.2.2.2, y6.2.2.2)) fun r => match r with | .inl y => some (.inl y) | .inr y => some (.inr y))) (
              none )) (
            none ))) (
        none ))) (
    some (.inr ((x4, x5, x6, x7, x8, x9))))
noncomputable def F366a_58 (N : Nat) : Nat → P366a_58 → Option R366a_58
  | 0, _ => none
  | k + 1, x => B366a_58 N (F366a_58 N k) x
noncomputable def C366a_58 (N : Nat) (k : Nat) : Cut := L366a_58.cut (F366a_58 N k)
theorem C366a_58_ok (N : Nat) (k : Nat) : CutAt Tryz.prog false Tryz.f366 [0, 1] 58 (C366a_58 N k) :=
  L366a_58.loopT ownT mix (tab366a_ok N) Tryz.f366 [0, 1] (cuts := []) trivial (by decide +kernel) (by kernel_rfl) (B366a_58 N) (F366a_58 N) (fun _ => rfl) (fun _ _ => rfl) (fun f x => by kernel_rfl) k
@[reducible] def w366a : List SP := [⟨[.tup [.int .i64, .int .i64]], [.var 397 (.agg [.arr (.int .i64) 16, .sl 2, .int .i64]), .var 345 (.agg [.str, .int .i64, .int .i64]), .row (.int .i64) 3]⟩]
noncomputable def F366a (N : Nat) : ((List Int) × Int × ByteArray × Int × Int × (List Int)) → Option (Int × Int × (List Int) × Int × ByteArray × Int × Int × (List Int))
  | (x0, x1, x2, x3, x4, x5) =>
  Option.bind (F366a_58 N N ((0 : Int), (0 : Int), (1 : Int), (0 : Int), x0, x1, x2, x3, x4, x5)) fun y0 =>
  match y0 with
  | .inl (y1_0, y1_1, y1_2, y1_3, y1_4, y1_5, y1_6, y1_7) =>
    some ((y1_0, y1_1, y1_2, y1_3, y1_4, y1_5, y1_6, y1_7))
  | .inr (y1_0, y1_1, y1_2, y1_3, y1_4, y1_5) =>
    some (((0 : Int), (3 : Int), y1_0, y1_1, y1_2, y1_3, y1_4, y1_5))
noncomputable def T366a (N : Nat) : Pk → Tr Pk := tellS s366a w366a (F366a N)
theorem T366a_ok (N : Nat) : FOK Tryz.prog (366) (T366a N) :=
  (fn_ok2 ownT mix (tab366a_ok N) Tryz.func366 s366a w366a [0, 1] (cuts := [(58, C366a_58 N N)]) ⟨C366a_58_ok N N, trivial⟩ (fun _ => by kernel_rfl) (by decide +kernel) (F366a N) (fun x => by kernel_rfl))
@[reducible] def s367 : SP := ⟨[.adr 0 [], .int .i64, .ro (.int .i64)], [.var 345 (.agg [.str, .int .i64, .int .i64])]⟩
noncomputable def tab367 (N : Nat) : List (Nat × (Pk → Tr Pk)) := [(329, T329 N), (330, T330 N)]
theorem tab367_ok (N : Nat) : TabOK Tryz.prog (tab367 N) := ⟨T329_ok N, T330_ok N, trivial⟩
@[reducible] def w367 : List SP := [⟨[.tup [.int .i64, .int .i64, .int .i64]], [.var 345 (.agg [.str, .int .i64, .int .i64])]⟩]
noncomputable def F367 (N : Nat) : (Int × (List Int) × ByteArray × Int × Int) → Option (Int × Int × Int × ByteArray × Int × Int)
  | (x0, x1, x2, x3, x4) =>
  iteP (x0 == (16 : Int)) (
    iteP ((↑(List.length x1) : Int) == (0 : Int)) (
      some (((0 : Int), (0 : Int), (80 : Int), x2, x3, x4))) (
      iteP (within (IntKind.wrap IntKind.i64 ((↑(List.length x1) : Int) - (1 : Int))) (List.length x1)) (
        Option.bind (x1[Int.toNat (IntKind.wrap IntKind.i64 ((↑(List.length x1) : Int) - (1 : Int)))]?) fun y0 =>
        Option.bind (F329 N ((2 : Int), x2, x3, x4)) fun y1 =>
        Option.bind (F330 N (y1.2.1, y1.2.2.1, y1.2.2.2, ())) fun y2 =>
        some ((y0, IntKind.wrap IntKind.i64 ((3 : Int) + y1.1), y2, y1.2.1, y1.2.2.1, y1.2.2.2))) (
        none ))) (
    iteP (x0 == (17 : Int)) (
      Option.bind (F329 N ((3 : Int), x2, x3, x4)) fun y3 =>
      Option.bind (F330 N (y3.2.1, y3.2.2.1, y3.2.2.2, ())) fun y4 =>
      some (((0 : Int), IntKind.wrap IntKind.i64 ((3 : Int) + y3.1), y4, y3.2.1, y3.2.2.1, y3.2.2.2))) (
      iteP (x0 == (18 : Int)) (
        Option.bind (F329 N ((7 : Int), x2, x3, x4)) fun y5 =>
        Option.bind (F330 N (y5.2.1, y5.2.2.1, y5.2.2.2, ())) fun y6 =>
        some (((0 : Int), IntKind.wrap IntKind.i64 ((11 : Int) + y5.1), y6, y5.2.1, y5.2.2.1, y5.2.2.2))) (
        Option.bind (F330 N (x2, x3, x4, ())) fun y7 =>
        some ((x0, (1 : Int), y7, x2, x3, x4)))))
noncomputable def T367 (N : Nat) : Pk → Tr Pk := tellS s367 w367 (F367 N)
theorem T367_ok (N : Nat) : FOK Tryz.prog (367) (T367 N) :=
  (fn_ok2 ownT mix (tab367_ok N) Tryz.func367 s367 w367 [0] (cuts := []) trivial (fun _ => by kernel_rfl) (by decide +kernel) (F367 N) (fun x => by kernel_rfl))
@[reducible] def s347 : SP := ⟨[.adr 0 []], [.var 345 (.agg [.str, .int .i64, .int .i64])]⟩
noncomputable def tab347 (N : Nat) : List (Nat × (Pk → Tr Pk)) := [(329, T329 N), (330, T330 N), (365, T365 N), (366, orT s366.I (T366 N) (T366a N)), (349, T349 N), (367, T367 N)]
theorem tab347_ok (N : Nat) : TabOK Tryz.prog (tab347 N) := ⟨T329_ok N, T330_ok N, T365_ok N, orT_ok (T366_ok N) (T366a_ok N), T349_ok N, T367_ok N, trivial⟩
@[reducible] def L347_508 : LD := ⟨508, [9, 5, 6, 0, 10], [(.ret, [2, 3, 4]), (.exit 1, [10, 5])], ⟨[.nilp, .int .i64, .int .i64, .adr 0 [], .sl 1], [.var 345 (.agg [.str, .int .i64, .int .i64]), .row (.int .i64) 3]⟩, [(.exit 1, ⟨[.sl 1, .int .i64], [.var 345 (.agg [.str, .int .i64, .int .i64]), .row (.int .i64) 3]⟩)]⟩
abbrev P347_508 : Type := Int × Int × ByteArray × Int × Int × (List Int)
abbrev R347_508 : Type := Int × ByteArray × Int × Int × (List Int)
noncomputable def B347_508 (N : Nat) (f : P347_508 → Option R347_508) : P347_508 → Option R347_508
  | (x0, x1, x2, x3, x4, x5) =>
  iteP (decide ((↑(List.length x5) : Int) < IntKind.wrap IntKind.i64 (x0 + x1))) (
    Option.bind (F366 N (x2, x3, x4)) fun y0 =>
    none) (
    some ((x0, x2, x3, x4, x5)))
noncomputable def F347_508 (N : Nat) : Nat → P347_508 → Option R347_508
  | 0, _ => none
  | k + 1, x => B347_508 N (F347_508 N k) x
noncomputable def C347_508 (N : Nat) (k : Nat) : Cut := L347_508.cut (F347_508 N k)
theorem C347_508_ok (N : Nat) (k : Nat) : CutAt Tryz.prog false Tryz.f347 [0] 508 (C347_508 N k) :=
  L347_508.loopT ownT mix (tab347_ok N) Tryz.f347 [0] (cuts := []) trivial (by decide +kernel) (by kernel_rfl) (B347_508 N) (F347_508 N) (fun _ => rfl) (fun _ _ => rfl) (fun f x => by kernel_rfl) k
@[reducible] def L347_260286 : LD := ⟨260286, [10, 84, 83, 0, 6, 5, 9, 13], [(.ret, [2, 3, 4]), (.exit 4, [9, 5, 6, 0, 10]), (.exit 2, [9, 5, 6, 0, 10]), (.exit 1, [10, 5])], ⟨[.sl 1, .int .i64, .int .i64, .adr 0 [], .int .i64, .int .i64, .adr 2 [], .int .i64], [.var 345 (.agg [.str, .int .i64, .int .i64]), .row (.int .i64) 3, .var 397 (.agg [.arr (.int .i64) 16, .sl 3, .int .i64]), .row (.int .i64) 3]⟩, [(.exit 4, ⟨[.adr 1 [], .int .i64, .int .i64, .adr 0 [], .sl 2], [.var 345 (.agg [.str, .int .i64, .int .i64]), .var 397 (.agg [.arr (.int .i64) 16, .sl 3, .int .i64]), .row (.int .i64) 3, .row (.int .i64) 3]⟩)]⟩
abbrev P347_260286 : Type := Int × Int × Int × Int × Int × ByteArray × Int × Int × (List Int) × (List Int) × Int × (List Int)
abbrev R347_260286 : Type := Int × Int × ByteArray × Int × Int × (List Int) × Int × (List Int) × (List Int)
noncomputable def B347_260286 (N : Nat) (f : P347_260286 → Option R347_260286) : P347_260286 → Option R347_260286
  | (x0, x1, x2, x3, x4, x5, x6, x7, x8, x9, x10, x11) =>
  iteP (decide (x0 < x1)) (
    iteP (decide ((List.length x8 + List.length [x4]) * (8 : Nat) ≤ (140737488355328 : Nat) ∧ List.length x8 + List.length [x4] ≤ (140737488355328 : Nat))) (
      Option.bind (f (IntKind.wrap IntKind.i64 (x0 + (1 : Int)), x1, x2, x3, x4, x5, x6, x7, x8 ++ [x4], x9, x10, x11)) fun r => some r) (
      none )) (
    some ((x3, x2, x5, x6, x7, x9, x10, x8, x11)))
noncomputable def F347_260286 (N : Nat) : Nat → P347_260286 → Option R347_260286
  | 0, _ => none
  | k + 1, x => B347_260286 N (F347_260286 N k) x
noncomputable def C347_260286 (N : Nat) (k : Nat) : Cut := L347_260286.cut (F347_260286 N k)
theorem C347_260286_ok (N : Nat) (k : Nat) : CutAt Tryz.prog false Tryz.f347 [0] 260286 (C347_260286 N k) :=
  L347_260286.loopT ownT mix (tab347_ok N) Tryz.f347 [0] (cuts := [(508, C347_508 N N)]) ⟨C347_508_ok N N, trivial⟩ (by decide +kernel) (by kernel_rfl) (B347_260286 N) (F347_260286 N) (fun _ => rfl) (fun _ _ => rfl) (fun f x => by kernel_rfl) k
@[reducible] def L347_508b : LD := ⟨508, [9, 5, 6, 0, 10], [(.ret, [2, 3, 4]), (.exit 1, [10, 5])], ⟨[.adr 1 [], .int .i64, .int .i64, .adr 0 [], .sl 2], [.var 345 (.agg [.str, .int .i64, .int .i64]), .var 397 (.agg [.arr (.int .i64) 16, .sl 3, .int .i64]), .row (.int .i64) 3, .row (.int .i64) 3]⟩, [(.ret, ⟨[.sl 1, .sl 2, .int .i64], [.var 345 (.agg [.str, .int .i64, .int .i64]), .row (.int .i64) 3, .row (.int .i64) 3]⟩), (.exit 1, ⟨[.sl 1, .int .i64], [.var 345 (.agg [.str, .int .i64, .int .i64]), .row (.int .i64) 3]⟩)]⟩
abbrev P347_508b : Type := Int × Int × ByteArray × Int × Int × (List Int) × Int × (List Int) × (List Int)
abbrev R347_508b : Type := ((Int × ByteArray × Int × Int × (List Int) × (List Int)) ⊕ (Int × ByteArray × Int × Int × (List Int)))
noncomputable def B347_508b (N : Nat) (f : P347_508b → Option R347_508b) : P347_508b → Option R347_508b
  | (x0, x1, x2, x3, x4, x5, x6, x7, x8) =>
  iteP (decide ((↑(List.length x7) : Int) < IntKind.wrap IntKind.i64 (x0 + x1))) (
    Option.bind (F366a N (x5, x6, x2, x3, x4, x8)) fun (y0_0, y0_1, y0_2, y0_3, y0_4, y0_5, y0_6, y0_7) =>
    iteP (y0_1 != (0 : Int)) (
      Option.bind (F349 N y0_1) fun y1 =>
      some (.inl ((y1, y0_4, y0_5, y0_6, [], [])))) (
      Option.bind (F367 N (y0_0, x7, y0_4, y0_5, y0_6)) fun (y2_0, y2_1, y2_2, y2_3, y2_4, y2_5) =>
      iteP (y2_2 != (0 : Int)) (
        some (.inl ((y2_2, y2_3, y2_4, y2_5, [], [])))) (
        iteP (decide (IntKind.wrap IntKind.i64 ((↑(List.length x7) : Int) + y2_1) > IntKind.wrap IntKind.i64 (x0 + x1))) (
          some (.inl (((80 : Int), y2_3, y2_4, y2_5, [], [])))) (
          Option.bind (F347_260286 N N ((0 : Int), y2_1, x1, x0, y2_0, y2_3, y2_4, y2_5, x7, y0_2, y0_3, y0_7)) fun (y3_0, y3_1, y3_2, y3_3, y3_4, y3_5, y3_6, y3_7, y3_8) =>
          Option.bind (f (y3_0, y3_1, y3_2, y3_3, y3_4, y3_5, y3_6, y3_7, y3_8)) fun r => match r with | .inl y => some (.inl y) | .inr y => some (.inr y))))) (
    some (.inr ((x0, x2, x3, x4, x7))))
noncomputable def F347_508b (N : Nat) : Nat → P347_508b → Option R347_508b
  | 0, _ => none
  | k + 1, x => B347_508b N (F347_508b N k) x
noncomputable def C347_508b (N : Nat) (k : Nat) : Cut := L347_508b.cut (F347_508b N k)
theorem C347_508b_ok (N : Nat) (k : Nat) : CutAt Tryz.prog false Tryz.f347 [0] 508 (C347_508b N k) :=
  L347_508b.loopT ownT mix (tab347_ok N) Tryz.f347 [0] (cuts := [(508, C347_508 N N), (260286, C347_260286 N N)]) ⟨C347_508_ok N N, C347_260286_ok N N, trivial⟩ (by decide +kernel) (by kernel_rfl) (B347_508b N) (F347_508b N) (fun _ => rfl) (fun _ _ => rfl) (fun f x => by kernel_rfl) k
@[reducible] def w347 : List SP := [⟨[.tup [.sl 1, .sl 2, .int .i64]], [.var 345 (.agg [.str, .int .i64, .int .i64]), .row (.int .i64) 3, .row (.int .i64) 3]⟩, ⟨[.tup [.slp 1 (.c 0) .h, .slp 1 .h .h, .int .i64]], [.var 345 (.agg [.str, .int .i64, .int .i64]), .row (.int .i64) 3]⟩]
noncomputable def F347 (N : Nat) : (ByteArray × Int × Int) → Option (((Int × ByteArray × Int × Int × (List Int) × (List Int)) ⊕ (Nat × Nat × Nat × Int × ByteArray × Int × Int × (List Int))))
  | (x0, x1, x2) =>
  Option.bind (F329 N ((5 : Int), x0, x1, x2)) fun y0 =>
  Option.bind (F329 N ((5 : Int), y0.2.1, y0.2.2.1, y0.2.2.2)) fun y1 =>
  Option.bind (F329 N ((4 : Int), y1.2.1, y1.2.2.1, y1.2.2.2)) fun y2 =>
  Option.bind (F330 N (y2.2.1, y2.2.2.1, y2.2.2.2, ())) fun y3 =>
  iteP (y3 != (0 : Int)) (
    some (.inl ((y3, y2.2.1, y2.2.2.1, y2.2.2.2, [], [])))) (
    iteP (decide (IntKind.wrap IntKind.i64 (y0.1 + (257 : Int)) > (286 : Int))) (
      some (.inl (((80 : Int), y2.2.1, y2.2.2.1, y2.2.2.2, [], [])))) (
      iteP (decide (IntKind.wrap IntKind.i64 (y1.1 + (1 : Int)) > (30 : Int))) (
        some (.inl (((80 : Int), y2.2.1, y2.2.2.1, y2.2.2.2, [], [])))) (
        Option.bind (F365 N (IntKind.wrap IntKind.i64 (y2.1 + (4 : Int)), y2.2.1, y2.2.2.1, y2.2.2.2)) fun y4 =>
        match y4 with
        | .inl y5 =>
          iteP (y5.1 != (0 : Int)) (
            some (.inl ((y5.1, y5.2.1, y5.2.2.1, y5.2.2.2, [], [])))) (
            Option.bind (F347_508 N N (IntKind.wrap IntKind.i64 (y0.1 + (257 : Int)), IntKind.wrap IntKind.i64 (y1.1 + (1 : Int)), y5.2.1, y5.2.2.1, y5.2.2.2, [])) fun y6 =>
            iteP (decide ((0 : Int) ≤ y6.1 ∧ y6.1 ≤ y6.1 ∧ y6.1 ≤ (↑(List.length y6.2.2.2.2) : Int))) (
              iteP (decide ((0 : Int) ≤ y6.1 ∧ y6.1 ≤ (↑(List.length y6.2.2.2.2) : Int))) (
                some (.inr ((Int.toNat y6.1, Int.toNat y6.1, List.length y6.2.2.2.2 - Int.toNat y6.1, (0 : Int), y6.2.1, y6.2.2.1, y6.2.2.2.1, y6.2.2.2.2)))) (
                none )) (
              none ))
        | .inr (y5_0, y5_1, y5_2, y5_3, y5_4, y5_5, y5_6) =>
          iteP (y5_0 != (0 : Int)) (
            some (.inl ((y5_0, y5_1, y5_2, y5_3, [], [])))) (
            Option.bind (F347_508b N N (IntKind.wrap IntKind.i64 (y0.1 + (257 : Int)), IntKind.wrap IntKind.i64 (y1.1 + (1 : Int)), y5_1, y5_2, y5_3, y5_4, y5_5, [], y5_6)) fun y7 =>
            match y7 with
            | .inl (y8_0, y8_1, y8_2, y8_3, y8_4, y8_5) =>
              some (.inl ((y8_0, y8_1, y8_2, y8_3, y8_4, y8_5)))
            | .inr y8 =>
              iteP (decide ((0 : Int) ≤ y8.1 ∧ y8.1 ≤ y8.1 ∧ y8.1 ≤ (↑(List.length y8.2.2.2.2) : Int))) (
                iteP (decide ((0 : Int) ≤ y8.1 ∧ y8.1 ≤ (↑(List.length y8.2.2.2.2) : Int))) (
                  some (.inr ((Int.toNat y8.1, Int.toNat y8.1, List.length y8.2.2.2.2 - Int.toNat y8.1, (0 : Int), y8.2.1, y8.2.2.1, y8.2.2.2.1, y8.2.2.2.2)))) (
                  none )) (
                none )))))
noncomputable def T347 (N : Nat) : Pk → Tr Pk := tellS s347 w347 (F347 N)
theorem T347_ok (N : Nat) : FOK Tryz.prog (347) (T347 N) :=
  (fn_ok2 ownT mix (tab347_ok N) Tryz.func347 s347 w347 [0] (cuts := [(508, orC L347_508.s.I (C347_508 N N) (C347_508b N N)), (260286, C347_260286 N N)]) ⟨fun c' h => orC_ok (C347_508_ok N N c' h) (C347_508b_ok N N c' h) rfl rfl, C347_260286_ok N N, trivial⟩ (fun _ => by kernel_rfl) (by decide +kernel) (F347 N) (fun x => by kernel_rfl))
@[reducible] def s381 : SP := ⟨[.adr 0 [], .int .i64, .fn 373], [.var 345 (.agg [.str, .int .i64, .int .i64])]⟩
noncomputable def tab381 (N : Nat) : List (Nat × (Pk → Tr Pk)) := [(373, T373 N), (329, T329 N), (330, T330 N)]
theorem tab381_ok (N : Nat) : TabOK Tryz.prog (tab381 N) := ⟨T373_ok N, T329_ok N, T330_ok N, trivial⟩
@[reducible] def w381 : List SP := [⟨[.tup [.int .i64, .int .i64]], [.var 345 (.agg [.str, .int .i64, .int .i64])]⟩]
noncomputable def F381 (N : Nat) : (Int × ByteArray × Int × Int) → Option (Int × Int × ByteArray × Int × Int)
  | (x0, x1, x2, x3) =>
  Option.bind (F373 N x0) fun y0 =>
  Option.bind (F329 N (y0.2, x1, x2, x3)) fun y1 =>
  Option.bind (F330 N (y1.2.1, y1.2.2.1, y1.2.2.2, ())) fun y2 =>
  some ((IntKind.wrap IntKind.i64 (y0.1 + y1.1), y2, y1.2.1, y1.2.2.1, y1.2.2.2))
noncomputable def T381 (N : Nat) : Pk → Tr Pk := tellS s381 w381 (F381 N)
theorem T381_ok (N : Nat) : FOK Tryz.prog (381) (T381 N) :=
  (fn_ok2 ownT mix (tab381_ok N) Tryz.func381 s381 w381 [0] (cuts := []) trivial (fun _ => by kernel_rfl) (by decide +kernel) (F381 N) (fun x => by kernel_rfl))
@[reducible] def s369 : SP := ⟨[.adr 0 [], .int .i64, .nilp], [.var 345 (.agg [.str, .int .i64, .int .i64])]⟩
noncomputable def tab369 (N : Nat) : List (Nat × (Pk → Tr Pk)) := [(381, T381 N), (366, T366 N)]
theorem tab369_ok (N : Nat) : TabOK Tryz.prog (tab369 N) := ⟨T381_ok N, T366_ok N, trivial⟩
@[reducible] def w369 : List SP := [⟨[.tup [.agg [.int .i64, .int .i64, .int .i64], .int .i64]], [.var 345 (.agg [.str, .int .i64, .int .i64])]⟩]
noncomputable def F369 (N : Nat) : (Int × ByteArray × Int × Int) → Option (Int × Int × Int × Int × ByteArray × Int × Int)
  | (x0, x1, x2, x3) =>
  iteP (decide (x0 > (285 : Int))) (
    some (((0 : Int), (0 : Int), (0 : Int), (3 : Int), x1, x2, x3))) (
    Option.bind (F381 N (x0, x1, x2, x3)) fun y0 =>
    iteP (y0.2.1 != (0 : Int)) (
      some (((0 : Int), (0 : Int), (0 : Int), y0.2.1, y0.2.2.1, y0.2.2.2.1, y0.2.2.2.2))) (
      Option.bind (F366 N (y0.2.2.1, y0.2.2.2.1, y0.2.2.2.2)) fun y1 =>
      none))
noncomputable def T369 (N : Nat) : Pk → Tr Pk := tellS s369 w369 (F369 N)
theorem T369_ok (N : Nat) : FOK Tryz.prog (369) (T369 N) :=
  (fn_ok2 ownT mix (tab369_ok N) Tryz.func369 s369 w369 [0] (cuts := []) trivial (fun _ => by kernel_rfl) (by decide +kernel) (F369 N) (fun x => by kernel_rfl))
@[reducible] def s381a : SP := ⟨[.adr 0 [], .int .i64, .fn 374], [.var 345 (.agg [.str, .int .i64, .int .i64])]⟩
noncomputable def tab381a (N : Nat) : List (Nat × (Pk → Tr Pk)) := [(374, T374 N), (329, T329 N), (330, T330 N)]
theorem tab381a_ok (N : Nat) : TabOK Tryz.prog (tab381a N) := ⟨T374_ok N, T329_ok N, T330_ok N, trivial⟩
@[reducible] def w381a : List SP := [⟨[.tup [.int .i64, .int .i64]], [.var 345 (.agg [.str, .int .i64, .int .i64])]⟩]
noncomputable def F381a (N : Nat) : (Int × ByteArray × Int × Int) → Option (Int × Int × ByteArray × Int × Int)
  | (x0, x1, x2, x3) =>
  Option.bind (F374 N x0) fun y0 =>
  Option.bind (F329 N (y0.2, x1, x2, x3)) fun y1 =>
  Option.bind (F330 N (y1.2.1, y1.2.2.1, y1.2.2.2, ())) fun y2 =>
  some ((IntKind.wrap IntKind.i64 (y0.1 + y1.1), y2, y1.2.1, y1.2.2.1, y1.2.2.2))
noncomputable def T381a (N : Nat) : Pk → Tr Pk := tellS s381a w381a (F381a N)
theorem T381a_ok (N : Nat) : FOK Tryz.prog (381) (T381a N) :=
  (fn_ok2 ownT mix (tab381a_ok N) Tryz.func381 s381a w381a [0] (cuts := []) trivial (fun _ => by kernel_rfl) (by decide +kernel) (F381a N) (fun x => by kernel_rfl))
@[reducible] def s369a : SP := ⟨[.adr 0 [], .int .i64, .adr 1 []], [.var 345 (.agg [.str, .int .i64, .int .i64]), .var 397 (.agg [.arr (.int .i64) 16, .sl 2, .int .i64]), .row (.int .i64) 3]⟩
noncomputable def tab369a (N : Nat) : List (Nat × (Pk → Tr Pk)) := [(381, orT s381.I (T381 N) (T381a N)), (366, T366a N)]
theorem tab369a_ok (N : Nat) : TabOK Tryz.prog (tab369a N) := ⟨orT_ok (T381_ok N) (T381a_ok N), T366a_ok N, trivial⟩
@[reducible] def w369a : List SP := [⟨[.tup [.agg [.int .i64, .int .i64, .int .i64], .int .i64]], [.var 345 (.agg [.str, .int .i64, .int .i64]), .var 397 (.agg [.arr (.int .i64) 16, .sl 2, .int .i64]), .row (.int .i64) 3]⟩]
noncomputable def F369a (N : Nat) : (Int × ByteArray × Int × Int × (List Int) × Int × (List Int)) → Option (Int × Int × Int × Int × ByteArray × Int × Int × (List Int) × Int × (List Int))
  | (x0, x1, x2, x3, x4, x5, x6) =>
  iteP (decide (x0 > (285 : Int))) (
    some (((0 : Int), (0 : Int), (0 : Int), (3 : Int), x1, x2, x3, x4, x5, x6))) (
    Option.bind (F381 N (x0, x1, x2, x3)) fun y0 =>
    iteP (y0.2.1 != (0 : Int)) (
      some (((0 : Int), (0 : Int), (0 : Int), y0.2.1, y0.2.2.1, y0.2.2.2.1, y0.2.2.2.2, x4, x5, x6))) (
      Option.bind (F366a N (x4, x5, y0.2.2.1, y0.2.2.2.1, y0.2.2.2.2, x6)) fun (y1_0, y1_1, y1_2, y1_3, y1_4, y1_5, y1_6, y1_7) =>
      iteP (y1_1 != (0 : Int)) (
        some (((0 : Int), (0 : Int), (0 : Int), y1_1, y1_4, y1_5, y1_6, y1_2, y1_3, y1_7))) (
        iteP (decide (y1_0 ≥ (30 : Int))) (
          some (((0 : Int), (0 : Int), (0 : Int), (3 : Int), y1_4, y1_5, y1_6, y1_2, y1_3, y1_7))) (
          Option.bind (F381a N (y1_0, y1_4, y1_5, y1_6)) fun y2 =>
          some (((0 : Int), y0.1, y2.1, y2.2.1, y2.2.2.1, y2.2.2.2.1, y2.2.2.2.2, y1_2, y1_3, y1_7))))))
noncomputable def T369a (N : Nat) : Pk → Tr Pk := tellS s369a w369a (F369a N)
theorem T369a_ok (N : Nat) : FOK Tryz.prog (369) (T369a N) :=
  (fn_ok2 ownT mix (tab369a_ok N) Tryz.func369 s369a w369a [0, 1] (cuts := []) trivial (fun _ => by kernel_rfl) (by decide +kernel) (F369a N) (fun x => by kernel_rfl))
@[reducible] def s348 : SP := ⟨[.adr 0 [], .ro (.int .i64), .ro (.int .i64), .int .i64], [.var 345 (.agg [.str, .int .i64, .int .i64])]⟩
noncomputable def tab348 (N : Nat) : List (Nat × (Pk → Tr Pk)) := [(368, T368 N), (366, orT s366.I (T366 N) (T366a N)), (369, orT s369.I (T369 N) (T369a N))]
theorem tab348_ok (N : Nat) : TabOK Tryz.prog (tab348 N) := ⟨T368_ok N, orT_ok (T366_ok N) (T366a_ok N), orT_ok (T369_ok N) (T369a_ok N), trivial⟩
@[reducible] def L348_254 : LD := ⟨254, [14, 10, 0, 12, 3, 15], [(.ret, [8, 9]), (.exit 0, [8, 9])], ⟨[.sl 1, .nilp, .adr 0 [], .nilp, .int .i64, .int .i64], [.var 345 (.agg [.str, .int .i64, .int .i64]), .row y0 281]⟩, []⟩
abbrev P348_254 : Type := Int × Int × ByteArray × Int × Int × (List (Int × (Int × (Int × Unit))))
abbrev R348_254 : Type := Unit
noncomputable def B348_254 (N : Nat) (f : P348_254 → Option R348_254) : P348_254 → Option R348_254
  | (x0, x1, x2, x3, x4, x5) =>
  Option.bind (F366 N (x2, x3, x4)) fun y0 =>
  none
noncomputable def F348_254 (N : Nat) : Nat → P348_254 → Option R348_254
  | 0, _ => none
  | k + 1, x => B348_254 N (F348_254 N k) x
noncomputable def C348_254 (N : Nat) (k : Nat) : Cut := L348_254.cut (F348_254 N k)
theorem C348_254_ok (N : Nat) (k : Nat) : CutAt Tryz.prog false Tryz.f348 [0] 254 (C348_254 N k) :=
  L348_254.loopT ownT mix (tab348_ok N) Tryz.f348 [0] (cuts := []) trivial (by decide +kernel) (by kernel_rfl) (B348_254 N) (F348_254 N) (fun _ => rfl) (fun _ _ => rfl) (fun f x => by kernel_rfl) k
@[reducible] def L348_254b : LD := ⟨254, [14, 10, 0, 12, 3, 15], [(.ret, [8, 9]), (.exit 0, [8, 9])], ⟨[.sl 1, .nilp, .adr 0 [], .adr 2 [], .int .i64, .int .i64], [.var 345 (.agg [.str, .int .i64, .int .i64]), .row y0 281, .var 397 (.agg [.arr (.int .i64) 16, .sl 3, .int .i64]), .row (.int .i64) 3]⟩, []⟩
abbrev P348_254b : Type := Int × Int × ByteArray × Int × Int × (List (Int × (Int × (Int × Unit)))) × (List Int) × Int × (List Int)
abbrev R348_254b : Type := Unit
noncomputable def B348_254b (N : Nat) (f : P348_254b → Option R348_254b) : P348_254b → Option R348_254b
  | (x0, x1, x2, x3, x4, x5, x6, x7, x8) =>
  Option.bind (F366 N (x2, x3, x4)) fun y0 =>
  none
noncomputable def F348_254b (N : Nat) : Nat → P348_254b → Option R348_254b
  | 0, _ => none
  | k + 1, x => B348_254b N (F348_254b N k) x
noncomputable def C348_254b (N : Nat) (k : Nat) : Cut := L348_254b.cut (F348_254b N k)
theorem C348_254b_ok (N : Nat) (k : Nat) : CutAt Tryz.prog false Tryz.f348 [0] 254 (C348_254b N k) :=
  L348_254b.loopT ownT mix (tab348_ok N) Tryz.f348 [0] (cuts := [(254, C348_254 N N)]) ⟨C348_254_ok N N, trivial⟩ (by decide +kernel) (by kernel_rfl) (B348_254b N) (F348_254b N) (fun _ => rfl) (fun _ _ => rfl) (fun f x => by kernel_rfl) k
@[reducible] def L348_254c : LD := ⟨254, [14, 10, 0, 12, 3, 15], [(.ret, [8, 9]), (.exit 0, [8, 9])], ⟨[.sl 1, .adr 2 [], .adr 0 [], .nilp, .int .i64, .int .i64], [.var 345 (.agg [.str, .int .i64, .int .i64]), .row y0 281, .var 397 (.agg [.arr (.int .i64) 16, .sl 3, .int .i64]), .row (.int .i64) 3]⟩, [(.ret, ⟨[.sl 1, .int .i64], [.var 345 (.agg [.str, .int .i64, .int .i64]), .row y0 281]⟩)]⟩
abbrev P348_254c : Type := Int × Int × ByteArray × Int × Int × (List (Int × (Int × (Int × Unit)))) × (List Int) × Int × (List Int)
abbrev R348_254c : Type := Int × ByteArray × Int × Int × (List (Int × (Int × (Int × Unit))))
noncomputable def B348_254c (N : Nat) (f : P348_254c → Option R348_254c) : P348_254c → Option R348_254c
  | (x0, x1, x2, x3, x4, x5, x6, x7, x8) =>
  Option.bind (F366a N (x6, x7, x2, x3, x4, x8)) fun (y0_0, y0_1, y0_2, y0_3, y0_4, y0_5, y0_6, y0_7) =>
  iteP (y0_1 != (0 : Int)) (
    some ((y0_1, y0_4, y0_5, y0_6, []))) (
    iteP (y0_0 == (256 : Int)) (
      some (((0 : Int), y0_4, y0_5, y0_6, x5))) (
      iteP (decide (y0_0 > (256 : Int))) (
        Option.bind (F369 N (y0_0, y0_4, y0_5, y0_6)) fun (y1_0, y1_1, y1_2, y1_3, y1_4, y1_5, y1_6) =>
        iteP (y1_3 != (0 : Int)) (
          some ((y1_3, y1_4, y1_5, y1_6, []))) (
          iteP (decide (IntKind.wrap IntKind.i64 (x1 + if (1 : Int) > y1_1 then (1 : Int) else y1_1) > x0)) (
            some (((4 : Int), y1_4, y1_5, y1_6, []))) (
            iteP (decide ((List.length x5 + List.length [(y1_0, y1_1, y1_2, ())]) * (24 : Nat) ≤ (140737488355328 : Nat) ∧ List.length x5 + List.length [(y1_0, y1_1, y1_2, ())] ≤ (140737488355328 : Nat))) (
              Option.bind (f (x0, IntKind.wrap IntKind.i64 (x1 + if (1 : Int) > y1_1 then (1 : Int) else y1_1), y1_4, y1_5, y1_6, x5 ++ [(y1_0, y1_1, y1_2, ())], y0_2, y0_3, y0_7)) fun r => some r) (
              none )))) (
        iteP (decide (IntKind.wrap IntKind.i64 (x1 + (1 : Int)) > x0)) (
          some (((4 : Int), y0_4, y0_5, y0_6, []))) (
          iteP (decide ((List.length x5 + List.length [(y0_0, (0 : Int), (0 : Int), ())]) * (24 : Nat) ≤ (140737488355328 : Nat) ∧ List.length x5 + List.length [(y0_0, (0 : Int), (0 : Int), ())] ≤ (140737488355328 : Nat))) (
            Option.bind (f (x0, IntKind.wrap IntKind.i64 (x1 + (1 : Int)), y0_4, y0_5, y0_6, x5 ++ [(y0_0, (0 : Int), (0 : Int), ())], y0_2, y0_3, y0_7)) fun r => some r) (
            none )))))
noncomputable def F348_254c (N : Nat) : Nat → P348_254c → Option R348_254c
  | 0, _ => none
  | k + 1, x => B348_254c N (F348_254c N k) x
noncomputable def C348_254c (N : Nat) (k : Nat) : Cut := L348_254c.cut (F348_254c N k)
theorem C348_254c_ok (N : Nat) (k : Nat) : CutAt Tryz.prog false Tryz.f348 [0] 254 (C348_254c N k) :=
  L348_254c.loopT ownT mix (tab348_ok N) Tryz.f348 [0] (cuts := [(254, orC L348_254.s.I (C348_254 N N) (C348_254b N N))]) ⟨fun c' h => orC_ok (C348_254_ok N N c' h) (C348_254b_ok N N c' h) rfl rfl, trivial⟩ (by decide +kernel) (by kernel_rfl) (B348_254c N) (F348_254c N) (fun _ => rfl) (fun _ _ => rfl) (fun f x => by kernel_rfl) k
@[reducible] def L348_254d : LD := ⟨254, [14, 10, 0, 12, 3, 15], [(.ret, [8, 9]), (.exit 0, [8, 9])], ⟨[.sl 1, .adr 2 [], .adr 0 [], .adr 3 [], .int .i64, .int .i64], [.var 345 (.agg [.str, .int .i64, .int .i64]), .row y0 281, .var 397 (.agg [.arr (.int .i64) 16, .sl 4, .int .i64]), .var 397 (.agg [.arr (.int .i64) 16, .sl 5, .int .i64]), .row (.int .i64) 3, .row (.int .i64) 3]⟩, [(.ret, ⟨[.sl 1, .int .i64], [.var 345 (.agg [.str, .int .i64, .int .i64]), .row y0 281]⟩)]⟩
abbrev P348_254d : Type := Int × Int × ByteArray × Int × Int × (List (Int × (Int × (Int × Unit)))) × (List Int) × Int × (List Int) × Int × (List Int) × (List Int)
abbrev R348_254d : Type := Int × ByteArray × Int × Int × (List (Int × (Int × (Int × Unit))))
noncomputable def B348_254d (N : Nat) (f : P348_254d → Option R348_254d) : P348_254d → Option R348_254d
  | (x0, x1, x2, x3, x4, x5, x6, x7, x8, x9, x10, x11) =>
  Option.bind (F366a N (x6, x7, x2, x3, x4, x10)) fun (y0_0, y0_1, y0_2, y0_3, y0_4, y0_5, y0_6, y0_7) =>
  iteP (y0_1 != (0 : Int)) (
    some ((y0_1, y0_4, y0_5, y0_6, []))) (
    iteP (y0_0 == (256 : Int)) (
      some (((0 : Int), y0_4, y0_5, y0_6, x5))) (
      iteP (decide (y0_0 > (256 : Int))) (
        Option.bind (F369a N (y0_0, y0_4, y0_5, y0_6, x8, x9, x11)) fun (y1_0, y1_1, y1_2, y1_3, y1_4, y1_5, y1_6, y1_7, y1_8, y1_9) =>
        iteP (y1_3 != (0 : Int)) (
          some ((y1_3, y1_4, y1_5, y1_6, []))) (
          iteP (decide (IntKind.wrap IntKind.i64 (x1 + if (1 : Int) > y1_1 then (1 : Int) else y1_1) > x0)) (
            some (((4 : Int), y1_4, y1_5, y1_6, []))) (
            iteP (decide ((List.length x5 + List.length [(y1_0, y1_1, y1_2, ())]) * (24 : Nat) ≤ (140737488355328 : Nat) ∧ List.length x5 + List.length [(y1_0, y1_1, y1_2, ())] ≤ (140737488355328 : Nat))) (
              Option.bind (f (x0, IntKind.wrap IntKind.i64 (x1 + if (1 : Int) > y1_1 then (1 : Int) else y1_1), y1_4, y1_5, y1_6, x5 ++ [(y1_0, y1_1, y1_2, ())], y0_2, y0_3, y1_7, y1_8, y0_7, y1_9)) fun r => some r) (
              none )))) (
        iteP (decide (IntKind.wrap IntKind.i64 (x1 + (1 : Int)) > x0)) (
          some (((4 : Int), y0_4, y0_5, y0_6, []))) (
          iteP (decide ((List.length x5 + List.length [(y0_0, (0 : Int), (0 : Int), ())]) * (24 : Nat) ≤ (140737488355328 : Nat) ∧ List.length x5 + List.length [(y0_0, (0 : Int), (0 : Int), ())] ≤ (140737488355328 : Nat))) (
            Option.bind (f (x0, IntKind.wrap IntKind.i64 (x1 + (1 : Int)), y0_4, y0_5, y0_6, x5 ++ [(y0_0, (0 : Int), (0 : Int), ())], y0_2, y0_3, x8, x9, y0_7, x11)) fun r => some r) (
            none )))))
noncomputable def F348_254d (N : Nat) : Nat → P348_254d → Option R348_254d
  | 0, _ => none
  | k + 1, x => B348_254d N (F348_254d N k) x
noncomputable def C348_254d (N : Nat) (k : Nat) : Cut := L348_254d.cut (F348_254d N k)
theorem C348_254d_ok (N : Nat) (k : Nat) : CutAt Tryz.prog false Tryz.f348 [0] 254 (C348_254d N k) :=
  L348_254d.loopT ownT mix (tab348_ok N) Tryz.f348 [0] (cuts := [(254, orC L348_254.s.I (C348_254 N N) (orC L348_254b.s.I (C348_254b N N) (C348_254c N N)))]) ⟨fun c' h => orC_ok (C348_254_ok N N c' h) (orC_ok (C348_254b_ok N N c' h) (C348_254c_ok N N c' h) rfl rfl) rfl rfl, trivial⟩ (by decide +kernel) (by kernel_rfl) (B348_254d N) (F348_254d N) (fun _ => rfl) (fun _ _ => rfl) (fun f x => by kernel_rfl) k
@[reducible] def w348 : List SP := [⟨[.tup [.sl 1, .int .i64]], [.var 345 (.agg [.str, .int .i64, .int .i64]), .row y0 281]⟩]
noncomputable def F348 (N : Nat) : ((List Int) × (List Int) × Int × ByteArray × Int × Int) → Option (Int × ByteArray × Int × Int × (List (Int × (Int × (Int × Unit)))))
  | (x0, x1, x2, x3, x4, x5) =>
  Option.bind (F368 N x0) fun y0 =>
  match y0 with
  | .inl y1 =>
    Option.bind (F368 N x1) fun y2 =>
    match y2 with
    | .inl y3 =>
      iteP (y1 != (0 : Int)) (
        some (((50 : Int), x3, x4, x5, []))) (
        iteP (y3 != (0 : Int)) (
          some (((50 : Int), x3, x4, x5, []))) (
          Option.bind (F348_254 N N (x2, (0 : Int), x3, x4, x5, [])) fun y4 =>
          none))
    | .inr y3 =>
      iteP (y1 != (0 : Int)) (
        some (((50 : Int), x3, x4, x5, []))) (
        iteP (y3.1 != (0 : Int)) (
          some (((50 : Int), x3, x4, x5, []))) (
          Option.bind (F348_254b N N (x2, (0 : Int), x3, x4, x5, [], y3.2.1, y3.2.2.1, y3.2.2.2)) fun y5 =>
          none))
  | .inr y1 =>
    Option.bind (F368 N x1) fun y6 =>
    match y6 with
    | .inl y7 =>
      iteP (y1.1 != (0 : Int)) (
        some (((50 : Int), x3, x4, x5, []))) (
        iteP (y7 != (0 : Int)) (
          some (((50 : Int), x3, x4, x5, []))) (
          Option.bind (F348_254c N N (x2, (0 : Int), x3, x4, x5, [], y1.2.1, y1.2.2.1, y1.2.2.2)) fun y8 =>
          some ((y8.1, y8.2.1, y8.2.2.1, y8.2.2.2.1, y8.2.2.2.2))))
    | .inr y7 =>
      iteP (y1.1 != (0 : Int)) (
        some (((50 : Int), x3, x4, x5, []))) (
        iteP (y7.1 != (0 : Int)) (
          some (((50 : Int), x3, x4, x5, []))) (
          Option.bind (F348_254d N N (x2, (0 : Int), x3, x4, x5, [], y1.2.1, y1.2.2.1, y7.2.1, y7.2.2.1, y1.2.2.2, y7.2.2.2)) fun y9 =>
          some ((y9.1, y9.2.1, y9.2.2.1, y9.2.2.2.1, y9.2.2.2.2))))
noncomputable def T348 (N : Nat) : Pk → Tr Pk := tellS s348 w348 (F348 N)
theorem T348_ok (N : Nat) : FOK Tryz.prog (348) (T348 N) :=
  (fn_ok2 ownT mix (tab348_ok N) Tryz.func348 s348 w348 [0] (cuts := [(254, orC L348_254.s.I (C348_254 N N) (orC L348_254b.s.I (C348_254b N N) (orC L348_254c.s.I (C348_254c N N) (C348_254d N N))))]) ⟨fun c' h => orC_ok (C348_254_ok N N c' h) (orC_ok (C348_254b_ok N N c' h) (orC_ok (C348_254c_ok N N c' h) (C348_254d_ok N N c' h) rfl rfl) rfl rfl) rfl rfl, trivial⟩ (fun _ => by kernel_rfl) (by decide +kernel) (F348 N) (fun x => by kernel_rfl))
@[reducible] def s350 : SP := ⟨[.str, .ro y0], []⟩
noncomputable def tab350 (N : Nat) : List (Nat × (Pk → Tr Pk)) := [(229, T229 N), (335, T335 N)]
theorem tab350_ok (N : Nat) : TabOK Tryz.prog (tab350 N) := ⟨T229_ok N, T335_ok N, trivial⟩
@[reducible] def L350_62670 : LD := ⟨62670, [6, 43, 42, 15, 7, 16, 17, 9], [(.ret, [4, 5]), (.exit 3, [17, 16, 7, 15, 6]), (.exit 1, [17, 16, 7, 15, 6]), (.exit 0, [6, 7])], ⟨[.sl 0, .int .i64, .int .i64, .ro y0, .int .i64, .int .i64, .int .i64, .adr 1 []], [.row (.int .u8) 5, .var 281 (.agg [.int .i64, .int .i64, .int .i64])]⟩, [(.exit 3, ⟨[.int .i64, .int .i64, .int .i64, .ro y0, .sl 0], [.row (.int .u8) 5]⟩)]⟩
abbrev P350_62670 : Type := Int × Int × (List (Int × (Int × (Int × Unit)))) × Int × Int × Int × (List Int) × Int × Int × Int
abbrev R350_62670 : Type := Int × Int × Int × (List (Int × (Int × (Int × Unit)))) × (List Int)
noncomputable def B350_62670 (N : Nat) (f : P350_62670 → Option R350_62670) : P350_62670 → Option R350_62670
  | (x0, x1, x2, x3, x4, x5, x6, x7, x8, x9) =>
  iteP (decide (x0 < x1)) (
    iteP (within (IntKind.wrap IntKind.i64 ((↑(List.length x6) : Int) - x9)) (List.length x6)) (
      Option.bind (x6[Int.toNat (IntKind.wrap IntKind.i64 ((↑(List.length x6) : Int) - x9))]?) fun y0 =>
      iteP (decide ((List.length x6 + List.length [y0]) * (1 : Nat) ≤ (140737488355328 : Nat) ∧ List.length x6 + List.length [y0] ≤ (140737488355328 : Nat))) (
        Option.bind (f (IntKind.wrap IntKind.i64 (x0 + (1 : Int)), x1, x2, x3, x4, x5, x6 ++ [y0], x7, x8, x9)) fun r => some r) (
        none )) (
      none )) (
    some ((x5, x4, x3, x2, x6)))
noncomputable def F350_62670 (N : Nat) : Nat → P350_62670 → Option R350_62670
  | 0, _ => none
  | k + 1, x => B350_62670 N (F350_62670 N k) x
noncomputable def C350_62670 (N : Nat) (k : Nat) : Cut := L350_62670.cut (F350_62670 N k)
theorem C350_62670_ok (N : Nat) (k : Nat) : CutAt Tryz.prog false Tryz.f350 [] 62670 (C350_62670 N k) :=
  L350_62670.loopT ownT mix (tab350_ok N) Tryz.f350 [] (cuts := []) trivial (by decide +kernel) (by kernel_rfl) (B350_62670 N) (F350_62670 N) (fun _ => rfl) (fun _ _ => rfl) (fun f x => by kernel_rfl) k
@[reducible] def L350_122 : LD := ⟨122, [17, 16, 7, 15, 6], [(.ret, [4, 5]), (.exit 0, [6, 7])], ⟨[.int .i64, .int .i64, .int .i64, .ro y0, .sl 0], [.row (.int .u8) 5]⟩, [(.ret, ⟨[.str, .int .i64], []⟩), (.exit 0, ⟨[.sl 0, .int .i64], [.row (.int .u8) 5]⟩)]⟩
abbrev P350_122 : Type := Int × Int × Int × (List (Int × (Int × (Int × Unit)))) × (List Int)
abbrev R350_122 : Type := ((ByteArray × Int) ⊕ (Int × (List Int)))
noncomputable def B350_122 (N : Nat) (f : P350_122 → Option R350_122) : P350_122 → Option R350_122
  | (x0, x1, x2, x3, x4) =>
  iteP (decide (x0 < x1)) (
    iteP (within x0 (List.length x3)) (
      Option.bind (x3[Int.toNat x0]?) fun y0 =>
      Option.bind (F335 N (y0.1, y0.2.1, y0.2.2.1)) fun y1 =>
      iteP (!y1) (
        some (.inl ((ByteArray.mk #[], (1 : Int))))) (
        iteP (y0.2.1 == (0 : Int)) (
          iteP (decide ((List.length x4 + List.length [IntKind.wrap IntKind.u8 y0.1]) * (1 : Nat) ≤ (140737488355328 : Nat) ∧ List.length x4 + List.length [IntKind.wrap IntKind.u8 y0.1] ≤ (140737488355328 : Nat))) (
            Option.bind (F350_62670 N N ((0 : Int), y0.2.1, x3, x2, x1, x0, x4 ++ [IntKind.wrap IntKind.u8 y0.1], y0.1, y0.2.1, y0.2.2.1)) fun y2 =>
            Option.bind (f (IntKind.wrap IntKind.i64 (y2.1 + (1 : Int)), y2.2.1, y2.2.2.1, y2.2.2.2.1, y2.2.2.2.2)) fun r => match r with | .inl y => some (.inl y) | .inr y => some (.inr y)) (
            none )) (
          iteP (decide (y0.2.2.1 > (↑(List.length x4) : Int))) (
            some (.inl ((ByteArray.mk #[], (60 : Int))))) (
            Option.bind (F350_62670 N N ((0 : Int), y0.2.1, x3, x2, x1, x0, x4, y0.1, y0.2.1, y0.2.2.1)) fun y3 =>
            Option.bind (f (IntKind.wrap IntKind.i64 (y3.1 + (1 : Int)), y3.2.1, y3.2.2.1, y3.2.2.2.1, y3.2.2.2.2)) fun r => match r with | .inl y => some (.inl y) | .inr y => some (.inr y))))) (
      none )) (
    some (.inr ((x2, x4))))
noncomputable def F350_122 (N : Nat) : Nat → P350_122 → Option R350_122
  | 0, _ => none
  | k + 1, x => B350_122 N (F350_122 N k) x
noncomputable def C350_122 (N : Nat) (k : Nat) : Cut := L350_122.cut (F350_122 N k)
theorem C350_122_ok (N : Nat) (k : Nat) : CutAt Tryz.prog false Tryz.f350 [] 122 (C350_122 N k) :=
  L350_122.loopT ownT mix (tab350_ok N) Tryz.f350 [] (cuts := [(62670, C350_62670 N N)]) ⟨C350_62670_ok N N, trivial⟩ (by decide +kernel) (by kernel_rfl) (B350_122 N) (F350_122 N) (fun _ => rfl) (fun _ _ => rfl) (fun f x => by kernel_rfl) k
@[reducible] def w350 : List SP := [⟨[.tup [.str, .int .i64]], []⟩]
noncomputable def F350 (N : Nat) : (ByteArray × (List (Int × (Int × (Int × Unit))))) → Option (ByteArray × Int)
  | (x0, x1) =>
  Option.bind (F229 N x0) fun y0 =>
  iteP (decide (ByteArray.size y0 ≤ (140737488355328 : Nat))) (
    Option.bind (F350_122 N N ((0 : Int), (↑(List.length x1) : Int), (↑(List.length (bytesOf y0)) : Int), x1, bytesOf y0)) fun y1 =>
    match y1 with
    | .inl y2 =>
      some ((y2.1, y2.2))
    | .inr y2 =>
      iteP (decide ((0 : Int) ≤ y2.1 ∧ y2.1 ≤ (↑(List.length y2.2) : Int))) (
        some ((stringOf (List.take (List.length y2.2 - Int.toNat y2.1) (List.drop (Int.toNat y2.1) y2.2)), (0 : Int)))) (
        none )) (
    none )
noncomputable def T350 (N : Nat) : Pk → Tr Pk := tellS s350 w350 (F350 N)
theorem T350_ok (N : Nat) : FOK Tryz.prog (350) (T350 N) :=
  (fn_ok2 ownT mix (tab350_ok N) Tryz.func350 s350 w350 [] (cuts := [(62670, C350_62670 N N), (122, C350_122 N N)]) ⟨C350_62670_ok N N, C350_122_ok N N, trivial⟩ (fun _ => by kernel_rfl) (by decide +kernel) (F350 N) (fun x => by kernel_rfl))
@[reducible] def s332 : SP := ⟨[.adr 0 [], .int .i64, .str, .int .i64], [.var 345 (.agg [.str, .int .i64, .int .i64])]⟩
noncomputable def tab332 (N : Nat) : List (Nat × (Pk → Tr Pk)) := [(336, T336 N), (347, T347 N), (348, T348 N), (349, T349 N), (350, T350 N)]
theorem tab332_ok (N : Nat) : TabOK Tryz.prog (tab332 N) := ⟨T336_ok N, T347_ok N, T348_ok N, T349_ok N, T350_ok N, trivial⟩
@[reducible] def w332 : List SP := [⟨[.tup [.str, .int .i64]], [.var 345 (.agg [.str, .int .i64, .int .i64])]⟩]
noncomputable def F332 (N : Nat) : (Int × ByteArray × Int × ByteArray × Int × Int) → Option (ByteArray × Int × ByteArray × Int × Int)
  | (x0, x1, x2, x3, x4, x5) =>
  Option.bind (F336 N ()) fun y0 =>
  iteP (x0 == (2 : Int)) (
    Option.bind (F347 N (x3, x4, x5)) fun y1 =>
    match y1 with
    | .inl (y2_0, y2_1, y2_2, y2_3, y2_4, y2_5) =>
      iteP (y2_0 != (0 : Int)) (
        some ((ByteArray.mk #[], y2_0, y2_1, y2_2, y2_3))) (
        Option.bind (F348 N (y2_4, y2_5, x2, y2_1, y2_2, y2_3)) fun y3 =>
        iteP (y3.1 != (0 : Int)) (
          Option.bind (F349 N y3.1) fun y4 =>
          some ((ByteArray.mk #[], y4, y3.2.1, y3.2.2.1, y3.2.2.2.1))) (
          Option.bind (F350 N (x1, y3.2.2.2.2)) fun y5 =>
          some ((y5.1, y5.2, y3.2.1, y3.2.2.1, y3.2.2.2.1))))
    | .inr (y2_0, y2_1, y2_2, y2_3, y2_4, y2_5, y2_6, y2_7) =>
      iteP (y2_3 != (0 : Int)) (
        some ((ByteArray.mk #[], y2_3, y2_4, y2_5, y2_6))) (
        Option.bind (F348 N (List.take y2_0 y2_7, List.take y2_2 (List.drop y2_1 y2_7), x2, y2_4, y2_5, y2_6)) fun y6 =>
        iteP (y6.1 != (0 : Int)) (
          Option.bind (F349 N y6.1) fun y7 =>
          some ((ByteArray.mk #[], y7, y6.2.1, y6.2.2.1, y6.2.2.2.1))) (
          Option.bind (F350 N (x1, y6.2.2.2.2)) fun y8 =>
          some ((y8.1, y8.2, y6.2.1, y6.2.2.1, y6.2.2.2.1))))) (
    Option.bind (F348 N (y0.1, y0.2, x2, x3, x4, x5)) fun y9 =>
    iteP (y9.1 != (0 : Int)) (
      Option.bind (F349 N y9.1) fun y10 =>
      some ((ByteArray.mk #[], y10, y9.2.1, y9.2.2.1, y9.2.2.2.1))) (
      Option.bind (F350 N (x1, y9.2.2.2.2)) fun y11 =>
      some ((y11.1, y11.2, y9.2.1, y9.2.2.1, y9.2.2.2.1))))
noncomputable def T332 (N : Nat) : Pk → Tr Pk := tellS s332 w332 (F332 N)
theorem T332_ok (N : Nat) : FOK Tryz.prog (332) (T332 N) :=
  (fn_ok2 ownT mix (tab332_ok N) Tryz.func332 s332 w332 [0] (cuts := []) trivial (fun _ => by kernel_rfl) (by decide +kernel) (F332 N) (fun x => by kernel_rfl))
@[reducible] def s306 : SP := ⟨[.adr 0 [], .str, .int .i64], [.var 345 (.agg [.str, .int .i64, .int .i64])]⟩
noncomputable def tab306 (N : Nat) : List (Nat × (Pk → Tr Pk)) := [(329, T329 N), (330, T330 N), (331, T331 N), (332, T332 N)]
theorem tab306_ok (N : Nat) : TabOK Tryz.prog (tab306 N) := ⟨T329_ok N, T330_ok N, T331_ok N, T332_ok N, trivial⟩
@[reducible] def w306 : List SP := [⟨[.tup [.str, .bool, .int .i64, .int .i64]], [.var 345 (.agg [.str, .int .i64, .int .i64])]⟩]
noncomputable def F306 (N : Nat) : (ByteArray × Int × ByteArray × Int × Int) → Option (ByteArray × Bool × Int × Int × ByteArray × Int × Int)
  | (x0, x1, x2, x3, x4) =>
  Option.bind (F329 N ((1 : Int), x2, x3, x4)) fun y0 =>
  Option.bind (F329 N ((2 : Int), y0.2.1, y0.2.2.1, y0.2.2.2)) fun y1 =>
  Option.bind (F330 N (y1.2.1, y1.2.2.1, y1.2.2.2, ())) fun y2 =>
  iteP (y2 != (0 : Int)) (
    some ((ByteArray.mk #[], false, (0 : Int), y2, y1.2.1, y1.2.2.1, y1.2.2.2))) (
    iteP (y1.1 == (0 : Int)) (
      Option.bind (F331 N (x1, y1.2.1, y1.2.2.1, y1.2.2.2)) fun y3 =>
      iteP (y3.2.1 != (0 : Int)) (
        some ((ByteArray.mk #[], false, (0 : Int), y3.2.1, y3.2.2.1, y3.2.2.2.1, y3.2.2.2.2))) (
        some ((y3.1, y0.1 == (1 : Int), y1.1, (0 : Int), y3.2.2.1, y3.2.2.2.1, y3.2.2.2.2)))) (
      iteP (y1.1 == (1 : Int)) (
        Option.bind (F332 N (y1.1, x0, x1, y1.2.1, y1.2.2.1, y1.2.2.2)) fun y4 =>
        iteP (y4.2.1 != (0 : Int)) (
          some ((ByteArray.mk #[], false, (0 : Int), y4.2.1, y4.2.2.1, y4.2.2.2.1, y4.2.2.2.2))) (
          some ((y4.1, y0.1 == (1 : Int), y1.1, (0 : Int), y4.2.2.1, y4.2.2.2.1, y4.2.2.2.2)))) (
        iteP (y1.1 == (2 : Int)) (
          Option.bind (F332 N (y1.1, x0, x1, y1.2.1, y1.2.2.1, y1.2.2.2)) fun y5 =>
          iteP (y5.2.1 != (0 : Int)) (
            some ((ByteArray.mk #[], false, (0 : Int), y5.2.1, y5.2.2.1, y5.2.2.2.1, y5.2.2.2.2))) (
            some ((y5.1, y0.1 == (1 : Int), y1.1, (0 : Int), y5.2.2.1, y5.2.2.2.1, y5.2.2.2.2)))) (
          some ((ByteArray.mk #[], false, (0 : Int), (80 : Int), y1.2.1, y1.2.2.1, y1.2.2.2))))))
noncomputable def T306 (N : Nat) : Pk → Tr Pk := tellS s306 w306 (F306 N)
theorem T306_ok (N : Nat) : FOK Tryz.prog (306) (T306 N) :=
  (fn_ok2 ownT mix (tab306_ok N) Tryz.func306 s306 w306 [0] (cuts := []) trivial (fun _ => by kernel_rfl) (by decide +kernel) (F306 N) (fun x => by kernel_rfl))
@[reducible] def s284 : SP := ⟨[.adr 0 [], .str, .int .i64], [.var 345 (.agg [.str, .int .i64, .int .i64])]⟩
noncomputable def tab284 (N : Nat) : List (Nat × (Pk → Tr Pk)) := [(306, T306 N)]
theorem tab284_ok (N : Nat) : TabOK Tryz.prog (tab284 N) := ⟨T306_ok N, trivial⟩
@[reducible] def w284 : List SP := [⟨[.tup [.str, .bool, .int .i64]], [.var 345 (.agg [.str, .int .i64, .int .i64])]⟩]
noncomputable def F284 (N : Nat) : (ByteArray × Int × ByteArray × Int × Int) → Option (ByteArray × Bool × Int × ByteArray × Int × Int)
  | (x0, x1, x2, x3, x4) =>
  Option.bind (F306 N (x0, x1, x2, x3, x4)) fun (y0_0, y0_1, y0_2, y0_3, y0_4, y0_5, y0_6) =>
  some ((y0_0, y0_1, y0_3, y0_4, y0_5, y0_6))
noncomputable def T284 (N : Nat) : Pk → Tr Pk := tellS s284 w284 (F284 N)
theorem T284_ok (N : Nat) : FOK Tryz.prog (284) (T284 N) :=
  (fn_ok2 ownT mix (tab284_ok N) Tryz.func284 s284 w284 [0] (cuts := []) trivial (fun _ => by kernel_rfl) (by decide +kernel) (F284 N) (fun x => by kernel_rfl))
@[reducible] def s285 : SP := ⟨[.radr y6 [.i 0 3]], []⟩
noncomputable def tab285 (N : Nat) : List (Nat × (Pk → Tr Pk)) := []
theorem tab285_ok (N : Nat) : TabOK Tryz.prog (tab285 N) := trivial
@[reducible] def w285 : List SP := [⟨[.int .i64], []⟩]
noncomputable def F285 (N : Nat) : ((ByteArray × (Int × (Int × Unit)))) → Option (Int)
  | x0 =>
  some x0.2.1
noncomputable def T285 (N : Nat) : Pk → Tr Pk := tellS s285 w285 (F285 N)
theorem T285_ok (N : Nat) : FOK Tryz.prog (285) (T285 N) :=
  (fn_ok2 ownT mix (tab285_ok N) Tryz.func285 s285 w285 [] (cuts := []) trivial (fun _ => by kernel_rfl) (by decide +kernel) (F285 N) (fun x => by kernel_rfl))
@[reducible] def s247 : SP := ⟨[.str, .str, .int .i64], []⟩
noncomputable def tab247 (N : Nat) : List (Nat × (Pk → Tr Pk)) := [(283, T283 N), (229, T229 N), (284, T284 N), (285, T285 N)]
theorem tab247_ok (N : Nat) : TabOK Tryz.prog (tab247 N) := ⟨T283_ok N, T229_ok N, T284_ok N, T285_ok N, trivial⟩
@[reducible] def L247_122 : LD := ⟨122, [11, 9, 0, 2, 10], [(.ret, [6, 7, 8]), (.exit 0, [10, 9])], ⟨[.bool, .adr 0 [], .str, .int .i64, .str], [.var 345 (.agg [.str, .int .i64, .int .i64])]⟩, [(.ret, ⟨[.str, .int .i64, .int .i64], []⟩), (.exit 0, ⟨[.str, .adr 0 []], [.var 345 (.agg [.str, .int .i64, .int .i64])]⟩)]⟩
abbrev P247_122 : Type := Bool × ByteArray × Int × ByteArray × ByteArray × Int × Int
abbrev R247_122 : Type := ((ByteArray × Int × Int) ⊕ (ByteArray × ByteArray × Int × Int))
noncomputable def B247_122 (N : Nat) (f : P247_122 → Option R247_122) : P247_122 → Option R247_122
  | (x0, x1, x2, x3, x4, x5, x6) =>
  iteP (!x0) (
    iteP (decide ((↑(ByteArray.size x1 + ByteArray.size x3) : Int) > (9223372036854775807 : Int))) (
      none ) (
      Option.bind (F229 N (x1 ++ x3)) fun y0 =>
      Option.bind (F284 N (y0, IntKind.wrap IntKind.i64 (x2 - (↑(ByteArray.size x3) : Int)), x4, x5, x6)) fun (y1_0, y1_1, y1_2, y1_3, y1_4, y1_5) =>
      iteP (y1_2 != (0 : Int)) (
        some (.inl ((ByteArray.mk #[], (0 : Int), y1_2)))) (
        iteP (decide ((↑(ByteArray.size x3 + ByteArray.size y1_0) : Int) > (9223372036854775807 : Int))) (
          none ) (
          Option.bind (f (y1_1, x1, x2, x3 ++ y1_0, y1_3, y1_4, y1_5)) fun r => match r with | .inl y => some (.inl y) | .inr y => some (.inr y))))) (
    some (.inr ((x3, x4, x5, x6))))
noncomputable def F247_122 (N : Nat) : Nat → P247_122 → Option R247_122
  | 0, _ => none
  | k + 1, x => B247_122 N (F247_122 N k) x
noncomputable def C247_122 (N : Nat) (k : Nat) : Cut := L247_122.cut (F247_122 N k)
theorem C247_122_ok (N : Nat) (k : Nat) : CutAt Tryz.prog false Tryz.f247 [] 122 (C247_122 N k) :=
  L247_122.loopT ownT mix (tab247_ok N) Tryz.f247 [] (cuts := []) trivial (by decide +kernel) (by kernel_rfl) (B247_122 N) (F247_122 N) (fun _ => rfl) (fun _ _ => rfl) (fun f x => by kernel_rfl) k
@[reducible] def w247 : List SP := [⟨[.tup [.str, .int .i64, .int .i64]], []⟩]
noncomputable def F247 (N : Nat) : (ByteArray × ByteArray × Int) → Option (ByteArray × Int × Int)
  | (x0, x1, x2) =>
  Option.bind (F283 N x1) fun y0 =>
  Option.bind (F247_122 N N (false, x0, x2, ByteArray.mk #[], y0.1, y0.2.1, y0.2.2)) fun y1 =>
  match y1 with
  | .inl y2 =>
    some ((y2.1, y2.2.1, y2.2.2))
  | .inr y2 =>
    Option.bind (F285 N (y2.2.1, y2.2.2.1, y2.2.2.2, ())) fun y3 =>
    some ((y2.1, IntKind.wrap IntKind.i64 (Int.tdiv (IntKind.wrap IntKind.i64 (y3 + (7 : Int))) (8 : Int)), (0 : Int)))
noncomputable def T247 (N : Nat) : Pk → Tr Pk := tellS s247 w247 (F247 N)
theorem T247_ok (N : Nat) : FOK Tryz.prog (247) (T247 N) :=
  (fn_ok2 ownT mix (tab247_ok N) Tryz.func247 s247 w247 [] (cuts := [(122, C247_122 N N)]) ⟨C247_122_ok N N, trivial⟩ (fun _ => by kernel_rfl) (by decide +kernel) (F247 N) (fun x => by kernel_rfl))
@[reducible] def s106 : SP := ⟨[.radr y6 [.i 0 3]], []⟩
noncomputable def tab106 (N : Nat) : List (Nat × (Pk → Tr Pk)) := []
theorem tab106_ok (N : Nat) : TabOK Tryz.prog (tab106 N) := trivial
@[reducible] def w106 : List SP := [⟨[.int .i64], []⟩]
noncomputable def F106 (N : Nat) : ((ByteArray × (Int × (Int × Unit)))) → Option (Int)
  | x0 =>
  some x0.2.1
noncomputable def T106 (N : Nat) : Pk → Tr Pk := tellS s106 w106 (F106 N)
theorem T106_ok (N : Nat) : FOK Tryz.prog (106) (T106 N) :=
  (fn_ok2 ownT mix (tab106_ok N) Tryz.func106 s106 w106 [] (cuts := []) trivial (fun _ => by kernel_rfl) (by decide +kernel) (F106 N) (fun x => by kernel_rfl))
@[reducible] def s183 : SP := ⟨[.str, .int .i64], []⟩
noncomputable def tab183 (N : Nat) : List (Nat × (Pk → Tr Pk)) := [(246, T246 N), (247, T247 N), (81, T81 N), (105, T105 N), (84, T84 N), (123, T123 N), (106, T106 N)]
theorem tab183_ok (N : Nat) : TabOK Tryz.prog (tab183 N) := ⟨T246_ok N, T247_ok N, T81_ok N, T105_ok N, T84_ok N, T123_ok N, T106_ok N, trivial⟩
@[reducible] def w183 : List SP := [⟨[.tup [.str, .int .i64, .int .i64]], []⟩]
noncomputable def F183 (N : Nat) : (ByteArray × Int) → Option (ByteArray × Int × Int)
  | (x0, x1) =>
  Option.bind (F246 N x0) fun y0 =>
  iteP (y0 != (0 : Int)) (
    some ((ByteArray.mk #[], (0 : Int), y0))) (
    iteP (decide ((0 : Int) ≤ (2 : Int) ∧ (2 : Int) ≤ (↑(ByteArray.size x0) : Int))) (
      Option.bind (F247 N (ByteArray.mk #[], ByteArray.extract x0 (2 : Nat) (ByteArray.size x0), x1)) fun y1 =>
      iteP (y1.2.2 != (0 : Int)) (
        some ((ByteArray.mk #[], (0 : Int), y1.2.2))) (
        iteP (decide ((0 : Int) ≤ IntKind.wrap IntKind.i64 ((2 : Int) + y1.2.1) ∧ IntKind.wrap IntKind.i64 ((2 : Int) + y1.2.1) ≤ (↑(ByteArray.size x0) : Int))) (
          Option.bind (F81 N (ByteArray.extract x0 (Int.toNat (IntKind.wrap IntKind.i64 ((2 : Int) + y1.2.1))) (ByteArray.size x0))) fun y2 =>
          Option.bind (F105 N ((4 : Int), y2.1, y2.2.1, y2.2.2)) fun y3 =>
          Option.bind (F84 N (y3.2.1, y3.2.2.1, y3.2.2.2, ())) fun y4 =>
          iteP (y4 != (0 : Int)) (
            Option.bind (F84 N (y3.2.1, y3.2.2.1, y3.2.2.2, ())) fun y5 =>
            some ((ByteArray.mk #[], (0 : Int), y5))) (
            Option.bind (F123 N [y1.1]) fun y6 =>
            iteP (y3.1 != y6) (
              some ((ByteArray.mk #[], (0 : Int), (101 : Int)))) (
              Option.bind (F106 N (y3.2.1, y3.2.2.1, y3.2.2.2, ())) fun y7 =>
              some ((y1.1, IntKind.wrap IntKind.i64 (IntKind.wrap IntKind.i64 ((2 : Int) + y1.2.1) + y7), (0 : Int)))))) (
          none ))) (
      none ))
noncomputable def T183 (N : Nat) : Pk → Tr Pk := tellS s183 w183 (F183 N)
theorem T183_ok (N : Nat) : FOK Tryz.prog (183) (T183 N) :=
  (fn_ok2 ownT mix (tab183_ok N) Tryz.func183 s183 w183 [] (cuts := []) trivial (fun _ => by kernel_rfl) (by decide +kernel) (F183 N) (fun x => by kernel_rfl))
@[reducible] def s112 : SP := ⟨[.radr y7 [.i 0 7]], []⟩
noncomputable def tab112 (N : Nat) : List (Nat × (Pk → Tr Pk)) := [(125, T125 N), (183, T183 N)]
theorem tab112_ok (N : Nat) : TabOK Tryz.prog (tab112 N) := ⟨T125_ok N, T183_ok N, trivial⟩
@[reducible] def w112 : List SP := [⟨[.tup [.str, .int .i64]], []⟩]
noncomputable def F112 (N : Nat) : ((Int × (Int × (Int × ((List Int) × (Bool × (Bool × (ByteArray × Unit)))))))) → Option (ByteArray × Int)
  | x0 =>
  Option.bind (F125 N x0.2.2.1) fun y0 =>
  Option.bind (F183 N (x0.2.2.2.2.2.2.1, IntKind.wrap IntKind.i64 (IntKind.wrap IntKind.i64 ((1 : Int) + IntKind.wrap IntKind.i64 (x0.1 * y0)) * x0.2.1))) fun y1 =>
  iteP (y1.2.2 == (4 : Int)) (
    some ((ByteArray.mk #[], (121 : Int)))) (
    iteP (y1.2.2 != (0 : Int)) (
      some ((ByteArray.mk #[], y1.2.2))) (
      iteP ((↑(ByteArray.size y1.1) : Int) != IntKind.wrap IntKind.i64 (IntKind.wrap IntKind.i64 ((1 : Int) + IntKind.wrap IntKind.i64 (x0.1 * y0)) * x0.2.1)) (
        some ((ByteArray.mk #[], (121 : Int)))) (
        iteP (y1.2.1 != (↑(ByteArray.size x0.2.2.2.2.2.2.1) : Int)) (
          some ((ByteArray.mk #[], (121 : Int)))) (
          some ((y1.1, (0 : Int)))))))
noncomputable def T112 (N : Nat) : Pk → Tr Pk := tellS s112 w112 (F112 N)
theorem T112_ok (N : Nat) : FOK Tryz.prog (112) (T112 N) :=
  (fn_ok2 ownT mix (tab112_ok N) Tryz.func112 s112 w112 [] (cuts := []) trivial (fun _ => by kernel_rfl) (by decide +kernel) (F112 N) (fun x => by kernel_rfl))
@[reducible] def s249 : SP := ⟨[.int .i64, .ro (.int .u8)], []⟩
noncomputable def tab249 (N : Nat) : List (Nat × (Pk → Tr Pk)) := []
theorem tab249_ok (N : Nat) : TabOK Tryz.prog (tab249 N) := trivial
@[reducible] def w249 : List SP := [⟨[.int .i64], []⟩]
noncomputable def F249 (N : Nat) : (Int × (List Int)) → Option (Int)
  | (x0, x1) =>
  iteP (within x0 (List.length x1)) (
    Option.bind (x1[Int.toNat x0]?) fun y0 =>
    some (IntKind.wrap IntKind.i64 y0)) (
    none )
noncomputable def T249 (N : Nat) : Pk → Tr Pk := tellS s249 w249 (F249 N)
theorem T249_ok (N : Nat) : FOK Tryz.prog (249) (T249 N) :=
  (fn_ok2 ownT mix (tab249_ok N) Tryz.func249 s249 w249 [] (cuts := []) trivial (fun _ => by kernel_rfl) (by decide +kernel) (F249 N) (fun x => by kernel_rfl))
@[reducible] def s248 : SP := ⟨[.int .i64, .int .i64], []⟩
noncomputable def tab248 (N : Nat) : List (Nat × (Pk → Tr Pk)) := []
theorem tab248_ok (N : Nat) : TabOK Tryz.prog (tab248 N) := trivial
@[reducible] def w248 : List SP := [⟨[.int .i64], []⟩]
noncomputable def F248 (N : Nat) : (Int × Int) → Option (Int)
  | (x0, x1) =>
  some (IntKind.wrap IntKind.i64 (x0 + x1))
noncomputable def T248 (N : Nat) : Pk → Tr Pk := tellS s248 w248 (F248 N)
theorem T248_ok (N : Nat) : FOK Tryz.prog (248) (T248 N) :=
  (fn_ok2 ownT mix (tab248_ok N) Tryz.func248 s248 w248 [] (cuts := []) trivial (fun _ => by kernel_rfl) (by decide +kernel) (F248 N) (fun x => by kernel_rfl))
@[reducible] def s197a : SP := ⟨[.int .i64, .int .i64, .str, .str, .fn 248, .fn 249], []⟩
noncomputable def tab197a (N : Nat) : List (Nat × (Pk → Tr Pk)) := [(249, T249 N), (254, T254 N), (248, T248 N)]
theorem tab197a_ok (N : Nat) : TabOK Tryz.prog (tab197a N) := ⟨T249_ok N, T254_ok N, T248_ok N, trivial⟩
@[reducible] def L197a_14951 : LD := ⟨14951, [16, 17, 13, 14, 15, 23, 22, 5, 2, 1, 4, 3, 0], [(.ret, [12]), (.exit 1, [23, 13, 22, 5, 2, 1, 4, 3, 0]), (.exit 0, [13]), (.normal, [23, 13, 22, 5, 2, 1, 4, 3, 0])], ⟨[.int .i64, .int .i64, .sl 0, .int .i64, .int .i64, .int .i64, .int .i64, .fn 249, .str, .int .i64, .fn 248, .str, .int .i64], [.row (.int .u8) 5]⟩, [(.normal, ⟨[.int .i64, .sl 0, .int .i64, .fn 249, .str, .int .i64, .fn 248, .str, .int .i64], [.row (.int .u8) 5]⟩)]⟩
noncomputable def F197a_14951 (N : Nat) : (Int × Int × Int × Int × Int × Int × ByteArray × Int × ByteArray × Int × (List Int)) → Option (Int × Int × ByteArray × Int × ByteArray × Int × (List Int))
  | (x0, x1, x2, x3, x4, x5, x6, x7, x8, x9, x10) =>
  iteP (!ByteArray.toList x6 == []) (
    iteP (decide ((0 : Int) ≤ x2)) (
      Option.bind (x6[Int.toNat x2]?) fun y0 =>
      iteP (decide (x2 ≥ x7)) (
        iteP (decide ((0 : Int) ≤ IntKind.wrap IntKind.i64 (x2 - x7))) (
          Option.bind (x6[Int.toNat (IntKind.wrap IntKind.i64 (x2 - x7))]?) fun y1 =>
          iteP (decide ((0 : Int) ≤ x2)) (
            Option.bind (x8[Int.toNat x2]?) fun y2 =>
            Option.bind (F254 N (x9, x3, IntKind.wrap IntKind.i64 (↑(UInt8.toNat y0) : Int), IntKind.wrap IntKind.i64 (↑(UInt8.toNat y1) : Int))) fun y3 =>
            Option.bind (F248 N (IntKind.wrap IntKind.i64 (↑(UInt8.toNat y2) : Int), y3)) fun y4 =>
            iteP (decide ((List.length x10 + List.length [IntKind.wrap IntKind.u8 y4]) * (1 : Nat) ≤ (140737488355328 : Nat) ∧ List.length x10 + List.length [IntKind.wrap IntKind.u8 y4] ≤ (140737488355328 : Nat))) (
              some ((x4, x5, x6, x7, x8, x9, x10 ++ [IntKind.wrap IntKind.u8 y4]))) (
              none )) (
            none )) (
          none )) (
        iteP (decide ((0 : Int) ≤ x2)) (
          Option.bind (x8[Int.toNat x2]?) fun y5 =>
          Option.bind (F254 N (x9, x3, IntKind.wrap IntKind.i64 (↑(UInt8.toNat y0) : Int), x1)) fun y6 =>
          Option.bind (F248 N (IntKind.wrap IntKind.i64 (↑(UInt8.toNat y5) : Int), y6)) fun y7 =>
          iteP (decide ((List.length x10 + List.length [IntKind.wrap IntKind.u8 y7]) * (1 : Nat) ≤ (140737488355328 : Nat) ∧ List.length x10 + List.length [IntKind.wrap IntKind.u8 y7] ≤ (140737488355328 : Nat))) (
            some ((x4, x5, x6, x7, x8, x9, x10 ++ [IntKind.wrap IntKind.u8 y7]))) (
            none )) (
          none ))) (
      none )) (
    iteP (decide ((0 : Int) ≤ x2)) (
      Option.bind (x8[Int.toNat x2]?) fun y8 =>
      Option.bind (F254 N (x9, x3, x0, x1)) fun y9 =>
      Option.bind (F248 N (IntKind.wrap IntKind.i64 (↑(UInt8.toNat y8) : Int), y9)) fun y10 =>
      iteP (decide ((List.length x10 + List.length [IntKind.wrap IntKind.u8 y10]) * (1 : Nat) ≤ (140737488355328 : Nat) ∧ List.length x10 + List.length [IntKind.wrap IntKind.u8 y10] ≤ (140737488355328 : Nat))) (
        some ((x4, x5, x6, x7, x8, x9, x10 ++ [IntKind.wrap IntKind.u8 y10]))) (
        none )) (
      none ))
noncomputable def C197a_14951 (N : Nat) (_ : Nat) : Cut := L197a_14951.cut (F197a_14951 N)
theorem C197a_14951_ok (N : Nat) (k : Nat) : CutAt Tryz.prog false Tryz.f197 [] 14951 (C197a_14951 N k) :=
  L197a_14951.pieceT ownT mix (tab197a_ok N) Tryz.f197 [] (cuts := []) trivial (by decide +kernel) (by kernel_rfl) (F197a_14951 N) (fun x => by kernel_rfl)
@[reducible] def L197a_58 : LD := ⟨58, [13, 23, 22, 5, 2, 1, 4, 3, 0], [(.ret, [12]), (.exit 0, [13])], ⟨[.sl 0, .int .i64, .int .i64, .fn 249, .str, .int .i64, .fn 248, .str, .int .i64], [.row (.int .u8) 5]⟩, [(.exit 0, ⟨[.sl 0], [.row (.int .u8) 5]⟩)]⟩
abbrev P197a_58 : Type := Int × Int × ByteArray × Int × ByteArray × Int × (List Int)
abbrev R197a_58 : Type := (List Int)
noncomputable def B197a_58 (N : Nat) (f : P197a_58 → Option R197a_58) : P197a_58 → Option R197a_58
  | (x0, x1, x2, x3, x4, x5, x6) =>
  iteP (decide (x0 < x1)) (
    iteP (decide (x0 ≥ x3)) (
      Option.bind (F249 N (IntKind.wrap IntKind.i64 (x0 - x3), x6)) fun y0 =>
      Option.bind (F197a_14951 N ((0 : Int), (0 : Int), x0, y0, x0, x1, x2, x3, x4, x5, x6)) fun (y1_0, y1_1, y1_2, y1_3, y1_4, y1_5, y1_6) =>
      Option.bind (f (IntKind.wrap IntKind.i64 (y1_0 + (1 : Int)), y1_1, y1_2, y1_3, y1_4, y1_5, y1_6)) fun r => some r) (
      Option.bind (F197a_14951 N ((0 : Int), (0 : Int), x0, (0 : Int), x0, x1, x2, x3, x4, x5, x6)) fun (y2_0, y2_1, y2_2, y2_3, y2_4, y2_5, y2_6) =>
      Option.bind (f (IntKind.wrap IntKind.i64 (y2_0 + (1 : Int)), y2_1, y2_2, y2_3, y2_4, y2_5, y2_6)) fun r => some r)) (
    some (x6))
noncomputable def F197a_58 (N : Nat) : Nat → P197a_58 → Option R197a_58
  | 0, _ => none
  | k + 1, x => B197a_58 N (F197a_58 N k) x
noncomputable def C197a_58 (N : Nat) (k : Nat) : Cut := L197a_58.cut (F197a_58 N k)
theorem C197a_58_ok (N : Nat) (k : Nat) : CutAt Tryz.prog false Tryz.f197 [] 58 (C197a_58 N k) :=
  L197a_58.loopT ownT mix (tab197a_ok N) Tryz.f197 [] (cuts := [(14951, C197a_14951 N N)]) ⟨C197a_14951_ok N N, trivial⟩ (by decide +kernel) (by kernel_rfl) (B197a_58 N) (F197a_58 N) (fun _ => rfl) (fun _ _ => rfl) (fun f x => by kernel_rfl) k
@[reducible] def w197a : List SP := [⟨[.str], []⟩]
noncomputable def F197a (N : Nat) : (Int × Int × ByteArray × ByteArray) → Option (ByteArray)
  | (x0, x1, x2, x3) =>
  iteP (decide ((0 : Int) ≤ (0 : Int) ∧ (0 : Int) ≤ (↑(ByteArray.size x3) : Int) ∧ (↑(ByteArray.size x3) : Int) * (1 : Int) ≤ (140737488355328 : Int) ∧ (↑(ByteArray.size x3) : Int) ≤ (140737488355328 : Int))) (
    Option.bind (F197a_58 N N ((0 : Int), (↑(ByteArray.size x3) : Int), x2, x1, x3, x0, List.replicate (0 : Nat) (0 : Int))) fun y0 =>
    some (stringOf y0)) (
    none )
noncomputable def T197a (N : Nat) : Pk → Tr Pk := tellS s197a w197a (F197a N)
theorem T197a_ok (N : Nat) : FOK Tryz.prog (197) (T197a N) :=
  (fn_ok2 ownT mix (tab197a_ok N) Tryz.func197 s197a w197a [] (cuts := [(14951, C197a_14951 N N), (58, C197a_58 N N)]) ⟨C197a_14951_ok N N, C197a_58_ok N N, trivial⟩ (fun _ => by kernel_rfl) (by decide +kernel) (F197a N) (fun x => by kernel_rfl))
@[reducible] def s184 : SP := ⟨[.int .i64, .int .i64, .str, .str], []⟩
noncomputable def tab184 (N : Nat) : List (Nat × (Pk → Tr Pk)) := [(195, T195 N), (197, T197a N)]
theorem tab184_ok (N : Nat) : TabOK Tryz.prog (tab184 N) := ⟨T195_ok N, T197a_ok N, trivial⟩
@[reducible] def w184 : List SP := [⟨[.tup [.str, .int .i64]], []⟩]
noncomputable def F184 (N : Nat) : (Int × Int × ByteArray × ByteArray) → Option (ByteArray × Int)
  | (x0, x1, x2, x3) =>
  Option.bind (F195 N (x0, x1, x2, x3)) fun y0 =>
  iteP (!y0) (
    some ((ByteArray.mk #[], (1 : Int)))) (
    Option.bind (F197a N (x0, x1, x2, x3)) fun y1 =>
    some ((y1, (0 : Int))))
noncomputable def T184 (N : Nat) : Pk → Tr Pk := tellS s184 w184 (F184 N)
theorem T184_ok (N : Nat) : FOK Tryz.prog (184) (T184 N) :=
  (fn_ok2 ownT mix (tab184_ok N) Tryz.func184 s184 w184 [] (cuts := []) trivial (fun _ => by kernel_rfl) (by decide +kernel) (F184 N) (fun x => by kernel_rfl))
@[reducible] def s185 : SP := ⟨[.radrl y7 [.i 0 7], .str], []⟩
noncomputable def tab185 (N : Nat) : List (Nat × (Pk → Tr Pk)) := [(125, T125 N)]
theorem tab185_ok (N : Nat) : TabOK Tryz.prog (tab185 N) := ⟨T125_ok N, trivial⟩
@[reducible] def L185_122 : LD := ⟨122, [6, 8, 0, 1, 7], [(.ret, [4, 5]), (.exit 0, [6])], ⟨[.sl 0, .int .i64, .radrl y7 [.i 0 7], .str, .int .i64], [.row (.int .i64) 3]⟩, [(.ret, ⟨[.sl 0, .int .i64], [.row (.int .i64) 3]⟩), (.exit 0, ⟨[.sl 0], [.row (.int .i64) 3]⟩)]⟩
abbrev P185_122 : Type := Int × (List (Int × (Int × (Int × ((List Int) × (Bool × (Bool × (ByteArray × Unit)))))))) × ByteArray × Int × (List Int)
abbrev R185_122 : Type := ((Int × (List Int)) ⊕ ((List Int)))
noncomputable def B185_122 (N : Nat) (f : P185_122 → Option R185_122) : P185_122 → Option R185_122
  | (x0, x1, x2, x3, x4) =>
  iteP (decide (x0 < (↑(ByteArray.size x2) : Int))) (
    Option.bind (x1[(0 : Nat)]?) fun (y0_0, y0_1, y0_2, y0_3, y0_4, y0_5, y0_6, y0_7) =>
    iteP (y0_2 == (2 : Int)) (
      iteP (decide ((0 : Int) ≤ x0)) (
        Option.bind (x2[Int.toNat x0]?) fun y1 =>
        iteP (decide ((0 : Int) ≤ IntKind.wrap IntKind.i64 (x0 + (1 : Int)))) (
          Option.bind (x2[Int.toNat (IntKind.wrap IntKind.i64 (x0 + (1 : Int)))]?) fun y2 =>
          iteP (decide ((0 : Int) ≤ IntKind.wrap IntKind.i64 (x0 + (2 : Int)))) (
            Option.bind (x2[Int.toNat (IntKind.wrap IntKind.i64 (x0 + (2 : Int)))]?) fun y3 =>
            iteP (decide ((List.length x4 + List.length [IntKind.wrap IntKind.i64 (↑(BitVec.toNat (BitVec.ofInt (64 : Nat) (IntKind.wrap IntKind.i64 (↑(BitVec.toNat (BitVec.ofInt (64 : Nat) (IntKind.wrap IntKind.i64 (IntKind.wrap IntKind.i64 (↑(UInt8.toNat y1) : Int) * (65536 : Int))) ||| BitVec.ofInt (64 : Nat) (IntKind.wrap IntKind.i64 (IntKind.wrap IntKind.i64 (↑(UInt8.toNat y2) : Int) * (256 : Int))))) : Int)) ||| BitVec.ofInt (64 : Nat) (IntKind.wrap IntKind.i64 (↑(UInt8.toNat y3) : Int)))) : Int)]) * (8 : Nat) ≤ (140737488355328 : Nat) ∧ List.length x4 + List.length [IntKind.wrap IntKind.i64 (↑(BitVec.toNat (BitVec.ofInt (64 : Nat) (IntKind.wrap IntKind.i64 (↑(BitVec.toNat (BitVec.ofInt (64 : Nat) (IntKind.wrap IntKind.i64 (IntKind.wrap IntKind.i64 (↑(UInt8.toNat y1) : Int) * (65536 : Int))) ||| BitVec.ofInt (64 : Nat) (IntKind.wrap IntKind.i64 (IntKind.wrap IntKind.i64 (↑(UInt8.toNat y2) : Int) * (256 : Int))))) : Int)) ||| BitVec.ofInt (64 : Nat) (IntKind.wrap IntKind.i64 (↑(UInt8.toNat y3) : Int)))) : Int)] ≤ (140737488355328 : Nat))) (
              Option.bind (f (IntKind.wrap IntKind.i64 (x0 + x3), x1, x2, x3, x4 ++ [IntKind.wrap IntKind.i64 (↑(BitVec.toNat (BitVec.ofInt (64 : Nat) (IntKind.wrap IntKind.i64 (↑(BitVec.toNat (BitVec.ofInt (64 : Nat) (IntKind.wrap IntKind.i64 (IntKind.wrap IntKind.i64 (↑(UInt8.toNat y1) : Int) * (65536 : Int))) ||| BitVec.ofInt (64 : Nat) (IntKind.wrap IntKind.i64 (IntKind.wrap IntKind.i64 (↑(UInt8.toNat y2) : Int) * (256 : Int))))) : Int)) ||| BitVec.ofInt (64 : Nat) (IntKind.wrap IntKind.i64 (↑(UInt8.toNat y3) : Int)))) : Int)])) fun r => match r with | .inl y => some (.inl y) | .inr y => some (.inr y)) (
              none )) (
            none )) (
          none )) (
        none )) (
      iteP (decide ((0 : Int) ≤ x0)) (
        Option.bind (x2[Int.toNat x0]?) fun y4 =>
        Option.bind (x1[(0 : Nat)]?) fun (y5_0, y5_1, y5_2, y5_3, y5_4, y5_5, y5_6, y5_7) =>
        iteP (decide (IntKind.wrap IntKind.i64 (↑(UInt8.toNat y4) : Int) ≥ (↑(List.length y5_3) : Int))) (
          some (.inl (((121 : Int), [])))) (
          Option.bind (x1[(0 : Nat)]?) fun (y6_0, y6_1, y6_2, y6_3, y6_4, y6_5, y6_6, y6_7) =>
          iteP (within (IntKind.wrap IntKind.i64 (↑(UInt8.toNat y4) : Int)) (List.length y6_3)) (
            Option.bind (y6_3[Int.toNat (IntKind.wrap IntKind.i64 (↑(UInt8.toNat y4) : Int))]?) fun y7 =>
            iteP (decide ((List.length x4 + List.length [y7]) * (8 : Nat) ≤ (140737488355328 : Nat) ∧ List.length x4 + List.length [y7] ≤ (140737488355328 : Nat))) (
              Option.bind (f (IntKind.wrap IntKind.i64 (x0 + x3), x1, x2, x3, x4 ++ [y7])) fun r => match r with | .inl y => some (.inl y) | .inr y => some (.inr y)) (
              none )) (
            none ))) (
        none ))) (
    some (.inr (x4)))
noncomputable def F185_122 (N : Nat) : Nat → P185_122 → Option R185_122
  | 0, _ => none
  | k + 1, x => B185_122 N (F185_122 N k) x
noncomputable def C185_122 (N : Nat) (k : Nat) : Cut := L185_122.cut (F185_122 N k)
theorem C185_122_ok (N : Nat) (k : Nat) : CutAt Tryz.prog false Tryz.f185 [] 122 (C185_122 N k) :=
  L185_122.loopT ownT mix (tab185_ok N) Tryz.f185 [] (cuts := []) trivial (by decide +kernel) (by kernel_rfl) (B185_122 N) (F185_122 N) (fun _ => rfl) (fun _ _ => rfl) (fun f x => by kernel_rfl) k
@[reducible] def w185 : List SP := [⟨[.tup [.sl 0, .int .i64]], [.row (.int .i64) 3]⟩]
noncomputable def F185 (N : Nat) : ((List (Int × (Int × (Int × ((List Int) × (Bool × (Bool × (ByteArray × Unit)))))))) × ByteArray) → Option (Int × (List Int))
  | (x0, x1) =>
  Option.bind (x0[(0 : Nat)]?) fun (y0_0, y0_1, y0_2, y0_3, y0_4, y0_5, y0_6, y0_7) =>
  Option.bind (F125 N y0_2) fun y1 =>
  Option.bind (F185_122 N N ((0 : Int), x0, x1, y1, [])) fun y2 =>
  match y2 with
  | .inl y3 =>
    some ((y3.1, y3.2))
  | .inr y3 =>
    some (((0 : Int), y3))
noncomputable def T185 (N : Nat) : Pk → Tr Pk := tellS s185 w185 (F185 N)
theorem T185_ok (N : Nat) : FOK Tryz.prog (185) (T185 N) :=
  (fn_ok2 ownT mix (tab185_ok N) Tryz.func185 s185 w185 [] (cuts := [(122, C185_122 N N)]) ⟨C185_122_ok N N, trivial⟩ (fun _ => by kernel_rfl) (by decide +kernel) (F185 N) (fun x => by kernel_rfl))
@[reducible] def s113 : SP := ⟨[.radr y7 [.i 0 7], .str], []⟩
noncomputable def tab113 (N : Nat) : List (Nat × (Pk → Tr Pk)) := [(81, T81 N), (105, T105 N), (125, T125 N), (135, T135 N), (184, T184 N), (185, T185 N)]
theorem tab113_ok (N : Nat) : TabOK Tryz.prog (tab113 N) := ⟨T81_ok N, T105_ok N, T125_ok N, T135_ok N, T184_ok N, T185_ok N, trivial⟩
@[reducible] def L113_250 : LD := ⟨250, [8, 6, 19, 18, 7, 0], [(.ret, [4, 5]), (.exit 0, [6])], ⟨[.str, .sl 0, .int .i64, .int .i64, .adr 1 [], .radrl y7 [.i 0 7]], [.row (.int .i64) 3, .var 189 (.agg [.str, .int .i64, .int .i64])]⟩, [(.ret, ⟨[.sl 0, .int .i64], [.row (.int .i64) 3]⟩), (.exit 0, ⟨[.sl 0], [.row (.int .i64) 3]⟩)]⟩
abbrev P113_250 : Type := ByteArray × Int × Int × (List (Int × (Int × (Int × ((List Int) × (Bool × (Bool × (ByteArray × Unit)))))))) × (List Int) × ByteArray × Int × Int
abbrev R113_250 : Type := ((Int × (List Int)) ⊕ ((List Int)))
noncomputable def B113_250 (N : Nat) (f : P113_250 → Option R113_250) : P113_250 → Option R113_250
  | (x0, x1, x2, x3, x4, x5, x6, x7) =>
  iteP (decide (x1 < x2)) (
    Option.bind (F105 N ((1 : Int), x5, x6, x7)) fun y0 =>
    Option.bind (x3[(0 : Nat)]?) fun (y1_0, y1_1, y1_2, y1_3, y1_4, y1_5, y1_6, y1_7) =>
    Option.bind (F125 N y1_2) fun y2 =>
    Option.bind (x3[(0 : Nat)]?) fun (y3_0, y3_1, y3_2, y3_3, y3_4, y3_5, y3_6, y3_7) =>
    Option.bind (x3[(0 : Nat)]?) fun (y4_0, y4_1, y4_2, y4_3, y4_4, y4_5, y4_6, y4_7) =>
    Option.bind (F125 N y4_2) fun y5 =>
    Option.bind (F135 N (IntKind.wrap IntKind.i64 (y3_0 * y5), y0.2.1, y0.2.2.1, y0.2.2.2)) fun y6 =>
    Option.bind (F184 N (y0.1, y2, x0, y6.1)) fun y7 =>
    iteP (y7.2 != (0 : Int)) (
      some (.inl (((121 : Int), [])))) (
      Option.bind (F185 N (x3, y7.1)) fun y8 =>
      iteP (y8.1 != (0 : Int)) (
        some (.inl ((y8.1, [])))) (
        iteP (decide ((List.length x4 + List.length y8.2) * (8 : Nat) ≤ (140737488355328 : Nat) ∧ List.length x4 + List.length y8.2 ≤ (140737488355328 : Nat))) (
          Option.bind (f (y7.1, IntKind.wrap IntKind.i64 (x1 + (1 : Int)), x2, x3, x4 ++ y8.2, y6.2.1, y6.2.2.1, y6.2.2.2)) fun r => match r with | .inl y => some (.inl y) | .inr y => some (.inr y)) (
          none )))) (
    some (.inr (x4)))
noncomputable def F113_250 (N : Nat) : Nat → P113_250 → Option R113_250
  | 0, _ => none
  | k + 1, x => B113_250 N (F113_250 N k) x
noncomputable def C113_250 (N : Nat) (k : Nat) : Cut := L113_250.cut (F113_250 N k)
theorem C113_250_ok (N : Nat) (k : Nat) : CutAt Tryz.prog false Tryz.f113 [] 250 (C113_250 N k) :=
  L113_250.loopT ownT mix (tab113_ok N) Tryz.f113 [] (cuts := []) trivial (by decide +kernel) (by kernel_rfl) (B113_250 N) (F113_250 N) (fun _ => rfl) (fun _ _ => rfl) (fun f x => by kernel_rfl) k
@[reducible] def w113 : List SP := [⟨[.tup [.sl 0, .int .i64]], [.row (.int .i64) 3]⟩]
noncomputable def F113 (N : Nat) : ((Int × (Int × (Int × ((List Int) × (Bool × (Bool × (ByteArray × Unit))))))) × ByteArray) → Option (Int × (List Int))
  | (x0, x1) =>
  Option.bind (F81 N x1) fun y0 =>
  Option.bind (F113_250 N N (ByteArray.mk #[], (0 : Int), x0.2.1, [x0], [], y0.1, y0.2.1, y0.2.2)) fun y1 =>
  match y1 with
  | .inl y2 =>
    some ((y2.1, y2.2))
  | .inr y2 =>
    some (((0 : Int), y2))
noncomputable def T113 (N : Nat) : Pk → Tr Pk := tellS s113 w113 (F113 N)
theorem T113_ok (N : Nat) : FOK Tryz.prog (113) (T113 N) :=
  (fn_ok2 ownT mix (tab113_ok N) Tryz.func113 s113 w113 [] (cuts := [(250, C113_250 N N)]) ⟨C113_250_ok N N, trivial⟩ (fun _ => by kernel_rfl) (by decide +kernel) (F113 N) (fun x => by kernel_rfl))
@[reducible] def s54 : SP := ⟨[.str, .int .i64], []⟩
noncomputable def tab54 (N : Nat) : List (Nat × (Pk → Tr Pk)) := [(55, T55 N), (111, T111 N), (112, T112 N), (113, T113 N)]
theorem tab54_ok (N : Nat) : TabOK Tryz.prog (tab54 N) := ⟨T55_ok N, T111_ok N, T112_ok N, T113_ok N, trivial⟩
@[reducible] def w54 : List SP := [⟨[.tup [.agg [.agg [.int .i64, .int .i64, .sl 0], .sl 1], .int .i64]], [.row (.int .i64) 3, .row (.int .i64) 3]⟩]
noncomputable def F54 (N : Nat) : (ByteArray × Int) → Option (Int × Int × Int × (List Int) × (List Int))
  | (x0, x1) =>
  Option.bind (F55 N x0) fun y0 =>
  iteP (y0.1 != (0 : Int)) (
    some (((0 : Int), (0 : Int), y0.1, [], []))) (
    Option.bind (F111 N (y0.2, x1, (0 : Int), (0 : Int), (0 : Int), false, false, ByteArray.mk #[], [])) fun (y1_0, y1_1, y1_2, y1_3, y1_4, y1_5, y1_6, y1_7) =>
    iteP (y1_0 != (0 : Int)) (
      some (((0 : Int), (0 : Int), y1_0, [], []))) (
      Option.bind (F112 N (y1_1, y1_2, y1_3, y1_7, y1_4, y1_5, y1_6, ())) fun y2 =>
      iteP (y2.2 != (0 : Int)) (
        some (((0 : Int), (0 : Int), y2.2, [], []))) (
        Option.bind (F113 N ((y1_1, y1_2, y1_3, y1_7, y1_4, y1_5, y1_6, ()), y2.1)) fun y3 =>
        iteP (y3.1 != (0 : Int)) (
          some (((0 : Int), (0 : Int), y3.1, [], []))) (
          some ((y1_1, y1_2, (0 : Int), y3.2, y1_7))))))
noncomputable def T54 (N : Nat) : Pk → Tr Pk := tellS s54 w54 (F54 N)
theorem T54_ok (N : Nat) : FOK Tryz.prog (54) (T54 N) :=
  (fn_ok2 ownT mix (tab54_ok N) Tryz.func54 s54 w54 [] (cuts := []) trivial (fun _ => by kernel_rfl) (by decide +kernel) (F54 N) (fun x => by kernel_rfl))
@[reducible] def s31 : SP := ⟨[.ro (.int .i64), .ro (.int .i64)], []⟩
noncomputable def tab31 (N : Nat) : List (Nat × (Pk → Tr Pk)) := []
theorem tab31_ok (N : Nat) : TabOK Tryz.prog (tab31 N) := trivial
@[reducible] def L31_58 : LD := ⟨58, [0, 1, 5], [(.ret, [4]), (.exit 0, [])], ⟨[.ro (.int .i64), .ro (.int .i64), .int .i64], []⟩, [(.ret, ⟨[.bool], []⟩), (.exit 0, ⟨[], []⟩)]⟩
abbrev P31_58 : Type := (List Int) × (List Int) × Int
abbrev R31_58 : Type := ((Bool) ⊕ (Unit))
noncomputable def B31_58 (N : Nat) (f : P31_58 → Option R31_58) : P31_58 → Option R31_58
  | (x0, x1, x2) =>
  iteP (decide (x2 < (↑(List.length x0) : Int))) (
    iteP (within x2 (List.length x0)) (
      Option.bind (x0[Int.toNat x2]?) fun y0 =>
      iteP (within x2 (List.length x1)) (
        Option.bind (x1[Int.toNat x2]?) fun y1 =>
        iteP (y0 != y1) (
          some (.inl (false))) (
          Option.bind (f (x0, x1, IntKind.wrap IntKind.i64 (x2 + (1 : Int)))) fun r => match r with | .inl y => some (.inl y) | .inr y => some (.inr y))) (
        none )) (
      none )) (
    some (.inr (())))
noncomputable def F31_58 (N : Nat) : Nat → P31_58 → Option R31_58
  | 0, _ => none
  | k + 1, x => B31_58 N (F31_58 N k) x
noncomputable def C31_58 (N : Nat) (k : Nat) : Cut := L31_58.cut (F31_58 N k)
theorem C31_58_ok (N : Nat) (k : Nat) : CutAt Tryz.prog false Tryz.f31 [] 58 (C31_58 N k) :=
  L31_58.loopT ownT mix (tab31_ok N) Tryz.f31 [] (cuts := []) trivial (by decide +kernel) (by kernel_rfl) (B31_58 N) (F31_58 N) (fun _ => rfl) (fun _ _ => rfl) (fun f x => by kernel_rfl) k
@[reducible] def w31 : List SP := [⟨[.bool], []⟩]
noncomputable def F31 (N : Nat) : ((List Int) × (List Int)) → Option (Bool)
  | (x0, x1) =>
  iteP ((↑(List.length x0) : Int) != (↑(List.length x1) : Int)) (
    some (false)) (
    Option.bind (F31_58 N N (x0, x1, (0 : Int))) fun y0 =>
    match y0 with
    | .inl y1 =>
      some (y1)
    | .inr y1 =>
      some (true))
noncomputable def T31 (N : Nat) : Pk → Tr Pk := tellS s31 w31 (F31 N)
theorem T31_ok (N : Nat) : FOK Tryz.prog (31) (T31 N) :=
  (fn_ok2 ownT mix (tab31_ok N) Tryz.func31 s31 w31 [] (cuts := [(58, C31_58 N N)]) ⟨C31_58_ok N N, trivial⟩ (fun _ => by kernel_rfl) (by decide +kernel) (F31 N) (fun x => by kernel_rfl))
@[reducible] def s22 : SP := ⟨[.agg [.int .i64, .int .i64, .ro (.int .i64)], .agg [.int .i64, .int .i64, .ro (.int .i64)]], []⟩
noncomputable def tab22 (N : Nat) : List (Nat × (Pk → Tr Pk)) := [(31, T31 N)]
theorem tab22_ok (N : Nat) : TabOK Tryz.prog (tab22 N) := ⟨T31_ok N, trivial⟩
@[reducible] def w22 : List SP := [⟨[.bool], []⟩]
noncomputable def F22 (N : Nat) : (Int × Int × (List Int) × Int × Int × (List Int)) → Option (Bool)
  | (x0, x1, x2, x3, x4, x5) =>
  iteP (x0 == x3) (
    iteP (x1 == x4) (
      Option.bind (F31 N (x2, x5)) fun y0 =>
      some (y0)) (
      some (false))) (
    some (false))
noncomputable def T22 (N : Nat) : Pk → Tr Pk := tellS s22 w22 (F22 N)
theorem T22_ok (N : Nat) : FOK Tryz.prog (22) (T22 N) :=
  (fn_ok2 ownT mix (tab22_ok N) Tryz.func22 s22 w22 [] (cuts := []) trivial (fun _ => by kernel_rfl) (by decide +kernel) (F22 N) (fun x => by kernel_rfl))
@[reducible] def s25 : SP := ⟨[.agg [.agg [.int .i64, .int .i64, .ro (.int .i64)], .ro (.int .i64)], .agg [.agg [.int .i64, .int .i64, .ro (.int .i64)], .ro (.int .i64)]], []⟩
noncomputable def tab25 (N : Nat) : List (Nat × (Pk → Tr Pk)) := [(22, T22 N), (31, T31 N)]
theorem tab25_ok (N : Nat) : TabOK Tryz.prog (tab25 N) := ⟨T22_ok N, T31_ok N, trivial⟩
@[reducible] def w25 : List SP := [⟨[.bool], []⟩]
noncomputable def F25 (N : Nat) : (Int × Int × (List Int) × (List Int) × Int × Int × (List Int) × (List Int)) → Option (Bool)
  | (x0, x1, x2, x3, x4, x5, x6, x7) =>
  Option.bind (F22 N (x0, x1, x2, x4, x5, x6)) fun y0 =>
  iteP (y0) (
    Option.bind (F31 N (x3, x7)) fun y1 =>
    some (y1)) (
    some (false))
noncomputable def T25 (N : Nat) : Pk → Tr Pk := tellS s25 w25 (F25 N)
theorem T25_ok (N : Nat) : FOK Tryz.prog (25) (T25 N) :=
  (fn_ok2 ownT mix (tab25_ok N) Tryz.func25 s25 w25 [] (cuts := []) trivial (fun _ => by kernel_rfl) (by decide +kernel) (F25 N) (fun x => by kernel_rfl))
@[reducible] def s15 : SP := ⟨[], []⟩
noncomputable def tab15 (N : Nat) : List (Nat × (Pk → Tr Pk)) := [(20, T20 N), (54, T54 N), (25, T25 N), (18, T18 N), (24, T24 N)]
theorem tab15_ok (N : Nat) : TabOK Tryz.prog (tab15 N) := ⟨T20_ok N, T54_ok N, T25_ok N, T18_ok N, T24_ok N, trivial⟩
@[reducible] def w15 : List SP := [⟨[.bool], []⟩]
noncomputable def F15 (N : Nat) : (Unit) → Option (Bool)
  | () =>
  Option.bind (F20 N ((2 : Int), (1 : Int), [(255 : Int), (65280 : Int)], [], (5 : Int))) fun y0 =>
  Option.bind (F54 N (y0.1, (2 : Int))) fun y1 =>
  Option.bind (F54 N (y0.1, (1 : Int))) fun y2 =>
  Option.bind (F25 N ((2 : Int), (1 : Int), [(255 : Int), (65280 : Int)], [], y1.1, y1.2.1, y1.2.2.2.1, y1.2.2.2.2)) fun y3 =>
  Option.bind (F18 N (ByteArray.mk #[(73 : UInt8), (69 : UInt8), (78 : UInt8), (68 : UInt8)], ByteArray.mk #[])) fun y4 =>
  iteP (ByteArray.toList y4 == [(0 : UInt8), (0 : UInt8), (0 : UInt8), (0 : UInt8), (73 : UInt8), (69 : UInt8), (78 : UInt8), (68 : UInt8), (174 : UInt8), (66 : UInt8), (96 : UInt8), (130 : UInt8)]) (
    iteP (y0.2 == (0 : Int)) (
      iteP (y1.2.2.1 == (0 : Int)) (
        iteP (y3) (
          iteP (y2.2.2.1 == (4 : Int)) (
            Option.bind (F24 N ((2 : Int), (1 : Int), [(255 : Int), (65280 : Int)], [])) fun y5 =>
            some (y5)) (
            some (false))) (
          some (false))) (
        some (false))) (
      some (false))) (
    some (false))
noncomputable def T15 (N : Nat) : Pk → Tr Pk := tellS s15 w15 (F15 N)
theorem T15_ok (N : Nat) : FOK Tryz.prog (15) (T15 N) :=
  (fn_ok2 ownT mix (tab15_ok N) Tryz.func15 s15 w15 [] (cuts := []) trivial (fun _ => by kernel_rfl) (by decide +kernel) (F15 N) (fun x => by kernel_rfl))
@[reducible] def s16 : SP := ⟨[.str], []⟩
noncomputable def tab16 (N : Nat) : List (Nat × (Pk → Tr Pk)) := [(55, T55 N)]
theorem tab16_ok (N : Nat) : TabOK Tryz.prog (tab16 N) := ⟨T55_ok N, trivial⟩
@[reducible] def L16_122 : LD := ⟨122, [7, 8, 18, 17, 6, 16], [(.ret, [2, 3, 4]), (.exit 0, [7, 8, 6])], ⟨[.sl 0, .sl 1, .int .i64, .int .i64, .int .i64, .sl 2], [.row (.str) 9, .row (.str) 9, .row y5 86]⟩, [(.exit 0, ⟨[.sl 0, .sl 1, .int .i64], [.row (.str) 9, .row (.str) 9]⟩)]⟩
abbrev P16_122 : Type := Int × Int × Int × (List ByteArray) × (List ByteArray) × (List (ByteArray × (ByteArray × Unit)))
abbrev R16_122 : Type := Int × (List ByteArray) × (List ByteArray)
noncomputable def B16_122 (N : Nat) (f : P16_122 → Option R16_122) : P16_122 → Option R16_122
  | (x0, x1, x2, x3, x4, x5) =>
  iteP (decide (x0 < x1)) (
    iteP (within x0 (List.length x5)) (
      Option.bind (x5[Int.toNat x0]?) fun y0 =>
      iteP (decide ((List.length x3 + List.length [y0.1]) * (16 : Nat) ≤ (140737488355328 : Nat) ∧ List.length x3 + List.length [y0.1] ≤ (140737488355328 : Nat))) (
        iteP (decide ((List.length x4 + List.length [y0.2.1]) * (16 : Nat) ≤ (140737488355328 : Nat) ∧ List.length x4 + List.length [y0.2.1] ≤ (140737488355328 : Nat))) (
          Option.bind (f (IntKind.wrap IntKind.i64 (x0 + (1 : Int)), x1, x2, x3 ++ [y0.1], x4 ++ [y0.2.1], x5)) fun r => some r) (
          none )) (
        none )) (
      none )) (
    some ((x2, x3, x4)))
noncomputable def F16_122 (N : Nat) : Nat → P16_122 → Option R16_122
  | 0, _ => none
  | k + 1, x => B16_122 N (F16_122 N k) x
noncomputable def C16_122 (N : Nat) (k : Nat) : Cut := L16_122.cut (F16_122 N k)
theorem C16_122_ok (N : Nat) (k : Nat) : CutAt Tryz.prog false Tryz.f16 [] 122 (C16_122 N k) :=
  L16_122.loopT ownT mix (tab16_ok N) Tryz.f16 [] (cuts := []) trivial (by decide +kernel) (by kernel_rfl) (B16_122 N) (F16_122 N) (fun _ => rfl) (fun _ _ => rfl) (fun f x => by kernel_rfl) k
@[reducible] def w16 : List SP := [⟨[.tup [.sl 0, .sl 1, .int .i64]], [.row (.str) 9, .row (.str) 9]⟩]
noncomputable def F16 (N : Nat) : (ByteArray) → Option (Int × (List ByteArray) × (List ByteArray))
  | x0 =>
  Option.bind (F55 N x0) fun y0 =>
  Option.bind (F16_122 N N ((0 : Int), (↑(List.length y0.2) : Int), y0.1, [], [], y0.2)) fun y1 =>
  some ((y1.1, y1.2.1, y1.2.2))
noncomputable def T16 (N : Nat) : Pk → Tr Pk := tellS s16 w16 (F16 N)
theorem T16_ok (N : Nat) : FOK Tryz.prog (16) (T16 N) :=
  (fn_ok2 ownT mix (tab16_ok N) Tryz.func16 s16 w16 [] (cuts := [(122, C16_122 N N)]) ⟨C16_122_ok N N, trivial⟩ (fun _ => by kernel_rfl) (by decide +kernel) (F16 N) (fun x => by kernel_rfl))
@[reducible] def s56 : SP := ⟨[.str], []⟩
noncomputable def tab56 (N : Nat) : List (Nat × (Pk → Tr Pk)) := []
theorem tab56_ok (N : Nat) : TabOK Tryz.prog (tab56 N) := trivial
@[reducible] def L56_58 : LD := ⟨58, [3, 4, 0], [(.ret, [2]), (.exit 0, [3])], ⟨[.int .i64, .int .i64, .str], []⟩, [(.exit 0, ⟨[.int .i64], []⟩)]⟩
abbrev P56_58 : Type := Int × Int × ByteArray
abbrev R56_58 : Type := Int
noncomputable def B56_58 (N : Nat) (f : P56_58 → Option R56_58) : P56_58 → Option R56_58
  | (x0, x1, x2) =>
  iteP (decide (x1 < (↑(ByteArray.size x2) : Int))) (
    iteP (decide ((0 : Int) ≤ x1)) (
      Option.bind (x2[Int.toNat x1]?) fun y0 =>
      Option.bind (f (IntKind.wrap IntKind.i64 (IntKind.wrap IntKind.i64 (x0 * (256 : Int)) + IntKind.wrap IntKind.i64 (↑(UInt8.toNat y0) : Int)), IntKind.wrap IntKind.i64 (x1 + (1 : Int)), x2)) fun r => some r) (
      none )) (
    some (x0))
noncomputable def F56_58 (N : Nat) : Nat → P56_58 → Option R56_58
  | 0, _ => none
  | k + 1, x => B56_58 N (F56_58 N k) x
noncomputable def C56_58 (N : Nat) (k : Nat) : Cut := L56_58.cut (F56_58 N k)
theorem C56_58_ok (N : Nat) (k : Nat) : CutAt Tryz.prog false Tryz.f56 [] 58 (C56_58 N k) :=
  L56_58.loopT ownT mix (tab56_ok N) Tryz.f56 [] (cuts := []) trivial (by decide +kernel) (by kernel_rfl) (B56_58 N) (F56_58 N) (fun _ => rfl) (fun _ _ => rfl) (fun f x => by kernel_rfl) k
@[reducible] def w56 : List SP := [⟨[.int .i64], []⟩]
noncomputable def F56 (N : Nat) : (ByteArray) → Option (Int)
  | x0 =>
  Option.bind (F56_58 N N ((0 : Int), (0 : Int), x0)) fun y0 =>
  some (y0)
noncomputable def T56 (N : Nat) : Pk → Tr Pk := tellS s56 w56 (F56 N)
theorem T56_ok (N : Nat) : FOK Tryz.prog (56) (T56 N) :=
  (fn_ok2 ownT mix (tab56_ok N) Tryz.func56 s56 w56 [] (cuts := [(58, C56_58 N N)]) ⟨C56_58_ok N N, trivial⟩ (fun _ => by kernel_rfl) (by decide +kernel) (F56 N) (fun x => by kernel_rfl))
@[reducible] def s187 : SP := ⟨[.int .i64], []⟩
noncomputable def tab187 (N : Nat) : List (Nat × (Pk → Tr Pk)) := []
theorem tab187_ok (N : Nat) : TabOK Tryz.prog (tab187 N) := trivial
@[reducible] def L187_26 : LD := ⟨26, [0, 3], [(.ret, [2]), (.exit 0, [0])], ⟨[.int .i64, .int .i64], []⟩, [(.exit 0, ⟨[.int .i64], []⟩)]⟩
abbrev P187_26 : Type := Int × Int
abbrev R187_26 : Type := Int
noncomputable def B187_26 (N : Nat) (f : P187_26 → Option R187_26) : P187_26 → Option R187_26
  | (x0, x1) =>
  iteP (decide (x1 < (8 : Int))) (
    iteP (Int.tmod x0 (2 : Int) == (1 : Int)) (
      Option.bind (f (IntKind.wrap IntKind.i64 (↑(BitVec.toNat (BitVec.ofInt (64 : Nat) (IntKind.wrap IntKind.i64 (Int.tdiv x0 (2 : Int))) ^^^ BitVec.ofInt (64 : Nat) (3988292384 : Int))) : Int), IntKind.wrap IntKind.i64 (x1 + (1 : Int)))) fun r => some r) (
      Option.bind (f (IntKind.wrap IntKind.i64 (Int.tdiv x0 (2 : Int)), IntKind.wrap IntKind.i64 (x1 + (1 : Int)))) fun r => some r)) (
    some (x0))
noncomputable def F187_26 (N : Nat) : Nat → P187_26 → Option R187_26
  | 0, _ => none
  | k + 1, x => B187_26 N (F187_26 N k) x
noncomputable def C187_26 (N : Nat) (k : Nat) : Cut := L187_26.cut (F187_26 N k)
theorem C187_26_ok (N : Nat) (k : Nat) : CutAt Tryz.prog false Tryz.f187 [] 26 (C187_26 N k) :=
  L187_26.loopT ownT mix (tab187_ok N) Tryz.f187 [] (cuts := []) trivial (by decide +kernel) (by kernel_rfl) (B187_26 N) (F187_26 N) (fun _ => rfl) (fun _ _ => rfl) (fun f x => by kernel_rfl) k
@[reducible] def w187 : List SP := [⟨[.int .i64], []⟩]
noncomputable def F187 (N : Nat) : (Int) → Option (Int)
  | x0 =>
  Option.bind (F187_26 N N (x0, (0 : Int))) fun y0 =>
  some (y0)
noncomputable def T187 (N : Nat) : Pk → Tr Pk := tellS s187 w187 (F187 N)
theorem T187_ok (N : Nat) : FOK Tryz.prog (187) (T187 N) :=
  (fn_ok2 ownT mix (tab187_ok N) Tryz.func187 s187 w187 [] (cuts := [(26, C187_26 N N)]) ⟨C187_26_ok N N, trivial⟩ (fun _ => by kernel_rfl) (by decide +kernel) (F187 N) (fun x => by kernel_rfl))
@[reducible] def s117 : SP := ⟨[.int .i64, .str], []⟩
noncomputable def tab117 (N : Nat) : List (Nat × (Pk → Tr Pk)) := [(187, T187 N)]
theorem tab117_ok (N : Nat) : TabOK Tryz.prog (tab117 N) := ⟨T187_ok N, trivial⟩
@[reducible] def L117_58 : LD := ⟨58, [0, 5, 1], [(.ret, [4]), (.exit 0, [0])], ⟨[.int .i64, .int .i64, .str], []⟩, [(.exit 0, ⟨[.int .i64], []⟩)]⟩
abbrev P117_58 : Type := Int × Int × ByteArray
abbrev R117_58 : Type := Int
noncomputable def B117_58 (N : Nat) (f : P117_58 → Option R117_58) : P117_58 → Option R117_58
  | (x0, x1, x2) =>
  iteP (decide (x1 < (↑(ByteArray.size x2) : Int))) (
    iteP (decide ((0 : Int) ≤ x1)) (
      Option.bind (x2[Int.toNat x1]?) fun y0 =>
      Option.bind (F187 N (IntKind.wrap IntKind.i64 (↑(BitVec.toNat (BitVec.ofInt (64 : Nat) (IntKind.wrap IntKind.i64 (↑(BitVec.toNat (BitVec.ofInt (64 : Nat) x0 ^^^ BitVec.ofInt (64 : Nat) (IntKind.wrap IntKind.i64 (↑(UInt8.toNat y0) : Int)))) : Int)) &&& BitVec.ofInt (64 : Nat) (255 : Int))) : Int))) fun y1 =>
      Option.bind (f (IntKind.wrap IntKind.i64 (↑(BitVec.toNat (BitVec.ofInt (64 : Nat) y1 ^^^ BitVec.ofInt (64 : Nat) (Int.fdiv x0 (256 : Int)))) : Int), IntKind.wrap IntKind.i64 (x1 + (1 : Int)), x2)) fun r => some r) (
      none )) (
    some (x0))
noncomputable def F117_58 (N : Nat) : Nat → P117_58 → Option R117_58
  | 0, _ => none
  | k + 1, x => B117_58 N (F117_58 N k) x
noncomputable def C117_58 (N : Nat) (k : Nat) : Cut := L117_58.cut (F117_58 N k)
theorem C117_58_ok (N : Nat) (k : Nat) : CutAt Tryz.prog false Tryz.f117 [] 58 (C117_58 N k) :=
  L117_58.loopT ownT mix (tab117_ok N) Tryz.f117 [] (cuts := []) trivial (by decide +kernel) (by kernel_rfl) (B117_58 N) (F117_58 N) (fun _ => rfl) (fun _ _ => rfl) (fun f x => by kernel_rfl) k
@[reducible] def w117 : List SP := [⟨[.int .i64], []⟩]
noncomputable def F117 (N : Nat) : (Int × ByteArray) → Option (Int)
  | (x0, x1) =>
  Option.bind (F117_58 N N (IntKind.wrap IntKind.i64 (↑(BitVec.toNat (BitVec.ofInt (64 : Nat) x0 &&& BitVec.ofInt (64 : Nat) (4294967295 : Int))) : Int), (0 : Int), x1)) fun y0 =>
  some (y0)
noncomputable def T117 (N : Nat) : Pk → Tr Pk := tellS s117 w117 (F117 N)
theorem T117_ok (N : Nat) : FOK Tryz.prog (117) (T117 N) :=
  (fn_ok2 ownT mix (tab117_ok N) Tryz.func117 s117 w117 [] (cuts := [(58, C117_58 N N)]) ⟨C117_58_ok N N, trivial⟩ (fun _ => by kernel_rfl) (by decide +kernel) (F117 N) (fun x => by kernel_rfl))
@[reducible] def s57 : SP := ⟨[.str], []⟩
noncomputable def tab57 (N : Nat) : List (Nat × (Pk → Tr Pk)) := [(117, T117 N)]
theorem tab57_ok (N : Nat) : TabOK Tryz.prog (tab57 N) := ⟨T117_ok N, trivial⟩
@[reducible] def w57 : List SP := [⟨[.int .i64], []⟩]
noncomputable def F57 (N : Nat) : (ByteArray) → Option (Int)
  | x0 =>
  Option.bind (F117 N ((4294967295 : Int), x0)) fun y0 =>
  some (IntKind.wrap IntKind.i64 (↑(BitVec.toNat (BitVec.ofInt (64 : Nat) y0 ^^^ BitVec.ofInt (64 : Nat) (4294967295 : Int))) : Int))
noncomputable def T57 (N : Nat) : Pk → Tr Pk := tellS s57 w57 (F57 N)
theorem T57_ok (N : Nat) : FOK Tryz.prog (57) (T57 N) :=
  (fn_ok2 ownT mix (tab57_ok N) Tryz.func57 s57 w57 [] (cuts := []) trivial (fun _ => by kernel_rfl) (by decide +kernel) (F57 N) (fun x => by kernel_rfl))
@[reducible] def s17 : SP := ⟨[.str], []⟩
noncomputable def tab17 (N : Nat) : List (Nat × (Pk → Tr Pk)) := [(56, T56 N), (57, T57 N)]
theorem tab17_ok (N : Nat) : TabOK Tryz.prog (tab17 N) := ⟨T56_ok N, T57_ok N, trivial⟩
@[reducible] def L17_1020 : LD := ⟨1020, [6, 7, 0], [(.ret, [2, 3, 4]), (.exit 0, [0, 7, 6])], ⟨[.sl 0, .sl 1, .str], [.row (.str) 9, .row (.str) 9]⟩, [(.ret, ⟨[.sl 0, .sl 1, .int .i64], [.row (.str) 9, .row (.str) 9]⟩), (.exit 0, ⟨[.str, .sl 0, .sl 1], [.row (.str) 9, .row (.str) 9]⟩)]⟩
abbrev P17_1020 : Type := ByteArray × (List ByteArray) × (List ByteArray)
abbrev R17_1020 : Type := ((Int × (List ByteArray) × (List ByteArray)) ⊕ (ByteArray × (List ByteArray) × (List ByteArray)))
noncomputable def B17_1020 (N : Nat) (f : P17_1020 → Option R17_1020) : P17_1020 → Option R17_1020
  | (x0, x1, x2) =>
  iteP (decide ((↑(ByteArray.size x0) : Int) < (4 : Int))) (
    some (.inl (((2 : Int), [], [])))) (
    iteP (decide ((0 : Int) ≤ (4 : Int) ∧ (4 : Int) ≤ (↑(ByteArray.size x0) : Int))) (
      Option.bind (F56 N (ByteArray.extract x0 (0 : Nat) (4 : Nat))) fun y0 =>
      iteP (decide (y0 > (2147483647 : Int))) (
        some (.inl (((4 : Int), [], [])))) (
        iteP (decide (IntKind.wrap IntKind.i64 ((↑(ByteArray.size x0) : Int) - (12 : Int)) < y0)) (
          some (.inl (((2 : Int), [], [])))) (
          iteP (decide ((0 : Int) ≤ IntKind.wrap IntKind.i64 ((12 : Int) + y0) ∧ IntKind.wrap IntKind.i64 ((12 : Int) + y0) ≤ (↑(ByteArray.size x0) : Int))) (
            iteP (decide ((0 : Int) ≤ IntKind.wrap IntKind.i64 ((8 : Int) + y0) ∧ IntKind.wrap IntKind.i64 ((8 : Int) + y0) ≤ (↑(Int.toNat (IntKind.wrap IntKind.i64 ((12 : Int) + y0))) : Int))) (
              Option.bind (F56 N (ByteArray.extract x0 (Int.toNat (IntKind.wrap IntKind.i64 ((8 : Int) + y0))) (Int.toNat (IntKind.wrap IntKind.i64 ((12 : Int) + y0))))) fun y1 =>
              iteP (decide ((0 : Int) ≤ IntKind.wrap IntKind.i64 ((8 : Int) + y0) ∧ IntKind.wrap IntKind.i64 ((8 : Int) + y0) ≤ (↑(ByteArray.size x0) : Int))) (
                iteP (decide ((0 : Int) ≤ (4 : Int) ∧ (4 : Int) ≤ (↑(Int.toNat (IntKind.wrap IntKind.i64 ((8 : Int) + y0))) : Int))) (
                  Option.bind (F57 N (ByteArray.extract x0 (4 : Nat) (Int.toNat (IntKind.wrap IntKind.i64 ((8 : Int) + y0))))) fun y2 =>
                  iteP (y1 != y2) (
                    some (.inl (((101 : Int), [], [])))) (
                    iteP (decide ((0 : Int) ≤ (8 : Int) ∧ (8 : Int) ≤ (↑(ByteArray.size x0) : Int))) (
                      iteP (decide ((List.length x1 + List.length [ByteArray.extract x0 (4 : Nat) (8 : Nat)]) * (16 : Nat) ≤ (140737488355328 : Nat) ∧ List.length x1 + List.length [ByteArray.extract x0 (4 : Nat) (8 : Nat)] ≤ (140737488355328 : Nat))) (
                        iteP (decide ((0 : Int) ≤ IntKind.wrap IntKind.i64 ((8 : Int) + y0) ∧ IntKind.wrap IntKind.i64 ((8 : Int) + y0) ≤ (↑(ByteArray.size x0) : Int))) (
                          iteP (decide ((0 : Int) ≤ (8 : Int) ∧ (8 : Int) ≤ (↑(Int.toNat (IntKind.wrap IntKind.i64 ((8 : Int) + y0))) : Int))) (
                            iteP (decide ((List.length x2 + List.length [ByteArray.extract x0 (8 : Nat) (Int.toNat (IntKind.wrap IntKind.i64 ((8 : Int) + y0)))]) * (16 : Nat) ≤ (140737488355328 : Nat) ∧ List.length x2 + List.length [ByteArray.extract x0 (8 : Nat) (Int.toNat (IntKind.wrap IntKind.i64 ((8 : Int) + y0)))] ≤ (140737488355328 : Nat))) (
                              iteP (decide ((0 : Int) ≤ IntKind.wrap IntKind.i64 ((12 : Int) + y0) ∧ IntKind.wrap IntKind.i64 ((12 : Int) + y0) ≤ (↑(ByteArray.size x0) : Int))) (
                                iteP (ByteArray.toList (ByteArray.extract x0 (4 : Nat) (8 : Nat)) == [(73 : UInt8), (69 : UInt8), (78 : UInt8), (68 : UInt8)]) (
                                  some (.inr ((ByteArray.extract x0 (Int.toNat (IntKind.wrap IntKind.i64 ((12 : Int) + y0))) (ByteArray.size x0), x2 ++ [ByteArray.extract x0 (8 : Nat) (Int.toNat (IntKind.wrap IntKind.i64 ((8 : Int) + y0)))], x1 ++ [ByteArray.extract x0 (4 : Nat) (8 : Nat)])))) (
                                  Option.bind (f (ByteArray.extract x0 (Int.toNat (IntKind.wrap IntKind.i64 ((12 : Int) + y0))) (ByteArray.size x0), x1 ++ [ByteArray.extract x0 (4 : Nat) (8 : Nat)], x2 ++ [ByteArray.extract x0 (8 : Nat) (Int.toNat (IntKind.wrap IntKind.i64 ((8 : Int) + y0)))])) fun r => match r with | .inl y => some (.inl y) | .inr y => some (.inr y))) (
                                none )) (
                              none )) (
                            none )) (
                          none )) (
                        none )) (
                      none ))) (
                  none )) (
                none )) (
              none )) (
            none )))) (
      none ))
noncomputable def F17_1020 (N : Nat) : Nat → P17_1020 → Option R17_1020
  | 0, _ => none
  | k + 1, x => B17_1020 N (F17_1020 N k) x
noncomputable def C17_1020 (N : Nat) (k : Nat) : Cut := L17_1020.cut (F17_1020 N k)
theorem C17_1020_ok (N : Nat) (k : Nat) : CutAt Tryz.prog false Tryz.f17 [] 1020 (C17_1020 N k) :=
  L17_1020.loopT ownT mix (tab17_ok N) Tryz.f17 [] (cuts := []) trivial (by decide +kernel) (by kernel_rfl) (B17_1020 N) (F17_1020 N) (fun _ => rfl) (fun _ _ => rfl) (fun f x => by kernel_rfl) k
@[reducible] def w17 : List SP := [⟨[.tup [.sl 0, .sl 1, .int .i64]], [.row (.str) 9, .row (.str) 9]⟩]
noncomputable def F17 (N : Nat) : (ByteArray) → Option (Int × (List ByteArray) × (List ByteArray))
  | x0 =>
  iteP (decide (((0 : Int) ≤ if (8 : Int) < (↑(ByteArray.size x0) : Int) then (8 : Int) else (↑(ByteArray.size x0) : Int)) ∧ (if (8 : Int) < (↑(ByteArray.size x0) : Int) then (8 : Int) else (↑(ByteArray.size x0) : Int)) ≤ (↑(ByteArray.size x0) : Int))) (
    iteP (decide (((0 : Int) ≤ if (8 : Int) < (↑(ByteArray.size x0) : Int) then (8 : Int) else (↑(ByteArray.size x0) : Int)) ∧ (if (8 : Int) < (↑(ByteArray.size x0) : Int) then (8 : Int) else (↑(ByteArray.size x0) : Int)) ≤ (8 : Int))) (
      iteP (!ByteArray.toList (ByteArray.extract x0 (0 : Nat) (Int.toNat (if (8 : Int) < (↑(ByteArray.size x0) : Int) then (8 : Int) else (↑(ByteArray.size x0) : Int)))) == ByteArray.toList (ByteArray.extract (ByteArray.mk #[(137 : UInt8), (80 : UInt8), (78 : UInt8), (71 : UInt8), (13 : UInt8), (10 : UInt8), (26 : UInt8), (10 : UInt8)]) (0 : Nat) (Int.toNat (if (8 : Int) < (↑(ByteArray.size x0) : Int) then (8 : Int) else (↑(ByteArray.size x0) : Int))))) (
        some (((100 : Int), [], []))) (
        iteP (decide ((if (8 : Int) < (↑(ByteArray.size x0) : Int) then (8 : Int) else (↑(ByteArray.size x0) : Int)) < (8 : Int))) (
          some (((2 : Int), [], []))) (
          iteP (decide ((0 : Int) ≤ (8 : Int) ∧ (8 : Int) ≤ (↑(ByteArray.size x0) : Int))) (
            Option.bind (F17_1020 N N (ByteArray.extract x0 (8 : Nat) (ByteArray.size x0), [], [])) fun y0 =>
            match y0 with
            | .inl y1 =>
              some ((y1.1, y1.2.1, y1.2.2))
            | .inr y1 =>
              iteP (!ByteArray.toList y1.1 == []) (
                some (((3 : Int), [], []))) (
                some (((0 : Int), y1.2.2, y1.2.1)))) (
            none )))) (
      none )) (
    none )
noncomputable def T17 (N : Nat) : Pk → Tr Pk := tellS s17 w17 (F17 N)
theorem T17_ok (N : Nat) : FOK Tryz.prog (17) (T17 N) :=
  (fn_ok2 ownT mix (tab17_ok N) Tryz.func17 s17 w17 [] (cuts := [(1020, C17_1020 N N)]) ⟨C17_1020_ok N N, trivial⟩ (fun _ => by kernel_rfl) (by decide +kernel) (F17 N) (fun x => by kernel_rfl))
@[reducible] def s120 : SP := ⟨[.int .i64], []⟩
noncomputable def tab120 (N : Nat) : List (Nat × (Pk → Tr Pk)) := []
theorem tab120_ok (N : Nat) : TabOK Tryz.prog (tab120 N) := trivial
@[reducible] def w120 : List SP := [⟨[.bool], []⟩]
noncomputable def F120 (N : Nat) : (Int) → Option (Bool)
  | x0 =>
  iteP (x0 == (1 : Int)) (
    some (true)) (
    iteP (x0 == (2 : Int)) (
      some (true)) (
      some (x0 == (4 : Int))))
noncomputable def T120 (N : Nat) : Pk → Tr Pk := tellS s120 w120 (F120 N)
theorem T120_ok (N : Nat) : FOK Tryz.prog (120) (T120 N) :=
  (fn_ok2 ownT mix (tab120_ok N) Tryz.func120 s120 w120 [] (cuts := []) trivial (fun _ => by kernel_rfl) (by decide +kernel) (F120 N) (fun x => by kernel_rfl))
@[reducible] def s121 : SP := ⟨[.int .i64], []⟩
noncomputable def tab121 (N : Nat) : List (Nat × (Pk → Tr Pk)) := []
theorem tab121_ok (N : Nat) : TabOK Tryz.prog (tab121 N) := trivial
@[reducible] def w121 : List SP := [⟨[.int .i64], []⟩]
noncomputable def F121 (N : Nat) : (Int) → Option (Int)
  | x0 =>
  iteP (x0 == (1 : Int)) (
    some ((255 : Int))) (
    iteP (x0 == (2 : Int)) (
      some ((65535 : Int))) (
      some ((4294967295 : Int))))
noncomputable def T121 (N : Nat) : Pk → Tr Pk := tellS s121 w121 (F121 N)
theorem T121_ok (N : Nat) : FOK Tryz.prog (121) (T121 N) :=
  (fn_ok2 ownT mix (tab121_ok N) Tryz.func121 s121 w121 [] (cuts := []) trivial (fun _ => by kernel_rfl) (by decide +kernel) (F121 N) (fun x => by kernel_rfl))
@[reducible] def s60 : SP := ⟨[.int .i64, .int .i64], []⟩
noncomputable def tab60 (N : Nat) : List (Nat × (Pk → Tr Pk)) := [(120, T120 N), (121, T121 N)]
theorem tab60_ok (N : Nat) : TabOK Tryz.prog (tab60 N) := ⟨T120_ok N, T121_ok N, trivial⟩
@[reducible] def L60_122 : LD := ⟨122, [6, 1, 7, 0], [(.ret, [4, 5]), (.exit 0, [6])], ⟨[.str, .int .i64, .int .i64, .int .i64], []⟩, [(.exit 0, ⟨[.str], []⟩)]⟩
abbrev P60_122 : Type := ByteArray × Int × Int × Int
abbrev R60_122 : Type := ByteArray
noncomputable def B60_122 (N : Nat) (f : P60_122 → Option R60_122) : P60_122 → Option R60_122
  | (x0, x1, x2, x3) =>
  iteP (decide (x2 < x3)) (
    iteP (decide ((↑(ByteArray.size (stringOf [IntKind.wrap IntKind.u8 (Int.tmod x1 (256 : Int))]) + ByteArray.size x0) : Int) > (9223372036854775807 : Int))) (
      none ) (
      Option.bind (f (stringOf [IntKind.wrap IntKind.u8 (Int.tmod x1 (256 : Int))] ++ x0, IntKind.wrap IntKind.i64 (Int.tdiv x1 (256 : Int)), IntKind.wrap IntKind.i64 (x2 + (1 : Int)), x3)) fun r => some r)) (
    some (x0))
noncomputable def F60_122 (N : Nat) : Nat → P60_122 → Option R60_122
  | 0, _ => none
  | k + 1, x => B60_122 N (F60_122 N k) x
noncomputable def C60_122 (N : Nat) (k : Nat) : Cut := L60_122.cut (F60_122 N k)
theorem C60_122_ok (N : Nat) (k : Nat) : CutAt Tryz.prog false Tryz.f60 [] 122 (C60_122 N k) :=
  L60_122.loopT ownT mix (tab60_ok N) Tryz.f60 [] (cuts := []) trivial (by decide +kernel) (by kernel_rfl) (B60_122 N) (F60_122 N) (fun _ => rfl) (fun _ _ => rfl) (fun f x => by kernel_rfl) k
@[reducible] def w60 : List SP := [⟨[.tup [.str, .int .i64]], []⟩]
noncomputable def F60 (N : Nat) : (Int × Int) → Option (ByteArray × Int)
  | (x0, x1) =>
  Option.bind (F120 N x0) fun y0 =>
  iteP (!y0) (
    some ((ByteArray.mk #[], (1 : Int)))) (
    iteP (decide (x1 < (0 : Int))) (
      some ((ByteArray.mk #[], (1 : Int)))) (
      Option.bind (F121 N x0) fun y1 =>
      iteP (decide (x1 > y1)) (
        some ((ByteArray.mk #[], (1 : Int)))) (
        Option.bind (F60_122 N N (ByteArray.mk #[], x1, (0 : Int), x0)) fun y2 =>
        some ((y2, (0 : Int))))))
noncomputable def T60 (N : Nat) : Pk → Tr Pk := tellS s60 w60 (F60 N)
theorem T60_ok (N : Nat) : FOK Tryz.prog (60) (T60 N) :=
  (fn_ok2 ownT mix (tab60_ok N) Tryz.func60 s60 w60 [] (cuts := [(122, C60_122 N N)]) ⟨C60_122_ok N N, trivial⟩ (fun _ => by kernel_rfl) (by decide +kernel) (F60 N) (fun x => by kernel_rfl))
@[reducible] def s19 : SP := ⟨[.str, .str], []⟩
noncomputable def tab19 (N : Nat) : List (Nat × (Pk → Tr Pk)) := [(60, T60 N), (57, T57 N)]
theorem tab19_ok (N : Nat) : TabOK Tryz.prog (tab19 N) := ⟨T60_ok N, T57_ok N, trivial⟩
@[reducible] def w19 : List SP := [⟨[.str], []⟩]
noncomputable def F19 (N : Nat) : (ByteArray × ByteArray) → Option (ByteArray)
  | (x0, x1) =>
  iteP ((↑(ByteArray.size x0) : Int) != (4 : Int)) (
    some (ByteArray.mk #[])) (
    Option.bind (F60 N ((4 : Int), (↑(ByteArray.size x1) : Int))) fun y0 =>
    iteP (decide ((↑(ByteArray.size x0 + ByteArray.size x1) : Int) > (9223372036854775807 : Int))) (
      none ) (
      Option.bind (F57 N (x0 ++ x1)) fun y1 =>
      Option.bind (F60 N ((4 : Int), y1)) fun y2 =>
      iteP (decide ((↑(ByteArray.size y0.1 + ByteArray.size x0) : Int) > (9223372036854775807 : Int))) (
        none ) (
        iteP (decide ((↑(ByteArray.size (y0.1 ++ x0) + ByteArray.size x1) : Int) > (9223372036854775807 : Int))) (
          none ) (
          iteP (decide ((↑(ByteArray.size (y0.1 ++ x0 ++ x1) + ByteArray.size y2.1) : Int) > (9223372036854775807 : Int))) (
            none ) (
            some (y0.1 ++ x0 ++ x1 ++ y2.1))))))
noncomputable def T19 (N : Nat) : Pk → Tr Pk := tellS s19 w19 (F19 N)
theorem T19_ok (N : Nat) : FOK Tryz.prog (19) (T19 N) :=
  (fn_ok2 ownT mix (tab19_ok N) Tryz.func19 s19 w19 [] (cuts := []) trivial (fun _ => by kernel_rfl) (by decide +kernel) (F19 N) (fun x => by kernel_rfl))
@[reducible] def s3 : SP := ⟨[.str, .str, .str], []⟩
noncomputable def tab3 (N : Nat) : List (Nat × (Pk → Tr Pk)) := [(15, T15 N), (16, T16 N), (17, T17 N), (18, T18 N), (19, T19 N)]
theorem tab3_ok (N : Nat) : TabOK Tryz.prog (tab3 N) := ⟨T15_ok N, T16_ok N, T17_ok N, T18_ok N, T19_ok N, trivial⟩
@[reducible] def L3_2042 : LD := ⟨2042, [1, 0, 7, 8, 11, 9, 12, 14], [(.ret, [6]), (.exit 0, [7, 0, 1])], ⟨[.str, .str, .bool, .sl 0, .sl 1, .sl 2, .sl 3, .int .i64], [.row (.str) 9, .row (.str) 9, .row (.str) 9, .row (.str) 9]⟩, [(.ret, ⟨[.bool], []⟩), (.exit 0, ⟨[.bool, .str, .str], []⟩)]⟩
abbrev P3_2042 : Type := ByteArray × ByteArray × Bool × Int × (List ByteArray) × (List ByteArray) × (List ByteArray) × (List ByteArray)
abbrev R3_2042 : Type := ((Bool) ⊕ (Bool × ByteArray × ByteArray))
noncomputable def B3_2042 (N : Nat) (f : P3_2042 → Option R3_2042) : P3_2042 → Option R3_2042
  | (x0, x1, x2, x3, x4, x5, x6, x7) =>
  iteP (decide (x3 < (↑(List.length x5) : Int))) (
    iteP (within x3 (List.length x4)) (
      Option.bind (x4[Int.toNat x3]?) fun y0 =>
      iteP (within x3 (List.length x5)) (
        Option.bind (x5[Int.toNat x3]?) fun y1 =>
        iteP (!ByteArray.toList y0 == ByteArray.toList y1) (
          some (.inl (false))) (
          iteP (within x3 (List.length x6)) (
            Option.bind (x6[Int.toNat x3]?) fun y2 =>
            iteP (within x3 (List.length x7)) (
              Option.bind (x7[Int.toNat x3]?) fun y3 =>
              iteP (!ByteArray.toList y2 == ByteArray.toList y3) (
                some (.inl (false))) (
                Option.bind (f (x0, x1, x2, IntKind.wrap IntKind.i64 (x3 + (1 : Int)), x4, x5, x6, x7)) fun r => match r with | .inl y => some (.inl y) | .inr y => some (.inr y))) (
              none )) (
            none ))) (
        none )) (
      none )) (
    some (.inr ((x2, x1, x0))))
noncomputable def F3_2042 (N : Nat) : Nat → P3_2042 → Option R3_2042
  | 0, _ => none
  | k + 1, x => B3_2042 N (F3_2042 N k) x
noncomputable def C3_2042 (N : Nat) (k : Nat) : Cut := L3_2042.cut (F3_2042 N k)
theorem C3_2042_ok (N : Nat) (k : Nat) : CutAt Tryz.prog false Tryz.f3 [] 2042 (C3_2042 N k) :=
  L3_2042.loopT ownT mix (tab3_ok N) Tryz.f3 [] (cuts := []) trivial (by decide +kernel) (by kernel_rfl) (B3_2042 N) (F3_2042 N) (fun _ => rfl) (fun _ _ => rfl) (fun f x => by kernel_rfl) k
@[reducible] def L3_31 : LD := ⟨31, [2, 7, 0, 1], [(.ret, [6]), (.normal, [6])], ⟨[.str, .bool, .str, .str], []⟩, [(.ret, ⟨[.bool], []⟩)]⟩
noncomputable def F3_31 (N : Nat) : (ByteArray × Bool × ByteArray × ByteArray) → Option (Bool)
  | (x0, x1, x2, x3) =>
  Option.bind (F16 N x0) fun y0 =>
  Option.bind (F17 N x0) fun y1 =>
  iteP (y0.1 != y1.1) (
    some (false)) (
    iteP ((↑(List.length y0.2.1) : Int) != (↑(List.length y1.2.1) : Int)) (
      some (false)) (
      iteP ((↑(List.length y0.2.2) : Int) != (↑(List.length y1.2.2) : Int)) (
        some (false)) (
        Option.bind (F3_2042 N N (x3, x2, x1, (0 : Int), y0.2.1, y1.2.1, y0.2.2, y1.2.2)) fun y2 =>
        match y2 with
        | .inl y3 =>
          some (y3)
        | .inr y3 =>
          iteP y3.1 (
            Option.bind (F18 N (y3.2.1, y3.2.2)) fun y4 =>
            Option.bind (F19 N (y3.2.1, y3.2.2)) fun y5 =>
            some (ByteArray.toList y4 == ByteArray.toList y5)) (
            some (false)))))
noncomputable def C3_31 (N : Nat) (_ : Nat) : Cut := L3_31.cut (F3_31 N)
theorem C3_31_ok (N : Nat) (k : Nat) : CutAt Tryz.prog false Tryz.f3 [] 31 (C3_31 N k) :=
  L3_31.pieceT ownT mix (tab3_ok N) Tryz.f3 [] (cuts := [(2042, C3_2042 N N)]) ⟨C3_2042_ok N N, trivial⟩ (by decide +kernel) (by kernel_rfl) (F3_31 N) (fun x => by kernel_rfl)
@[reducible] def w3 : List SP := [⟨[.bool], []⟩]
noncomputable def F3 (N : Nat) : (ByteArray × ByteArray × ByteArray) → Option (Bool)
  | (x0, x1, x2) =>
  Option.bind (F15 N ()) fun y0 =>
  iteP (!y0) (
    some (false)) (
    iteP (decide ((↑(ByteArray.size x1) : Int) > (400 : Int))) (
      some (y0)) (
      iteP (decide ((↑(ByteArray.size x2) : Int) > (400 : Int))) (
        some (y0)) (
        Option.bind (F3_31 N (x2, y0, x0, x1)) fun y1 =>
        some (y1))))
noncomputable def T3 (N : Nat) : Pk → Tr Pk := tellS s3 w3 (F3 N)
theorem T3_ok (N : Nat) : FOK Tryz.prog (3) (T3 N) :=
  (fn_ok2 ownT mix (tab3_ok N) Tryz.func3 s3 w3 [] (cuts := [(2042, C3_2042 N N), (31, C3_31 N N)]) ⟨C3_2042_ok N N, C3_31_ok N N, trivial⟩ (fun _ => by kernel_rfl) (by decide +kernel) (F3 N) (fun x => by kernel_rfl))
end Go.Proofs.YtfcamlibbfnldaaGreat.Am
