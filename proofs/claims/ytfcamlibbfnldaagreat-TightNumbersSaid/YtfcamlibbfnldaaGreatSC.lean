/- The seat's Go functions come to the Lean functions written here, wherever these give an answer (part C). -/
import Derived.Test.YtfcamlibbfnldaaGreatSB
set_option linter.unusedSimpArgs false
set_option linter.unusedVariables false
set_option linter.unusedSectionVars false
set_option maxRecDepth 100000
namespace Go.Proofs.YtfcamlibbfnldaaGreat.Am
open Go.Am
@[reducible] def s365 : SP := ⟨[.adr 0 [], .int .i64], [.var 345 (.agg [.str, .int .i64, .int .i64])]⟩
noncomputable def tab365 (N : Nat) : List (Nat × (Pk → Tr Pk)) := [(362, T362 N), (329, T329 N), (330, T330 N), (368, T368 N), (349, T349 N)]
theorem tab365_ok (N : Nat) : TabOK Tryz.prog (tab365 N) := ⟨T362_ok N, T329_ok N, T330_ok N, T368_ok N, T349_ok N, trivial⟩
@[reducible] def L365_58 : LD := ⟨58, [17, 16, 15, 6, 0], [(.ret, [4, 5]), (.exit 0, [0, 6])], ⟨[.int .i64, .int .i64, .slp 1 (.c 0) .h, .sl 2, .adr 0 []], [.var 345 (.agg [.str, .int .i64, .int .i64]), .row (.int .i64) 3, .row (.int .i64) 3]⟩, [(.exit 0, ⟨[.adr 0 [], .sl 1], [.var 345 (.agg [.str, .int .i64, .int .i64]), .row (.int .i64) 3]⟩)]⟩
abbrev P365_58 : Type := Int × Int × Nat × ByteArray × Int × Int × (List Int) × (List Int)
abbrev R365_58 : Type := ByteArray × Int × Int × (List Int)
noncomputable def B365_58 (N : Nat) (f : P365_58 → Option R365_58) : P365_58 → Option R365_58
  | (x0, x1, x2, x3, x4, x5, x6, x7) =>
  iteP (decide (x0 < x1)) (
    iteP (within x0 x2) (
      Option.bind (x6[(0 : Nat) + Int.toNat x0]?) fun y0 =>
      Option.bind (F329 N ((3 : Int), x3, x4, x5)) fun y1 =>
      iteP (within y0 (List.length x7)) (
        Option.bind (x7[Int.toNat y0]?) fun y2 =>
        Option.bind (f (IntKind.wrap IntKind.i64 (x0 + (1 : Int)), x1, x2, y1.2.1, y1.2.2.1, y1.2.2.2, x6, List.set x7 (Int.toNat y0) y1.1)) fun r => some r) (
        none )) (
      none )) (
    some ((x3, x4, x5, x7)))
noncomputable def F365_58 (N : Nat) : Nat → P365_58 → Option R365_58
  | 0, _ => none
  | k + 1, x => B365_58 N (F365_58 N k) x
noncomputable def C365_58 (N : Nat) (k : Nat) : Cut := L365_58.cut (F365_58 N k)
theorem C365_58_ok (N : Nat) (k : Nat) : CutAt Tryz.prog false Tryz.f365 [0] 58 (C365_58 N k) :=
  L365_58.loopT ownT mix (tab365_ok N) Tryz.f365 [0] (cuts := []) trivial (by decide +kernel) (by kernel_rfl) (B365_58 N) (F365_58 N) (fun _ => rfl) (fun _ _ => rfl) (fun f x => by kernel_rfl) k
@[reducible] def w365 : List SP := [⟨[.tup [.nilp, .int .i64]], [.var 345 (.agg [.str, .int .i64, .int .i64])]⟩, ⟨[.tup [.adr 1 [], .int .i64]], [.var 345 (.agg [.str, .int .i64, .int .i64]), .var 397 (.agg [.arr (.int .i64) 16, .sl 2, .int .i64]), .row (.int .i64) 3]⟩]
noncomputable def F365 (N : Nat) : (Int × ByteArray × Int × Int) → Option (((Int × ByteArray × Int × Int) ⊕ (Int × ByteArray × Int × Int × (List Int) × Int × (List Int))))
  | (x0, x1, x2, x3) =>
  Option.bind (F362 N ()) fun y0 =>
  iteP (decide ((0 : Int) ≤ x0 ∧ x0 ≤ (↑(List.length y0) : Int))) (
    Option.bind (F365_58 N N ((0 : Int), (↑(Int.toNat x0 - (0 : Nat)) : Int), Int.toNat x0 - (0 : Nat), x1, x2, x3, y0, List.replicate (19 : Nat) (0 : Int))) fun y1 =>
    Option.bind (F330 N (y1.1, y1.2.1, y1.2.2.1, ())) fun y2 =>
    iteP (y2 != (0 : Int)) (
      some (.inl ((y2, y1.1, y1.2.1, y1.2.2.1)))) (
      Option.bind (F368 N y1.2.2.2) fun y3 =>
      match y3 with
      | .inl y4 =>
        Option.bind (F349 N y4) fun y5 =>
        some (.inl ((y5, y1.1, y1.2.1, y1.2.2.1)))
      | .inr y4 =>
        Option.bind (F349 N y4.1) fun y6 =>
        some (.inr ((y6, y1.1, y1.2.1, y1.2.2.1, y4.2.1, y4.2.2.1, y4.2.2.2))))) (
    none )
noncomputable def T365 (N : Nat) : Pk → Tr Pk := tellS s365 w365 (F365 N)
theorem T365_ok (N : Nat) : FOK Tryz.prog (365) (T365 N) :=
  (fn_ok2 ownT mix (tab365_ok N) Tryz.func365 s365 w365 [0] (cuts := [(58, C365_58 N N)]) ⟨C365_58_ok N N, trivial⟩ (fun _ => by kernel_rfl) (by decide +kernel) (F365 N) (fun x => by kernel_rfl))
@[reducible] def s366 : SP := ⟨[.nilp, .adr 0 []], [.var 345 (.agg [.str, .int .i64, .int .i64])]⟩
noncomputable def tab366 (N : Nat) : List (Nat × (Pk → Tr Pk)) := []
theorem tab366_ok (N : Nat) : TabOK Tryz.prog (tab366 N) := trivial
@[reducible] def L366_58 : LD := ⟨58, [8, 0, 7, 1, 9, 6], [(.ret, [4, 5])], ⟨[.int .i64, .nilp, .int .i64, .adr 0 [], .int .i64, .int .i64], [.var 345 (.agg [.str, .int .i64, .int .i64])]⟩, []⟩
abbrev P366_58 : Type := Int × Int × Int × Int × ByteArray × Int × Int
abbrev R366_58 : Type := Unit
noncomputable def B366_58 (N : Nat) (f : P366_58 → Option R366_58) : P366_58 → Option R366_58
  | (x0, x1, x2, x3, x4, x5, x6) =>
  none 
noncomputable def F366_58 (N : Nat) : Nat → P366_58 → Option R366_58
  | 0, _ => none
  | k + 1, x => B366_58 N (F366_58 N k) x
noncomputable def C366_58 (N : Nat) (k : Nat) : Cut := L366_58.cut (F366_58 N k)
theorem C366_58_ok (N : Nat) (k : Nat) : CutAt Tryz.prog false Tryz.f366 [0] 58 (C366_58 N k) :=
  L366_58.loopT ownT mix (tab366_ok N) Tryz.f366 [0] (cuts := []) trivial (by decide +kernel) (by kernel_rfl) (B366_58 N) (F366_58 N) (fun _ => rfl) (fun _ _ => rfl) (fun f x => by kernel_rfl) k
@[reducible] def w366 : List SP := []
noncomputable def F366 (N : Nat) : (ByteArray × Int × Int) → Option (Unit)
  | (x0, x1, x2) =>
  Option.bind (F366_58 N N ((0 : Int), (0 : Int), (1 : Int), (0 : Int), x0, x1, x2)) fun y0 =>
  none
noncomputable def T366 (N : Nat) : Pk → Tr Pk := tellS s366 w366 (F366 N)
theorem T366_ok (N : Nat) : FOK Tryz.prog (366) (T366 N) :=
  (fn_ok2 ownT mix (tab366_ok N) Tryz.func366 s366 w366 [0] (cuts := [(58, C366_58 N N)]) ⟨C366_58_ok N N, trivial⟩ (fun _ => by kernel_rfl) (by decide +kernel) (F366 N) (fun x => by kernel_rfl))
@[reducible] def s380 : SP := ⟨[.adr 0 [], .int .i64], [.var 397 (.agg [.arr (.int .i64) 16, .sl 1, .int .i64]), .row (.int .i64) 3]⟩
noncomputable def tab380 (N : Nat) : List (Nat × (Pk → Tr Pk)) := []
theorem tab380_ok (N : Nat) : TabOK Tryz.prog (tab380 N) := trivial
@[reducible] def L380_58 : LD := ⟨58, [5, 6, 1, 0], [(.ret, [4]), (.exit 0, [5])], ⟨[.int .i64, .int .i64, .int .i64, .adr 0 []], [.var 397 (.agg [.arr (.int .i64) 16, .sl 1, .int .i64]), .row (.int .i64) 3]⟩, [(.exit 0, ⟨[.int .i64], [.var 397 (.agg [.arr (.int .i64) 16, .sl 1, .int .i64]), .row (.int .i64) 3]⟩)]⟩
abbrev P380_58 : Type := Int × Int × Int × (List Int) × Int × (List Int)
abbrev R380_58 : Type := Int × (List Int) × Int × (List Int)
noncomputable def B380_58 (N : Nat) (f : P380_58 → Option R380_58) : P380_58 → Option R380_58
  | (x0, x1, x2, x3, x4, x5) =>
  iteP (decide (x1 > x2)) (
    iteP (within x1 (16 : Nat)) (
      Option.bind (x3[Int.toNat x1]?) fun y0 =>
      Option.bind (f (IntKind.wrap IntKind.i64 (Int.tdiv (IntKind.wrap IntKind.i64 (IntKind.wrap IntKind.i64 (x0 + y0) + (1 : Int))) (2 : Int)), IntKind.wrap IntKind.i64 (x1 - (1 : Int)), x2, x3, x4, x5)) fun r => some r) (
      none )) (
    some ((x0, x3, x4, x5)))
noncomputable def F380_58 (N : Nat) : Nat → P380_58 → Option R380_58
  | 0, _ => none
  | k + 1, x => B380_58 N (F380_58 N k) x
noncomputable def C380_58 (N : Nat) (k : Nat) : Cut := L380_58.cut (F380_58 N k)
theorem C380_58_ok (N : Nat) (k : Nat) : CutAt Tryz.prog false Tryz.f380 [0] 58 (C380_58 N k) :=
  L380_58.loopT ownT mix (tab380_ok N) Tryz.f380 [0] (cuts := []) trivial (by decide +kernel) (by kernel_rfl) (B380_58 N) (F380_58 N) (fun _ => rfl) (fun _ _ => rfl) (fun f x => by kernel_rfl) k
@[reducible] def w380 : List SP := [⟨[.int .i64], [.var 397 (.agg [.arr (.int .i64) 16, .sl 1, .int .i64]), .row (.int .i64) 3]⟩]
noncomputable def F380 (N : Nat) : (Int × (List Int) × Int × (List Int)) → Option (Int × (List Int) × Int × (List Int))
  | (x0, x1, x2, x3) =>
  Option.bind (F380_58 N N ((0 : Int), x2, x0, x1, x2, x3)) fun y0 =>
  some ((y0.1, y0.2.1, y0.2.2.1, y0.2.2.2))
noncomputable def T380 (N : Nat) : Pk → Tr Pk := tellS s380 w380 (F380 N)
theorem T380_ok (N : Nat) : FOK Tryz.prog (380) (T380 N) :=
  (fn_ok2 ownT mix (tab380_ok N) Tryz.func380 s380 w380 [0] (cuts := [(58, C380_58 N N)]) ⟨C380_58_ok N N, trivial⟩ (fun _ => by kernel_rfl) (by decide +kernel) (F380 N) (fun x => by kernel_rfl))
@[reducible] def s366a : SP := ⟨[.adr 0 [], .adr 1 []], [.var 397 (.agg [.arr (.int .i64) 16, .sl 2, .int .i64]), .var 345 (.agg [.str, .int .i64, .int .i64]), .row (.int .i64) 3]⟩
noncomputable def tab366a (N : Nat) : List (Nat × (Pk → Tr Pk)) := [(329, T329 N), (330, T330 N), (380, T380 N)]
theorem tab366a_ok (N : Nat) : TabOK Tryz.prog (tab366a N) := ⟨T329_ok N, T330_ok N, T380_ok N, trivial⟩
@[reducible] def L366a_58 : LD := ⟨58, [8, 0, 7, 1, 9, 6], [(.ret, [4, 5]), (.exit 0, [])], ⟨[.int .i64, .adr 0 [], .int .i64, .adr 1 [], .int .i64, .int .i64], [.var 397 (.agg [.arr (.int .i64) 16, .sl 2, .int .i64]), .var 345 (.agg [.str, .int .i64, .int .i64]), .row (.int .i64) 3]⟩, [(.ret, ⟨[.int .i64, .int .i64], [.var 397 (.agg [.arr (.int .i64) 16, .sl 2, .int .i64]), .var 345 (.agg [.str, .int .i64, .int .i64]), .row (.int .i64) 3]⟩), (.exit 0, ⟨[], [.var 397 (.agg [.arr (.int .i64) 16, .sl 2, .int .i64]), .var 345 (.agg [.str, .int .i64, .int .i64]), .row (.int .i64) 3]⟩)]⟩
abbrev P366a_58 : Type := Int × Int × Int × Int × (List Int) × Int × ByteArray × Int × Int × (List Int)
abbrev R366a_58 : Type := ((Int × Int × (List Int) × Int × ByteArray × Int × Int × (List Int)) ⊕ ((List Int) × Int × ByteArray × Int × Int × (List Int)))
noncomputable def B366a_58 (N : Nat) (f : P366a_58 → Option R366a_58) : P366a_58 → Option R366a_58
  | (x0, x1, x2, x3, x4, x5, x6, x7, x8, x9) =>
  iteP (decide (x2 ≤ x5)) (
    Option.bind (F329 N ((1 : Int), x6, x7, x8)) fun y0 =>
    Option.bind (F330 N (y0.2.1, y0.2.2.1, y0.2.2.2, ())) fun y1 =>
    iteP (y1 != (0 : Int)) (
      some (.inl (((0 : Int), y1, x4, x5, y0.2.1, y0.2.2.1, y0.2.2.2, x9)))) (
      iteP (within x2 (16 : Nat)) (
        Option.bind (x4[Int.toNat x2]?) fun y2 =>
        iteP (decide (IntKind.wrap IntKind.i64 (IntKind.wrap IntKind.i64 (↑(BitVec.toNat (BitVec.ofInt (64 : Nat) x3 ||| BitVec.ofInt (64 : Nat) y0.1)) : Int) - x1) < y2)) (
          iteP (within (IntKind.wrap IntKind.i64 (x0 + IntKind.wrap IntKind.i64 (IntKind.wrap IntKind.i64 (↑(BitVec.toNat (BitVec.ofInt (64 : Nat) x3 ||| BitVec.ofInt (64 : Nat) y0.1)) : Int) - x1))) (List.length x9)) (
            Option.bind (x9[Int.toNat (IntKind.wrap IntKind.i64 (x0 + IntKind.wrap IntKind.i64 (IntKind.wrap IntKind.i64 (↑(BitVec.toNat (BitVec.ofInt (64 : Nat) x3 ||| BitVec.ofInt (64 : Nat) y0.1)) : Int) - x1)))]?) fun y3 =>
            some (.inl ((y3, (0 : Int), x4, x5, y0.2.1, y0.2.2.1, y0.2.2.2, x9)))) (
            none )) (
          iteP (within x2 (16 : Nat)) (
            Option.bind (x4[Int.toNat x2]?) fun y4 =>
            iteP (within x2 (16 : Nat)) (
              Option.bind (x4[Int.toNat x2]?) fun y5 =>
              Option.bind (F380 N (x2, x4, x5, x9)) fun y6 =>
              iteP (decide (IntKind.wrap IntKind.i64 (Int.fdiv (IntKind.wrap IntKind.i64 (IntKind.wrap IntKind.i64 (↑(BitVec.toNat (BitVec.ofInt (64 : Nat) x3 ||| BitVec.ofInt (64 : Nat) y0.1)) : Int) * (2 : Int))) (2 : Int) - Int.fdiv (IntKind.wrap IntKind.i64 (IntKind.wrap IntKind.i64 (x1 + y5) * (2 : Int))) (2 : Int)) ≥ y6.1)) (
                some (.inl (((0 : Int), (3 : Int), y6.2.1, y6.2.2.1, y0.2.1, y0.2.2.1, y0.2.2.2, y6.2.2.2)))) (
                Option.bind (f (IntKind.wrap IntKind.i64 (x0 + y4), IntKind.wrap IntKind.i64 (IntKind.wrap IntKind.i64 (x1 + y5) * (2 : Int)), IntKind.wrap IntKind.i64 (x2 + (1 : Int)), IntKind.wrap IntKind.i64 (IntKind.wrap IntKind.i64 (↑(BitVec.toNat (BitVec.ofInt (64 : Nat) x3 ||| BitVec.ofInt (64 : Nat) y0.1)) : Int) * (2 : Int)), y6.2.1, y6.2.2.1, y0.2.1, y0.2.2.1, y0.2.2.2, y6.2.2.2)) fun r => match r with | .inl y => some (.inl y) | .inr y => some (.inr y))) (
              none )) (
            none ))) (
        none ))) (
    some (.inr ((x4, x5, x6, x7, x8, x9))))
noncomputable def F366a_58 (N : Nat) : Nat → P366a_58 → Option R366a_58
  | 0, _ => none
  | k + 1, x => B366a_58 N (F366a_58 N k) x
noncomputable def C366a_58 (N : Nat) (k : Nat) : Cut := L366a_58.cut (F366a_58 N k)
theorem C366a_58_ok (N : Nat) (k : Nat) : CutAt Tryz.prog false Tryz.f366 [0, 1] 58 (C366a_58 N k) :=
  L366a_58.loopT ownT mix (tab366a_ok N) Tryz.f366 [0, 1] (cuts := []) trivial (by decide +kernel) (by kernel_rfl) (B366a_58 N) (F366a_58 N) (fun _ => rfl) (fun _ _ => rfl) (fun f x => by kernel_rfl) k
@[reducible] def w366a : List SP := [⟨[.tup [.int .i64, .int .i64]], [.var 397 (.agg [.arr (.int .i64) 16, .sl 2, .int .i64]), .var 345 (.agg [.str, .int .i64, .int .i64]), .row (.int .i64) 3]⟩]
noncomputable def F366a (N : Nat) : ((List Int) × Int × ByteArray × Int × Int × (List Int)) → Option (Int × Int × (List Int) × Int × ByteArray × Int × Int × (List Int))
  | (x0, x1, x2, x3, x4, x5) =>
  Option.bind (F366a_58 N N ((0 : Int), (0 : Int), (1 : Int), (0 : Int), x0, x1, x2, x3, x4, x5)) fun y0 =>
  match y0 with
  | .inl (y1_0, y1_1, y1_2, y1_3, y1_4, y1_5, y1_6, y1_7) =>
    some ((y1_0, y1_1, y1_2, y1_3, y1_4, y1_5, y1_6, y1_7))
  | .inr (y1_0, y1_1, y1_2, y1_3, y1_4, y1_5) =>
    some (((0 : Int), (3 : Int), y1_0, y1_1, y1_2, y1_3, y1_4, y1_5))
noncomputable def T366a (N : Nat) : Pk → Tr Pk := tellS s366a w366a (F366a N)
theorem T366a_ok (N : Nat) : FOK Tryz.prog (366) (T366a N) :=
  (fn_ok2 ownT mix (tab366a_ok N) Tryz.func366 s366a w366a [0, 1] (cuts := [(58, C366a_58 N N)]) ⟨C366a_58_ok N N, trivial⟩ (fun _ => by kernel_rfl) (by decide +kernel) (F366a N) (fun x => by kernel_rfl))
@[reducible] def s367 : SP := ⟨[.adr 0 [], .int .i64, .ro (.int .i64)], [.var 345 (.agg [.str, .int .i64, .int .i64])]⟩
noncomputable def tab367 (N : Nat) : List (Nat × (Pk → Tr Pk)) := [(329, T329 N), (330, T330 N)]
theorem tab367_ok (N : Nat) : TabOK Tryz.prog (tab367 N) := ⟨T329_ok N, T330_ok N, trivial⟩
@[reducible] def w367 : List SP := [⟨[.tup [.int .i64, .int .i64, .int .i64]], [.var 345 (.agg [.str, .int .i64, .int .i64])]⟩]
noncomputable def F367 (N : Nat) : (Int × (List Int) × ByteArray × Int × Int) → Option (Int × Int × Int × ByteArray × Int × Int)
  | (x0, x1, x2, x3, x4) =>
  iteP (x0 == (16 : Int)) (
    iteP ((↑(List.length x1) : Int) == (0 : Int)) (
      some (((0 : Int), (0 : Int), (80 : Int), x2, x3, x4))) (
      iteP (within (IntKind.wrap IntKind.i64 ((↑(List.length x1) : Int) - (1 : Int))) (List.length x1)) (
        Option.bind (x1[Int.toNat (IntKind.wrap IntKind.i64 ((↑(List.length x1) : Int) - (1 : Int)))]?) fun y0 =>
        Option.bind (F329 N ((2 : Int), x2, x3, x4)) fun y1 =>
        Option.bind (F330 N (y1.2.1, y1.2.2.1, y1.2.2.2, ())) fun y2 =>
        some ((y0, IntKind.wrap IntKind.i64 ((3 : Int) + y1.1), y2, y1.2.1, y1.2.2.1, y1.2.2.2))) (
        none ))) (
    iteP (x0 == (17 : Int)) (
      Option.bind (F329 N ((3 : Int), x2, x3, x4)) fun y3 =>
      Option.bind (F330 N (y3.2.1, y3.2.2.1, y3.2.2.2, ())) fun y4 =>
      some (((0 : Int), IntKind.wrap IntKind.i64 ((3 : Int) + y3.1), y4, y3.2.1, y3.2.2.1, y3.2.2.2))) (
      iteP (x0 == (18 : Int)) (
        Option.bind (F329 N ((7 : Int), x2, x3, x4)) fun y5 =>
        Option.bind (F330 N (y5.2.1, y5.2.2.1, y5.2.2.2, ())) fun y6 =>
        some (((0 : Int), IntKind.wrap IntKind.i64 ((11 : Int) + y5.1), y6, y5.2.1, y5.2.2.1, y5.2.2.2))) (
        Option.bind (F330 N (x2, x3, x4, ())) fun y7 =>
        some ((x0, (1 : Int), y7, x2, x3, x4)))))
noncomputable def T367 (N : Nat) : Pk → Tr Pk := tellS s367 w367 (F367 N)
theorem T367_ok (N : Nat) : FOK Tryz.prog (367) (T367 N) :=
  (fn_ok2 ownT mix (tab367_ok N) Tryz.func367 s367 w367 [0] (cuts := []) trivial (fun _ => by kernel_rfl) (by decide +kernel) (F367 N) (fun x => by kernel_rfl))
@[reducible] def s347 : SP := ⟨[.adr 0 []], [.var 345 (.agg [.str, .int .i64, .int .i64])]⟩
noncomputable def tab347 (N : Nat) : List (Nat × (Pk → Tr Pk)) := [(329, T329 N), (330, T330 N), (365, T365 N), (366, orT s366.I (T366 N) (T366a N)), (349, T349 N), (367, T367 N)]
theorem tab347_ok (N : Nat) : TabOK Tryz.prog (tab347 N) := ⟨T329_ok N, T330_ok N, T365_ok N, orT_ok (T366_ok N) (T366a_ok N), T349_ok N, T367_ok N, trivial⟩
@[reducible] def L347_508 : LD := ⟨508, [9, 5, 6, 0, 10], [(.ret, [2, 3, 4]), (.exit 1, [10, 5])], ⟨[.nilp, .int .i64, .int .i64, .adr 0 [], .sl 1], [.var 345 (.agg [.str, .int .i64, .int .i64]), .row (.int .i64) 3]⟩, [(.exit 1, ⟨[.sl 1, .int .i64], [.var 345 (.agg [.str, .int .i64, .int .i64]), .row (.int .i64) 3]⟩)]⟩
abbrev P347_508 : Type := Int × Int × ByteArray × Int × Int × (List Int)
abbrev R347_508 : Type := Int × ByteArray × Int × Int × (List Int)
noncomputable def B347_508 (N : Nat) (f : P347_508 → Option R347_508) : P347_508 → Option R347_508
  | (x0, x1, x2, x3, x4, x5) =>
  iteP (decide ((↑(List.length x5) : Int) < IntKind.wrap IntKind.i64 (x0 + x1))) (
    Option.bind (F366 N (x2, x3, x4)) fun y0 =>
    none) (
    some ((x0, x2, x3, x4, x5)))
noncomputable def F347_508 (N : Nat) : Nat → P347_508 → Option R347_508
  | 0, _ => none
  | k + 1, x => B347_508 N (F347_508 N k) x
noncomputable def C347_508 (N : Nat) (k : Nat) : Cut := L347_508.cut (F347_508 N k)
theorem C347_508_ok (N : Nat) (k : Nat) : CutAt Tryz.prog false Tryz.f347 [0] 508 (C347_508 N k) :=
  L347_508.loopT ownT mix (tab347_ok N) Tryz.f347 [0] (cuts := []) trivial (by decide +kernel) (by kernel_rfl) (B347_508 N) (F347_508 N) (fun _ => rfl) (fun _ _ => rfl) (fun f x => by kernel_rfl) k
@[reducible] def L347_260286 : LD := ⟨260286, [10, 84, 83, 0, 6, 5, 9, 13], [(.ret, [2, 3, 4]), (.exit 4, [9, 5, 6, 0, 10]), (.exit 2, [9, 5, 6, 0, 10]), (.exit 1, [10, 5])], ⟨[.sl 1, .int .i64, .int .i64, .adr 0 [], .int .i64, .int .i64, .adr 2 [], .int .i64], [.var 345 (.agg [.str, .int .i64, .int .i64]), .row (.int .i64) 3, .var 397 (.agg [.arr (.int .i64) 16, .sl 3, .int .i64]), .row (.int .i64) 3]⟩, [(.exit 4, ⟨[.adr 1 [], .int .i64, .int .i64, .adr 0 [], .sl 2], [.var 345 (.agg [.str, .int .i64, .int .i64]), .var 397 (.agg [.arr (.int .i64) 16, .sl 3, .int .i64]), .row (.int .i64) 3, .row (.int .i64) 3]⟩)]⟩
abbrev P347_260286 : Type := Int × Int × Int × Int × Int × ByteArray × Int × Int × (List Int) × (List Int) × Int × (List Int)
abbrev R347_260286 : Type := Int × Int × ByteArray × Int × Int × (List Int) × Int × (List Int) × (List Int)
noncomputable def B347_260286 (N : Nat) (f : P347_260286 → Option R347_260286) : P347_260286 → Option R347_260286
  | (x0, x1, x2, x3, x4, x5, x6, x7, x8, x9, x10, x11) =>
  iteP (decide (x0 < x1)) (
    iteP (decide ((List.length x8 + List.length [x4]) * (8 : Nat) ≤ (140737488355328 : Nat) ∧ List.length x8 + List.length [x4] ≤ (140737488355328 : Nat))) (
      Option.bind (f (IntKind.wrap IntKind.i64 (x0 + (1 : Int)), x1, x2, x3, x4, x5, x6, x7, x8 ++ [x4], x9, x10, x11)) fun r => some r) (
      none )) (
    some ((x3, x2, x5, x6, x7, x9, x10, x8, x11)))
noncomputable def F347_260286 (N : Nat) : Nat → P347_260286 → Option R347_260286
  | 0, _ => none
  | k + 1, x => B347_260286 N (F347_260286 N k) x
noncomputable def C347_260286 (N : Nat) (k : Nat) : Cut := L347_260286.cut (F347_260286 N k)
theorem C347_260286_ok (N : Nat) (k : Nat) : CutAt Tryz.prog false Tryz.f347 [0] 260286 (C347_260286 N k) :=
  L347_260286.loopT ownT mix (tab347_ok N) Tryz.f347 [0] (cuts := [(508, C347_508 N N)]) ⟨C347_508_ok N N, trivial⟩ (by decide +kernel) (by kernel_rfl) (B347_260286 N) (F347_260286 N) (fun _ => rfl) (fun _ _ => rfl) (fun f x => by kernel_rfl) k
@[reducible] def L347_508b : LD := ⟨508, [9, 5, 6, 0, 10], [(.ret, [2, 3, 4]), (.exit 1, [10, 5])], ⟨[.adr 1 [], .int .i64, .int .i64, .adr 0 [], .sl 2], [.var 345 (.agg [.str, .int .i64, .int .i64]), .var 397 (.agg [.arr (.int .i64) 16, .sl 3, .int .i64]), .row (.int .i64) 3, .row (.int .i64) 3]⟩, [(.ret, ⟨[.sl 1, .sl 2, .int .i64], [.var 345 (.agg [.str, .int .i64, .int .i64]), .row (.int .i64) 3, .row (.int .i64) 3]⟩), (.exit 1, ⟨[.sl 1, .int .i64], [.var 345 (.agg [.str, .int .i64, .int .i64]), .row (.int .i64) 3]⟩)]⟩
abbrev P347_508b : Type := Int × Int × ByteArray × Int × Int × (List Int) × Int × (List Int) × (List Int)
abbrev R347_508b : Type := ((Int × ByteArray × Int × Int × (List Int) × (List Int)) ⊕ (Int × ByteArray × Int × Int × (List Int)))
noncomputable def B347_508b (N : Nat) (f : P347_508b → Option R347_508b) : P347_508b → Option R347_508b
  | (x0, x1, x2, x3, x4, x5, x6, x7, x8) =>
  iteP (decide ((↑(List.length x7) : Int) < IntKind.wrap IntKind.i64 (x0 + x1))) (
    Option.bind (F366a N (x5, x6, x2, x3, x4, x8)) fun (y0_0, y0_1, y0_2, y0_3, y0_4, y0_5, y0_6, y0_7) =>
    iteP (y0_1 != (0 : Int)) (
      Option.bind (F349 N y0_1) fun y1 =>
      some (.inl ((y1, y0_4, y0_5, y0_6, [], [])))) (
      Option.bind (F367 N (y0_0, x7, y0_4, y0_5, y0_6)) fun (y2_0, y2_1, y2_2, y2_3, y2_4, y2_5) =>
      iteP (y2_2 != (0 : Int)) (
        some (.inl ((y2_2, y2_3, y2_4, y2_5, [], [])))) (
        iteP (decide (IntKind.wrap IntKind.i64 ((↑(List.length x7) : Int) + y2_1) > IntKind.wrap IntKind.i64 (x0 + x1))) (
          some (.inl (((80 : Int), y2_3, y2_4, y2_5, [], [])))) (
          Option.bind (F347_260286 N N ((0 : Int), y2_1, x1, x0, y2_0, y2_3, y2_4, y2_5, x7, y0_2, y0_3, y0_7)) fun (y3_0, y3_1, y3_2, y3_3, y3_4, y3_5, y3_6, y3_7, y3_8) =>
          Option.bind (f (y3_0, y3_1, y3_2, y3_3, y3_4, y3_5, y3_6, y3_7, y3_8)) fun r => match r with | .inl y => some (.inl y) | .inr y => some (.inr y))))) (
    some (.inr ((x0, x2, x3, x4, x7))))
noncomputable def F347_508b (N : Nat) : Nat → P347_508b → Option R347_508b
  | 0, _ => none
  | k + 1, x => B347_508b N (F347_508b N k) x
noncomputable def C347_508b (N : Nat) (k : Nat) : Cut := L347_508b.cut (F347_508b N k)
theorem C347_508b_ok (N : Nat) (k : Nat) : CutAt Tryz.prog false Tryz.f347 [0] 508 (C347_508b N k) :=
  L347_508b.loopT ownT mix (tab347_ok N) Tryz.f347 [0] (cuts := [(508, C347_508 N N), (260286, C347_260286 N N)]) ⟨C347_508_ok N N, C347_260286_ok N N, trivial⟩ (by decide +kernel) (by kernel_rfl) (B347_508b N) (F347_508b N) (fun _ => rfl) (fun _ _ => rfl) (fun f x => by kernel_rfl) k
@[reducible] def w347 : List SP := [⟨[.tup [.sl 1, .sl 2, .int .i64]], [.var 345 (.agg [.str, .int .i64, .int .i64]), .row (.int .i64) 3, .row (.int .i64) 3]⟩, ⟨[.tup [.slp 1 (.c 0) .h, .slp 1 .h .h, .int .i64]], [.var 345 (.agg [.str, .int .i64, .int .i64]), .row (.int .i64) 3]⟩]
noncomputable def F347 (N : Nat) : (ByteArray × Int × Int) → Option (((Int × ByteArray × Int × Int × (List Int) × (List Int)) ⊕ (Nat × Nat × Nat × Int × ByteArray × Int × Int × (List Int))))
  | (x0, x1, x2) =>
  Option.bind (F329 N ((5 : Int), x0, x1, x2)) fun y0 =>
  Option.bind (F329 N ((5 : Int), y0.2.1, y0.2.2.1, y0.2.2.2)) fun y1 =>
  Option.bind (F329 N ((4 : Int), y1.2.1, y1.2.2.1, y1.2.2.2)) fun y2 =>
  Option.bind (F330 N (y2.2.1, y2.2.2.1, y2.2.2.2, ())) fun y3 =>
  iteP (y3 != (0 : Int)) (
    some (.inl ((y3, y2.2.1, y2.2.2.1, y2.2.2.2, [], [])))) (
    iteP (decide (IntKind.wrap IntKind.i64 (y0.1 + (257 : Int)) > (286 : Int))) (
      some (.inl (((80 : Int), y2.2.1, y2.2.2.1, y2.2.2.2, [], [])))) (
      iteP (decide (IntKind.wrap IntKind.i64 (y1.1 + (1 : Int)) > (30 : Int))) (
        some (.inl (((80 : Int), y2.2.1, y2.2.2.1, y2.2.2.2, [], [])))) (
        Option.bind (F365 N (IntKind.wrap IntKind.i64 (y2.1 + (4 : Int)), y2.2.1, y2.2.2.1, y2.2.2.2)) fun y4 =>
        match y4 with
        | .inl y5 =>
          iteP (y5.1 != (0 : Int)) (
            some (.inl ((y5.1, y5.2.1, y5.2.2.1, y5.2.2.2, [], [])))) (
            Option.bind (F347_508 N N (IntKind.wrap IntKind.i64 (y0.1 + (257 : Int)), IntKind.wrap IntKind.i64 (y1.1 + (1 : Int)), y5.2.1, y5.2.2.1, y5.2.2.2, [])) fun y6 =>
            iteP (decide ((0 : Int) ≤ y6.1 ∧ y6.1 ≤ y6.1 ∧ y6.1 ≤ (↑(List.length y6.2.2.2.2) : Int))) (
              iteP (decide ((0 : Int) ≤ y6.1 ∧ y6.1 ≤ (↑(List.length y6.2.2.2.2) : Int))) (
                some (.inr ((Int.toNat y6.1, Int.toNat y6.1, List.length y6.2.2.2.2 - Int.toNat y6.1, (0 : Int), y6.2.1, y6.2.2.1, y6.2.2.2.1, y6.2.2.2.2)))) (
                none )) (
              none ))
        | .inr (y5_0, y5_1, y5_2, y5_3, y5_4, y5_5, y5_6) =>
          iteP (y5_0 != (0 : Int)) (
            some (.inl ((y5_0, y5_1, y5_2, y5_3, [], [])))) (
            Option.bind (F347_508b N N (IntKind.wrap IntKind.i64 (y0.1 + (257 : Int)), IntKind.wrap IntKind.i64 (y1.1 + (1 : Int)), y5_1, y5_2, y5_3, y5_4, y5_5, [], y5_6)) fun y7 =>
            match y7 with
            | .inl (y8_0, y8_1, y8_2, y8_3, y8_4, y8_5) =>
              some (.inl ((y8_0, y8_1, y8_2, y8_3, y8_4, y8_5)))
            | .inr y8 =>
              iteP (decide ((0 : Int) ≤ y8.1 ∧ y8.1 ≤ y8.1 ∧ y8.1 ≤ (↑(List.length y8.2.2.2.2) : Int))) (
                iteP (decide ((0 : Int) ≤ y8.1 ∧ y8.1 ≤ (↑(List.length y8.2.2.2.2) : Int))) (
                  some (.inr ((Int.toNat y8.1, Int.toNat y8.1, List.length y8.2.2.2.2 - Int.toNat y8.1, (0 : Int), y8.2.1, y8.2.2.1, y8.2.2.2.1, y8.2.2.2.2)))) (
                  none )) (
                none )))))
noncomputable def T347 (N : Nat) : Pk → Tr Pk := tellS s347 w347 (F347 N)
theorem T347_ok (N : Nat) : FOK Tryz.prog (347) (T347 N) :=
  (fn_ok2 ownT mix (tab347_ok N) Tryz.func347 s347 w347 [0] (cuts := [(508, orC L347_508.s.I (C347_508 N N) (C347_508b N N)), (260286, C347_260286 N N)]) ⟨fun c' h => orC_ok (C347_508_ok N N c' h) (C347_508b_ok N N c' h) rfl rfl, C347_260286_ok N N, trivial⟩ (fun _ => by kernel_rfl) (by decide +kernel) (F347 N) (fun x => by kernel_rfl))
@[reducible] def s381 : SP := ⟨[.adr 0 [], .int .i64, .fn 373], [.var 345 (.agg [.str, .int .i64, .int .i64])]⟩
noncomputable def tab381 (N : Nat) : List (Nat × (Pk → Tr Pk)) := [(373, T373 N), (329, T329 N), (330, T330 N)]
theorem tab381_ok (N : Nat) : TabOK Tryz.prog (tab381 N) := ⟨T373_ok N, T329_ok N, T330_ok N, trivial⟩
@[reducible] def w381 : List SP := [⟨[.tup [.int .i64, .int .i64]], [.var 345 (.agg [.str, .int .i64, .int .i64])]⟩]
noncomputable def F381 (N : Nat) : (Int × ByteArray × Int × Int) → Option (Int × Int × ByteArray × Int × Int)
  | (x0, x1, x2, x3) =>
  Option.bind (F373 N x0) fun y0 =>
  Option.bind (F329 N (y0.2, x1, x2, x3)) fun y1 =>
  Option.bind (F330 N (y1.2.1, y1.2.2.1, y1.2.2.2, ())) fun y2 =>
  some ((IntKind.wrap IntKind.i64 (y0.1 + y1.1), y2, y1.2.1, y1.2.2.1, y1.2.2.2))
noncomputable def T381 (N : Nat) : Pk → Tr Pk := tellS s381 w381 (F381 N)
theorem T381_ok (N : Nat) : FOK Tryz.prog (381) (T381 N) :=
  (fn_ok2 ownT mix (tab381_ok N) Tryz.func381 s381 w381 [0] (cuts := []) trivial (fun _ => by kernel_rfl) (by decide +kernel) (F381 N) (fun x => by kernel_rfl))
@[reducible] def s369 : SP := ⟨[.adr 0 [], .int .i64, .nilp], [.var 345 (.agg [.str, .int .i64, .int .i64])]⟩
noncomputable def tab369 (N : Nat) : List (Nat × (Pk → Tr Pk)) := [(381, T381 N), (366, T366 N)]
theorem tab369_ok (N : Nat) : TabOK Tryz.prog (tab369 N) := ⟨T381_ok N, T366_ok N, trivial⟩
@[reducible] def w369 : List SP := [⟨[.tup [.agg [.int .i64, .int .i64, .int .i64], .int .i64]], [.var 345 (.agg [.str, .int .i64, .int .i64])]⟩]
noncomputable def F369 (N : Nat) : (Int × ByteArray × Int × Int) → Option (Int × Int × Int × Int × ByteArray × Int × Int)
  | (x0, x1, x2, x3) =>
  iteP (decide (x0 > (285 : Int))) (
    some (((0 : Int), (0 : Int), (0 : Int), (3 : Int), x1, x2, x3))) (
    Option.bind (F381 N (x0, x1, x2, x3)) fun y0 =>
    iteP (y0.2.1 != (0 : Int)) (
      some (((0 : Int), (0 : Int), (0 : Int), y0.2.1, y0.2.2.1, y0.2.2.2.1, y0.2.2.2.2))) (
      Option.bind (F366 N (y0.2.2.1, y0.2.2.2.1, y0.2.2.2.2)) fun y1 =>
      none))
noncomputable def T369 (N : Nat) : Pk → Tr Pk := tellS s369 w369 (F369 N)
theorem T369_ok (N : Nat) : FOK Tryz.prog (369) (T369 N) :=
  (fn_ok2 ownT mix (tab369_ok N) Tryz.func369 s369 w369 [0] (cuts := []) trivial (fun _ => by kernel_rfl) (by decide +kernel) (F369 N) (fun x => by kernel_rfl))
@[reducible] def s381a : SP := ⟨[.adr 0 [], .int .i64, .fn 374], [.var 345 (.agg [.str, .int .i64, .int .i64])]⟩
noncomputable def tab381a (N : Nat) : List (Nat × (Pk → Tr Pk)) := [(374, T374 N), (329, T329 N), (330, T330 N)]
theorem tab381a_ok (N : Nat) : TabOK Tryz.prog (tab381a N) := ⟨T374_ok N, T329_ok N, T330_ok N, trivial⟩
@[reducible] def w381a : List SP := [⟨[.tup [.int .i64, .int .i64]], [.var 345 (.agg [.str, .int .i64, .int .i64])]⟩]
noncomputable def F381a (N : Nat) : (Int × ByteArray × Int × Int) → Option (Int × Int × ByteArray × Int × Int)
  | (x0, x1, x2, x3) =>
  Option.bind (F374 N x0) fun y0 =>
  Option.bind (F329 N (y0.2, x1, x2, x3)) fun y1 =>
  Option.bind (F330 N (y1.2.1, y1.2.2.1, y1.2.2.2, ())) fun y2 =>
  some ((IntKind.wrap IntKind.i64 (y0.1 + y1.1), y2, y1.2.1, y1.2.2.1, y1.2.2.2))
noncomputable def T381a (N : Nat) : Pk → Tr Pk := tellS s381a w381a (F381a N)
theorem T381a_ok (N : Nat) : FOK Tryz.prog (381) (T381a N) :=
  (fn_ok2 ownT mix (tab381a_ok N) Tryz.func381 s381a w381a [0] (cuts := []) trivial (fun _ => by kernel_rfl) (by decide +kernel) (F381a N) (fun x => by kernel_rfl))
@[reducible] def s369a : SP := ⟨[.adr 0 [], .int .i64, .adr 1 []], [.var 345 (.agg [.str, .int .i64, .int .i64]), .var 397 (.agg [.arr (.int .i64) 16, .sl 2, .int .i64]), .row (.int .i64) 3]⟩
noncomputable def tab369a (N : Nat) : List (Nat × (Pk → Tr Pk)) := [(381, orT s381.I (T381 N) (T381a N)), (366, T366a N)]
theorem tab369a_ok (N : Nat) : TabOK Tryz.prog (tab369a N) := ⟨orT_ok (T381_ok N) (T381a_ok N), T366a_ok N, trivial⟩
@[reducible] def w369a : List SP := [⟨[.tup [.agg [.int .i64, .int .i64, .int .i64], .int .i64]], [.var 345 (.agg [.str, .int .i64, .int .i64]), .var 397 (.agg [.arr (.int .i64) 16, .sl 2, .int .i64]), .row (.int .i64) 3]⟩]
noncomputable def F369a (N : Nat) : (Int × ByteArray × Int × Int × (List Int) × Int × (List Int)) → Option (Int × Int × Int × Int × ByteArray × Int × Int × (List Int) × Int × (List Int))
  | (x0, x1, x2, x3, x4, x5, x6) =>
  iteP (decide (x0 > (285 : Int))) (
    some (((0 : Int), (0 : Int), (0 : Int), (3 : Int), x1, x2, x3, x4, x5, x6))) (
    Option.bind (F381 N (x0, x1, x2, x3)) fun y0 =>
    iteP (y0.2.1 != (0 : Int)) (
      some (((0 : Int), (0 : Int), (0 : Int), y0.2.1, y0.2.2.1, y0.2.2.2.1, y0.2.2.2.2, x4, x5, x6))) (
      Option.bind (F366a N (x4, x5, y0.2.2.1, y0.2.2.2.1, y0.2.2.2.2, x6)) fun (y1_0, y1_1, y1_2, y1_3, y1_4, y1_5, y1_6, y1_7) =>
      iteP (y1_1 != (0 : Int)) (
        some (((0 : Int), (0 : Int), (0 : Int), y1_1, y1_4, y1_5, y1_6, y1_2, y1_3, y1_7))) (
        iteP (decide (y1_0 ≥ (30 : Int))) (
          some (((0 : Int), (0 : Int), (0 : Int), (3 : Int), y1_4, y1_5, y1_6, y1_2, y1_3, y1_7))) (
          Option.bind (F381a N (y1_0, y1_4, y1_5, y1_6)) fun y2 =>
          some (((0 : Int), y0.1, y2.1, y2.2.1, y2.2.2.1, y2.2.2.2.1, y2.2.2.2.2, y1_2, y1_3, y1_7))))))
noncomputable def T369a (N : Nat) : Pk → Tr Pk := tellS s369a w369a (F369a N)
theorem T369a_ok (N : Nat) : FOK Tryz.prog (369) (T369a N) :=
  (fn_ok2 ownT mix (tab369a_ok N) Tryz.func369 s369a w369a [0, 1] (cuts := []) trivial (fun _ => by kernel_rfl) (by decide +kernel) (F369a N) (fun x => by kernel_rfl))
@[reducible] def s348 : SP := ⟨[.adr 0 [], .ro (.int .i64), .ro (.int .i64), .int .i64], [.var 345 (.agg [.str, .int .i64, .int .i64])]⟩
noncomputable def tab348 (N : Nat) : List (Nat × (Pk → Tr Pk)) := [(368, T368 N), (366, orT s366.I (T366 N) (T366a N)), (369, orT s369.I (T369 N) (T369a N))]
theorem tab348_ok (N : Nat) : TabOK Tryz.prog (tab348 N) := ⟨T368_ok N, orT_ok (T366_ok N) (T366a_ok N), orT_ok (T369_ok N) (T369a_ok N), trivial⟩
@[reducible] def L348_254 : LD := ⟨254, [14, 10, 0, 12, 3, 15], [(.ret, [8, 9]), (.exit 0, [8, 9])], ⟨[.sl 1, .nilp, .adr 0 [], .nilp, .int .i64, .int .i64], [.var 345 (.agg [.str, .int .i64, .int .i64]), .row y0 281]⟩, []⟩
abbrev P348_254 : Type := Int × Int × ByteArray × Int × Int × (List (Int × (Int × (Int × Unit))))
abbrev R348_254 : Type := Unit
noncomputable def B348_254 (N : Nat) (f : P348_254 → Option R348_254) : P348_254 → Option R348_254
  | (x0, x1, x2, x3, x4, x5) =>
  Option.bind (F366 N (x2, x3, x4)) fun y0 =>
  none
noncomputable def F348_254 (N : Nat) : Nat → P348_254 → Option R348_254
  | 0, _ => none
  | k + 1, x => B348_254 N (F348_254 N k) x
noncomputable def C348_254 (N : Nat) (k : Nat) : Cut := L348_254.cut (F348_254 N k)
theorem C348_254_ok (N : Nat) (k : Nat) : CutAt Tryz.prog false Tryz.f348 [0] 254 (C348_254 N k) :=
  L348_254.loopT ownT mix (tab348_ok N) Tryz.f348 [0] (cuts := []) trivial (by decide +kernel) (by kernel_rfl) (B348_254 N) (F348_254 N) (fun _ => rfl) (fun _ _ => rfl) (fun f x => by kernel_rfl) k
@[reducible] def L348_254b : LD := ⟨254, [14, 10, 0, 12, 3, 15], [(.ret, [8, 9]), (.exit 0, [8, 9])], ⟨[.sl 1, .nilp, .adr 0 [], .adr 2 [], .int .i64, .int .i64], [.var 345 (.agg [.str, .int .i64, .int .i64]), .row y0 281, .var 397 (.agg [.arr (.int .i64) 16, .sl 3, .int .i64]), .row (.int .i64) 3]⟩, []⟩
abbrev P348_254b : Type := Int × Int × ByteArray × Int × Int × (List (Int × (Int × (Int × Unit)))) × (List Int) × Int × (List Int)
abbrev R348_254b : Type := Unit
noncomputable def B348_254b (N : Nat) (f : P348_254b → Option R348_254b) : P348_254b → Option R348_254b
  | (x0, x1, x2, x3, x4, x5, x6, x7, x8) =>
  Option.bind (F366 N (x2, x3, x4)) fun y0 =>
  none
noncomputable def F348_254b (N : Nat) : Nat → P348_254b → Option R348_254b
  | 0, _ => none
  | k + 1, x => B348_254b N (F348_254b N k) x
noncomputable def C348_254b (N : Nat) (k : Nat) : Cut := L348_254b.cut (F348_254b N k)
theorem C348_254b_ok (N : Nat) (k : Nat) : CutAt Tryz.prog false Tryz.f348 [0] 254 (C348_254b N k) :=
  L348_254b.loopT ownT mix (tab348_ok N) Tryz.f348 [0] (cuts := [(254, C348_254 N N)]) ⟨C348_254_ok N N, trivial⟩ (by decide +kernel) (by kernel_rfl) (B348_254b N) (F348_254b N) (fun _ => rfl) (fun _ _ => rfl) (fun f x => by kernel_rfl) k
@[reducible] def L348_254c : LD := ⟨254, [14, 10, 0, 12, 3, 15], [(.ret, [8, 9]), (.exit 0, [8, 9])], ⟨[.sl 1, .adr 2 [], .adr 0 [], .nilp, .int .i64, .int .i64], [.var 345 (.agg [.str, .int .i64, .int .i64]), .row y0 281, .var 397 (.agg [.arr (.int .i64) 16, .sl 3, .int .i64]), .row (.int .i64) 3]⟩, [(.ret, ⟨[.sl 1, .int .i64], [.var 345 (.agg [.str, .int .i64, .int .i64]), .row y0 281]⟩)]⟩
abbrev P348_254c : Type := Int × Int × ByteArray × Int × Int × (List (Int × (Int × (Int × Unit)))) × (List Int) × Int × (List Int)
abbrev R348_254c : Type := Int × ByteArray × Int × Int × (List (Int × (Int × (Int × Unit))))
noncomputable def B348_254c (N : Nat) (f : P348_254c → Option R348_254c) : P348_254c → Option R348_254c
  | (x0, x1, x2, x3, x4, x5, x6, x7, x8) =>
  Option.bind (F366a N (x6, x7, x2, x3, x4, x8)) fun (y0_0, y0_1, y0_2, y0_3, y0_4, y0_5, y0_6, y0_7) =>
  iteP (y0_1 != (0 : Int)) (
    some ((y0_1, y0_4, y0_5, y0_6, []))) (
    iteP (y0_0 == (256 : Int)) (
      some (((0 : Int), y0_4, y0_5, y0_6, x5))) (
      iteP (decide (y0_0 > (256 : Int))) (
        Option.bind (F369 N (y0_0, y0_4, y0_5, y0_6)) fun (y1_0, y1_1, y1_2, y1_3, y1_4, y1_5, y1_6) =>
        iteP (y1_3 != (0 : Int)) (
          some ((y1_3, y1_4, y1_5, y1_6, []))) (
          iteP (decide (IntKind.wrap IntKind.i64 (x1 + if (1 : Int) > y1_1 then (1 : Int) else y1_1) > x0)) (
            some (((4 : Int), y1_4, y1_5, y1_6, []))) (
            iteP (decide ((List.length x5 + List.length [(y1_0, y1_1, y1_2, ())]) * (24 : Nat) ≤ (140737488355328 : Nat) ∧ List.length x5 + List.length [(y1_0, y1_1, y1_2, ())] ≤ (140737488355328 : Nat))) (
              Option.bind (f (x0, IntKind.wrap IntKind.i64 (x1 + if (1 : Int) > y1_1 then (1 : Int) else y1_1), y1_4, y1_5, y1_6, x5 ++ [(y1_0, y1_1, y1_2, ())], y0_2, y0_3, y0_7)) fun r => some r) (
              none )))) (
        iteP (decide (IntKind.wrap IntKind.i64 (x1 + (1 : Int)) > x0)) (
          some (((4 : Int), y0_4, y0_5, y0_6, []))) (
          iteP (decide ((List.length x5 + List.length [(y0_0, (0 : Int), (0 : Int), ())]) * (24 : Nat) ≤ (140737488355328 : Nat) ∧ List.length x5 + List.length [(y0_0, (0 : Int), (0 : Int), ())] ≤ (140737488355328 : Nat))) (
            Option.bind (f (x0, IntKind.wrap IntKind.i64 (x1 + (1 : Int)), y0_4, y0_5, y0_6, x5 ++ [(y0_0, (0 : Int), (0 : Int), ())], y0_2, y0_3, y0_7)) fun r => some r) (
            none )))))
noncomputable def F348_254c (N : Nat) : Nat → P348_254c → Option R348_254c
  | 0, _ => none
  | k + 1, x => B348_254c N (F348_254c N k) x
noncomputable def C348_254c (N : Nat) (k : Nat) : Cut := L348_254c.cut (F348_254c N k)
theorem C348_254c_ok (N : Nat) (k : Nat) : CutAt Tryz.prog false Tryz.f348 [0] 254 (C348_254c N k) :=
  L348_254c.loopT ownT mix (tab348_ok N) Tryz.f348 [0] (cuts := [(254, orC L348_254.s.I (C348_254 N N) (C348_254b N N))]) ⟨fun c' h => orC_ok (C348_254_ok N N c' h) (C348_254b_ok N N c' h) rfl rfl, trivial⟩ (by decide +kernel) (by kernel_rfl) (B348_254c N) (F348_254c N) (fun _ => rfl) (fun _ _ => rfl) (fun f x => by kernel_rfl) k
@[reducible] def L348_254d : LD := ⟨254, [14, 10, 0, 12, 3, 15], [(.ret, [8, 9]), (.exit 0, [8, 9])], ⟨[.sl 1, .adr 2 [], .adr 0 [], .adr 3 [], .int .i64, .int .i64], [.var 345 (.agg [.str, .int .i64, .int .i64]), .row y0 281, .var 397 (.agg [.arr (.int .i64) 16, .sl 4, .int .i64]), .var 397 (.agg [.arr (.int .i64) 16, .sl 5, .int .i64]), .row (.int .i64) 3, .row (.int .i64) 3]⟩, [(.ret, ⟨[.sl 1, .int .i64], [.var 345 (.agg [.str, .int .i64, .int .i64]), .row y0 281]⟩)]⟩
abbrev P348_254d : Type := Int × Int × ByteArray × Int × Int × (List (Int × (Int × (Int × Unit)))) × (List Int) × Int × (List Int) × Int × (List Int) × (List Int)
abbrev R348_254d : Type := Int × ByteArray × Int × Int × (List (Int × (Int × (Int × Unit))))
noncomputable def B348_254d (N : Nat) (f : P348_254d → Option R348_254d) : P348_254d → Option R348_254d
  | (x0, x1, x2, x3, x4, x5, x6, x7, x8, x9, x10, x11) =>
  Option.bind (F366a N (x6, x7, x2, x3, x4, x10)) fun (y0_0, y0_1, y0_2, y0_3, y0_4, y0_5, y0_6, y0_7) =>
  iteP (y0_1 != (0 : Int)) (
    some ((y0_1, y0_4, y0_5, y0_6, []))) (
    iteP (y0_0 == (256 : Int)) (
      some (((0 : Int), y0_4, y0_5, y0_6, x5))) (
      iteP (decide (y0_0 > (256 : Int))) (
        Option.bind (F369a N (y0_0, y0_4, y0_5, y0_6, x8, x9, x11)) fun (y1_0, y1_1, y1_2, y1_3, y1_4, y1_5, y1_6, y1_7, y1_8, y1_9) =>
        iteP (y1_3 != (0 : Int)) (
          some ((y1_3, y1_4, y1_5, y1_6, []))) (
          iteP (decide (IntKind.wrap IntKind.i64 (x1 + if (1 : Int) > y1_1 then (1 : Int) else y1_1) > x0)) (
            some (((4 : Int), y1_4, y1_5, y1_6, []))) (
            iteP (decide ((List.length x5 + List.length [(y1_0, y1_1, y1_2, ())]) * (24 : Nat) ≤ (140737488355328 : Nat) ∧ List.length x5 + List.length [(y1_0, y1_1, y1_2, ())] ≤ (140737488355328 : Nat))) (
              Option.bind (f (x0, IntKind.wrap IntKind.i64 (x1 + if (1 : Int) > y1_1 then (1 : Int) else y1_1), y1_4, y1_5, y1_6, x5 ++ [(y1_0, y1_1, y1_2, ())], y0_2, y0_3, y1_7, y1_8, y0_7, y1_9)) fun r => some r) (
              none )))) (
        iteP (decide (IntKind.wrap IntKind.i64 (x1 + (1 : Int)) > x0)) (
          some (((4 : Int), y0_4, y0_5, y0_6, []))) (
          iteP (decide ((List.length x5 + List.length [(y0_0, (0 : Int), (0 : Int), ())]) * (24 : Nat) ≤ (140737488355328 : Nat) ∧ List.length x5 + List.length [(y0_0, (0 : Int), (0 : Int), ())] ≤ (140737488355328 : Nat))) (
            Option.bind (f (x0, IntKind.wrap IntKind.i64 (x1 + (1 : Int)), y0_4, y0_5, y0_6, x5 ++ [(y0_0, (0 : Int), (0 : Int), ())], y0_2, y0_3, x8, x9, y0_7, x11)) fun r => some r) (
            none )))))
noncomputable def F348_254d (N : Nat) : Nat → P348_254d → Option R348_254d
  | 0, _ => none
  | k + 1, x => B348_254d N (F348_254d N k) x
noncomputable def C348_254d (N : Nat) (k : Nat) : Cut := L348_254d.cut (F348_254d N k)
theorem C348_254d_ok (N : Nat) (k : Nat) : CutAt Tryz.prog false Tryz.f348 [0] 254 (C348_254d N k) :=
  L348_254d.loopT ownT mix (tab348_ok N) Tryz.f348 [0] (cuts := [(254, orC L348_254.s.I (C348_254 N N) (orC L348_254b.s.I (C348_254b N N) (C348_254c N N)))]) ⟨fun c' h => orC_ok (C348_254_ok N N c' h) (orC_ok (C348_254b_ok N N c' h) (C348_254c_ok N N c' h) rfl rfl) rfl rfl, trivial⟩ (by decide +kernel) (by kernel_rfl) (B348_254d N) (F348_254d N) (fun _ => rfl) (fun _ _ => rfl) (fun f x => by kernel_rfl) k
@[reducible] def w348 : List SP := [⟨[.tup [.sl 1, .int .i64]], [.var 345 (.agg [.str, .int .i64, .int .i64]), .row y0 281]⟩]
noncomputable def F348 (N : Nat) : ((List Int) × (List Int) × Int × ByteArray × Int × Int) → Option (Int × ByteArray × Int × Int × (List (Int × (Int × (Int × Unit)))))
  | (x0, x1, x2, x3, x4, x5) =>
  Option.bind (F368 N x0) fun y0 =>
  match y0 with
  | .inl y1 =>
    Option.bind (F368 N x1) fun y2 =>
    match y2 with
    | .inl y3 =>
      iteP (y1 != (0 : Int)) (
        some (((50 : Int), x3, x4, x5, []))) (
        iteP (y3 != (0 : Int)) (
          some (((50 : Int), x3, x4, x5, []))) (
          Option.bind (F348_254 N N (x2, (0 : Int), x3, x4, x5, [])) fun y4 =>
          none))
    | .inr y3 =>
      iteP (y1 != (0 : Int)) (
        some (((50 : Int), x3, x4, x5, []))) (
        iteP (y3.1 != (0 : Int)) (
          some (((50 : Int), x3, x4, x5, []))) (
          Option.bind (F348_254b N N (x2, (0 : Int), x3, x4, x5, [], y3.2.1, y3.2.2.1, y3.2.2.2)) fun y5 =>
          none))
  | .inr y1 =>
    Option.bind (F368 N x1) fun y6 =>
    match y6 with
    | .inl y7 =>
      iteP (y1.1 != (0 : Int)) (
        some (((50 : Int), x3, x4, x5, []))) (
        iteP (y7 != (0 : Int)) (
          some (((50 : Int), x3, x4, x5, []))) (
          Option.bind (F348_254c N N (x2, (0 : Int), x3, x4, x5, [], y1.2.1, y1.2.2.1, y1.2.2.2)) fun y8 =>
          some ((y8.1, y8.2.1, y8.2.2.1, y8.2.2.2.1, y8.2.2.2.2))))
    | .inr y7 =>
      iteP (y1.1 != (0 : Int)) (
        some (((50 : Int), x3, x4, x5, []))) (
        iteP (y7.1 != (0 : Int)) (
          some (((50 : Int), x3, x4, x5, []))) (
          Option.bind (F348_254d N N (x2, (0 : Int), x3, x4, x5, [], y1.2.1, y1.2.2.1, y7.2.1, y7.2.2.1, y1.2.2.2, y7.2.2.2)) fun y9 =>
          some ((y9.1, y9.2.1, y9.2.2.1, y9.2.2.2.1, y9.2.2.2.2))))
noncomputable def T348 (N : Nat) : Pk → Tr Pk := tellS s348 w348 (F348 N)
theorem T348_ok (N : Nat) : FOK Tryz.prog (348) (T348 N) :=
  (fn_ok2 ownT mix (tab348_ok N) Tryz.func348 s348 w348 [0] (cuts := [(254, orC L348_254.s.I (C348_254 N N) (orC L348_254b.s.I (C348_254b N N) (orC L348_254c.s.I (C348_254c N N) (C348_254d N N))))]) ⟨fun c' h => orC_ok (C348_254_ok N N c' h) (orC_ok (C348_254b_ok N N c' h) (orC_ok (C348_254c_ok N N c' h) (C348_254d_ok N N c' h) rfl rfl) rfl rfl) rfl rfl, trivial⟩ (fun _ => by kernel_rfl) (by decide +kernel) (F348 N) (fun x => by kernel_rfl))
@[reducible] def s350 : SP := ⟨[.str, .ro y0], []⟩
noncomputable def tab350 (N : Nat) : List (Nat × (Pk → Tr Pk)) := [(229, T229 N), (335, T335 N)]
theorem tab350_ok (N : Nat) : TabOK Tryz.prog (tab350 N) := ⟨T229_ok N, T335_ok N, trivial⟩
@[reducible] def L350_62670 : LD := ⟨62670, [6, 43, 42, 15, 7, 16, 17, 9], [(.ret, [4, 5]), (.exit 3, [17, 16, 7, 15, 6]), (.exit 1, [17, 16, 7, 15, 6]), (.exit 0, [6, 7])], ⟨[.sl 0, .int .i64, .int .i64, .ro y0, .int .i64, .int .i64, .int .i64, .adr 1 []], [.row (.int .u8) 5, .var 281 (.agg [.int .i64, .int .i64, .int .i64])]⟩, [(.exit 3, ⟨[.int .i64, .int .i64, .int .i64, .ro y0, .sl 0], [.row (.int .u8) 5]⟩)]⟩
abbrev P350_62670 : Type := Int × Int × (List (Int × (Int × (Int × Unit)))) × Int × Int × Int × (List Int) × Int × Int × Int
abbrev R350_62670 : Type := Int × Int × Int × (List (Int × (Int × (Int × Unit)))) × (List Int)
noncomputable def B350_62670 (N : Nat) (f : P350_62670 → Option R350_62670) : P350_62670 → Option R350_62670
  | (x0, x1, x2, x3, x4, x5, x6, x7, x8, x9) =>
  iteP (decide (x0 < x1)) (
    iteP (within (IntKind.wrap IntKind.i64 ((↑(List.length x6) : Int) - x9)) (List.length x6)) (
      Option.bind (x6[Int.toNat (IntKind.wrap IntKind.i64 ((↑(List.length x6) : Int) - x9))]?) fun y0 =>
      iteP (decide ((List.length x6 + List.length [y0]) * (1 : Nat) ≤ (140737488355328 : Nat) ∧ List.length x6 + List.length [y0] ≤ (140737488355328 : Nat))) (
        Option.bind (f (IntKind.wrap IntKind.i64 (x0 + (1 : Int)), x1, x2, x3, x4, x5, x6 ++ [y0], x7, x8, x9)) fun r => some r) (
        none )) (
      none )) (
    some ((x5, x4, x3, x2, x6)))
noncomputable def F350_62670 (N : Nat) : Nat → P350_62670 → Option R350_62670
  | 0, _ => none
  | k + 1, x => B350_62670 N (F350_62670 N k) x
noncomputable def C350_62670 (N : Nat) (k : Nat) : Cut := L350_62670.cut (F350_62670 N k)
theorem C350_62670_ok (N : Nat) (k : Nat) : CutAt Tryz.prog false Tryz.f350 [] 62670 (C350_62670 N k) :=
  L350_62670.loopT ownT mix (tab350_ok N) Tryz.f350 [] (cuts := []) trivial (by decide +kernel) (by kernel_rfl) (B350_62670 N) (F350_62670 N) (fun _ => rfl) (fun _ _ => rfl) (fun f x => by kernel_rfl) k
@[reducible] def L350_122 : LD := ⟨122, [17, 16, 7, 15, 6], [(.ret, [4, 5]), (.exit 0, [6, 7])], ⟨[.int .i64, .int .i64, .int .i64, .ro y0, .sl 0], [.row (.int .u8) 5]⟩, [(.ret, ⟨[.str, .int .i64], []⟩), (.exit 0, ⟨[.sl 0, .int .i64], [.row (.int .u8) 5]⟩)]⟩
abbrev P350_122 : Type := Int × Int × Int × (List (Int × (Int × (Int × Unit)))) × (List Int)
abbrev R350_122 : Type := ((ByteArray × Int) ⊕ (Int × (List Int)))
noncomputable def B350_122 (N : Nat) (f : P350_122 → Option R350_122) : P350_122 → Option R350_122
  | (x0, x1, x2, x3, x4) =>
  iteP (decide (x0 < x1)) (
    iteP (within x0 (List.length x3)) (
      Option.bind (x3[Int.toNat x0]?) fun y0 =>
      Option.bind (F335 N (y0.1, y0.2.1, y0.2.2.1)) fun y1 =>
      iteP (!y1) (
        some (.inl ((ByteArray.mk #[], (1 : Int))))) (
        iteP (y0.2.1 == (0 : Int)) (
          iteP (decide ((List.length x4 + List.length [IntKind.wrap IntKind.u8 y0.1]) * (1 : Nat) ≤ (140737488355328 : Nat) ∧ List.length x4 + List.length [IntKind.wrap IntKind.u8 y0.1] ≤ (140737488355328 : Nat))) (
            Option.bind (F350_62670 N N ((0 : Int), y0.2.1, x3, x2, x1, x0, x4 ++ [IntKind.wrap IntKind.u8 y0.1], y0.1, y0.2.1, y0.2.2.1)) fun y2 =>
            Option.bind (f (IntKind.wrap IntKind.i64 (y2.1 + (1 : Int)), y2.2.1, y2.2.2.1, y2.2.2.2.1, y2.2.2.2.2)) fun r => match r with | .inl y => some (.inl y) | .inr y => some (.inr y)) (
            none )) (
          iteP (decide (y0.2.2.1 > (↑(List.length x4) : Int))) (
            some (.inl ((ByteArray.mk #[], (60 : Int))))) (
            Option.bind (F350_62670 N N ((0 : Int), y0.2.1, x3, x2, x1, x0, x4, y0.1, y0.2.1, y0.2.2.1)) fun y3 =>
            Option.bind (f (IntKind.wrap IntKind.i64 (y3.1 + (1 : Int)), y3.2.1, y3.2.2.1, y3.2.2.2.1, y3.2.2.2.2)) fun r => match r with | .inl y => some (.inl y) | .inr y => some (.inr y))))) (
      none )) (
    some (.inr ((x2, x4))))
noncomputable def F350_122 (N : Nat) : Nat → P350_122 → Option R350_122
  | 0, _ => none
  | k + 1, x => B350_122 N (F350_122 N k) x
noncomputable def C350_122 (N : Nat) (k : Nat) : Cut := L350_122.cut (F350_122 N k)
theorem C350_122_ok (N : Nat) (k : Nat) : CutAt Tryz.prog false Tryz.f350 [] 122 (C350_122 N k) :=
  L350_122.loopT ownT mix (tab350_ok N) Tryz.f350 [] (cuts := [(62670, C350_62670 N N)]) ⟨C350_62670_ok N N, trivial⟩ (by decide +kernel) (by kernel_rfl) (B350_122 N) (F350_122 N) (fun _ => rfl) (fun _ _ => rfl) (fun f x => by kernel_rfl) k
@[reducible] def w350 : List SP := [⟨[.tup [.str, .int .i64]], []⟩]
noncomputable def F350 (N : Nat) : (ByteArray × (List (Int × (Int × (Int × Unit))))) → Option (ByteArray × Int)
  | (x0, x1) =>
  Option.bind (F229 N x0) fun y0 =>
  iteP (decide (ByteArray.size y0 ≤ (140737488355328 : Nat))) (
    Option.bind (F350_122 N N ((0 : Int), (↑(List.length x1) : Int), (↑(List.length (bytesOf y0)) : Int), x1, bytesOf y0)) fun y1 =>
    match y1 with
    | .inl y2 =>
      some ((y2.1, y2.2))
    | .inr y2 =>
      iteP (decide ((0 : Int) ≤ y2.1 ∧ y2.1 ≤ (↑(List.length y2.2) : Int))) (
        some ((stringOf (List.take (List.length y2.2 - Int.toNat y2.1) (List.drop (Int.toNat y2.1) y2.2)), (0 : Int)))) (
        none )) (
    none )
noncomputable def T350 (N : Nat) : Pk → Tr Pk := tellS s350 w350 (F350 N)
theorem T350_ok (N : Nat) : FOK Tryz.prog (350) (T350 N) :=
  (fn_ok2 ownT mix (tab350_ok N) Tryz.func350 s350 w350 [] (cuts := [(62670, C350_62670 N N), (122, C350_122 N N)]) ⟨C350_62670_ok N N, C350_122_ok N N, trivial⟩ (fun _ => by kernel_rfl) (by decide +kernel) (F350 N) (fun x => by kernel_rfl))
@[reducible] def s332 : SP := ⟨[.adr 0 [], .int .i64, .str, .int .i64], [.var 345 (.agg [.str, .int .i64, .int .i64])]⟩
noncomputable def tab332 (N : Nat) : List (Nat × (Pk → Tr Pk)) := [(336, T336 N), (347, T347 N), (348, T348 N), (349, T349 N), (350, T350 N)]
theorem tab332_ok (N : Nat) : TabOK Tryz.prog (tab332 N) := ⟨T336_ok N, T347_ok N, T348_ok N, T349_ok N, T350_ok N, trivial⟩
@[reducible] def w332 : List SP := [⟨[.tup [.str, .int .i64]], [.var 345 (.agg [.str, .int .i64, .int .i64])]⟩]
noncomputable def F332 (N : Nat) : (Int × ByteArray × Int × ByteArray × Int × Int) → Option (ByteArray × Int × ByteArray × Int × Int)
  | (x0, x1, x2, x3, x4, x5) =>
  Option.bind (F336 N ()) fun y0 =>
  iteP (x0 == (2 : Int)) (
    Option.bind (F347 N (x3, x4, x5)) fun y1 =>
    match y1 with
    | .inl (y2_0, y2_1, y2_2, y2_3, y2_4, y2_5) =>
      iteP (y2_0 != (0 : Int)) (
        some ((ByteArray.mk #[], y2_0, y2_1, y2_2, y2_3))) (
        Option.bind (F348 N (y2_4, y2_5, x2, y2_1, y2_2, y2_3)) fun y3 =>
        iteP (y3.1 != (0 : Int)) (
          Option.bind (F349 N y3.1) fun y4 =>
          some ((ByteArray.mk #[], y4, y3.2.1, y3.2.2.1, y3.2.2.2.1))) (
          Option.bind (F350 N (x1, y3.2.2.2.2)) fun y5 =>
          some ((y5.1, y5.2, y3.2.1, y3.2.2.1, y3.2.2.2.1))))
    | .inr (y2_0, y2_1, y2_2, y2_3, y2_4, y2_5, y2_6, y2_7) =>
      iteP (y2_3 != (0 : Int)) (
        some ((ByteArray.mk #[], y2_3, y2_4, y2_5, y2_6))) (
        Option.bind (F348 N (List.take y2_0 y2_7, List.take y2_2 (List.drop y2_1 y2_7), x2, y2_4, y2_5, y2_6)) fun y6 =>
        iteP (y6.1 != (0 : Int)) (
          Option.bind (F349 N y6.1) fun y7 =>
          some ((ByteArray.mk #[], y7, y6.2.1, y6.2.2.1, y6.2.2.2.1))) (
          Option.bind (F350 N (x1, y6.2.2.2.2)) fun y8 =>
          some ((y8.1, y8.2, y6.2.1, y6.2.2.1, y6.2.2.2.1))))) (
    Option.bind (F348 N (y0.1, y0.2, x2, x3, x4, x5)) fun y9 =>
    iteP (y9.1 != (0 : Int)) (
      Option.bind (F349 N y9.1) fun y10 =>
      some ((ByteArray.mk #[], y10, y9.2.1, y9.2.2.1, y9.2.2.2.1))) (
      Option.bind (F350 N (x1, y9.2.2.2.2)) fun y11 =>
      some ((y11.1, y11.2, y9.2.1, y9.2.2.1, y9.2.2.2.1))))
noncomputable def T332 (N : Nat) : Pk → Tr Pk := tellS s332 w332 (F332 N)
theorem T332_ok (N : Nat) : FOK Tryz.prog (332) (T332 N) :=
  (fn_ok2 ownT mix (tab332_ok N) Tryz.func332 s332 w332 [0] (cuts := []) trivial (fun _ => by kernel_rfl) (by decide +kernel) (F332 N) (fun x => by kernel_rfl))
@[reducible] def s306 : SP := ⟨[.adr 0 [], .str, .int .i64], [.var 345 (.agg [.str, .int .i64, .int .i64])]⟩
noncomputable def tab306 (N : Nat) : List (Nat × (Pk → Tr Pk)) := [(329, T329 N), (330, T330 N), (331, T331 N), (332, T332 N)]
theorem tab306_ok (N : Nat) : TabOK Tryz.prog (tab306 N) := ⟨T329_ok N, T330_ok N, T331_ok N, T332_ok N, trivial⟩
@[reducible] def w306 : List SP := [⟨[.tup [.str, .bool, .int .i64, .int .i64]], [.var 345 (.agg [.str, .int .i64, .int .i64])]⟩]
noncomputable def F306 (N : Nat) : (ByteArray × Int × ByteArray × Int × Int) → Option (ByteArray × Bool × Int × Int × ByteArray × Int × Int)
  | (x0, x1, x2, x3, x4) =>
  Option.bind (F329 N ((1 : Int), x2, x3, x4)) fun y0 =>
  Option.bind (F329 N ((2 : Int), y0.2.1, y0.2.2.1, y0.2.2.2)) fun y1 =>
  Option.bind (F330 N (y1.2.1, y1.2.2.1, y1.2.2.2, ())) fun y2 =>
  iteP (y2 != (0 : Int)) (
    some ((ByteArray.mk #[], false, (0 : Int), y2, y1.2.1, y1.2.2.1, y1.2.2.2))) (
    iteP (y1.1 == (0 : Int)) (
      Option.bind (F331 N (x1, y1.2.1, y1.2.2.1, y1.2.2.2)) fun y3 =>
      iteP (y3.2.1 != (0 : Int)) (
        some ((ByteArray.mk #[], false, (0 : Int), y3.2.1, y3.2.2.1, y3.2.2.2.1, y3.2.2.2.2))) (
        some ((y3.1, y0.1 == (1 : Int), y1.1, (0 : Int), y3.2.2.1, y3.2.2.2.1, y3.2.2.2.2)))) (
      iteP (y1.1 == (1 : Int)) (
        Option.bind (F332 N (y1.1, x0, x1, y1.2.1, y1.2.2.1, y1.2.2.2)) fun y4 =>
        iteP (y4.2.1 != (0 : Int)) (
          some ((ByteArray.mk #[], false, (0 : Int), y4.2.1, y4.2.2.1, y4.2.2.2.1, y4.2.2.2.2))) (
          some ((y4.1, y0.1 == (1 : Int), y1.1, (0 : Int), y4.2.2.1, y4.2.2.2.1, y4.2.2.2.2)))) (
        iteP (y1.1 == (2 : Int)) (
          Option.bind (F332 N (y1.1, x0, x1, y1.2.1, y1.2.2.1, y1.2.2.2)) fun y5 =>
          iteP (y5.2.1 != (0 : Int)) (
            some ((ByteArray.mk #[], false, (0 : Int), y5.2.1, y5.2.2.1, y5.2.2.2.1, y5.2.2.2.2))) (
            some ((y5.1, y0.1 == (1 : Int), y1.1, (0 : Int), y5.2.2.1, y5.2.2.2.1, y5.2.2.2.2)))) (
          some ((ByteArray.mk #[], false, (0 : Int), (80 : Int), y1.2.1, y1.2.2.1, y1.2.2.2))))))
noncomputable def T306 (N : Nat) : Pk → Tr Pk := tellS s306 w306 (F306 N)
theorem T306_ok (N : Nat) : FOK Tryz.prog (306) (T306 N) :=
  (fn_ok2 ownT mix (tab306_ok N) Tryz.func306 s306 w306 [0] (cuts := []) trivial (fun _ => by kernel_rfl) (by decide +kernel) (F306 N) (fun x => by kernel_rfl))
@[reducible] def s284 : SP := ⟨[.adr 0 [], .str, .int .i64], [.var 345 (.agg [.str, .int .i64, .int .i64])]⟩
noncomputable def tab284 (N : Nat) : List (Nat × (Pk → Tr Pk)) := [(306, T306 N)]
theorem tab284_ok (N : Nat) : TabOK Tryz.prog (tab284 N) := ⟨T306_ok N, trivial⟩
@[reducible] def w284 : List SP := [⟨[.tup [.str, .bool, .int .i64]], [.var 345 (.agg [.str, .int .i64, .int .i64])]⟩]
noncomputable def F284 (N : Nat) : (ByteArray × Int × ByteArray × Int × Int) → Option (ByteArray × Bool × Int × ByteArray × Int × Int)
  | (x0, x1, x2, x3, x4) =>
  Option.bind (F306 N (x0, x1, x2, x3, x4)) fun (y0_0, y0_1, y0_2, y0_3, y0_4, y0_5, y0_6) =>
  some ((y0_0, y0_1, y0_3, y0_4, y0_5, y0_6))
noncomputable def T284 (N : Nat) : Pk → Tr Pk := tellS s284 w284 (F284 N)
theorem T284_ok (N : Nat) : FOK Tryz.prog (284) (T284 N) :=
  (fn_ok2 ownT mix (tab284_ok N) Tryz.func284 s284 w284 [0] (cuts := []) trivial (fun _ => by kernel_rfl) (by decide +kernel) (F284 N) (fun x => by kernel_rfl))
@[reducible] def s285 : SP := ⟨[.radr y6 [.i 0 3]], []⟩
noncomputable def tab285 (N : Nat) : List (Nat × (Pk → Tr Pk)) := []
theorem tab285_ok (N : Nat) : TabOK Tryz.prog (tab285 N) := trivial
@[reducible] def w285 : List SP := [⟨[.int .i64], []⟩]
noncomputable def F285 (N : Nat) : ((ByteArray × (Int × (Int × Unit)))) → Option (Int)
  | x0 =>
  some x0.2.1
noncomputable def T285 (N : Nat) : Pk → Tr Pk := tellS s285 w285 (F285 N)
theorem T285_ok (N : Nat) : FOK Tryz.prog (285) (T285 N) :=
  (fn_ok2 ownT mix (tab285_ok N) Tryz.func285 s285 w285 [] (cuts := []) trivial (fun _ => by kernel_rfl) (by decide +kernel) (F285 N) (fun x => by kernel_rfl))
@[reducible] def s247 : SP := ⟨[.str, .str, .int .i64], []⟩
noncomputable def tab247 (N : Nat) : List (Nat × (Pk → Tr Pk)) := [(283, T283 N), (229, T229 N), (284, T284 N), (285, T285 N)]
theorem tab247_ok (N : Nat) : TabOK Tryz.prog (tab247 N) := ⟨T283_ok N, T229_ok N, T284_ok N, T285_ok N, trivial⟩
@[reducible] def L247_122 : LD := ⟨122, [11, 9, 0, 2, 10], [(.ret, [6, 7, 8]), (.exit 0, [10, 9])], ⟨[.bool, .adr 0 [], .str, .int .i64, .str], [.var 345 (.agg [.str, .int .i64, .int .i64])]⟩, [(.ret, ⟨[.str, .int .i64, .int .i64], []⟩), (.exit 0, ⟨[.str, .adr 0 []], [.var 345 (.agg [.str, .int .i64, .int .i64])]⟩)]⟩
abbrev P247_122 : Type := Bool × ByteArray × Int × ByteArray × ByteArray × Int × Int
abbrev R247_122 : Type := ((ByteArray × Int × Int) ⊕ (ByteArray × ByteArray × Int × Int))
noncomputable def B247_122 (N : Nat) (f : P247_122 → Option R247_122) : P247_122 → Option R247_122
  | (x0, x1, x2, x3, x4, x5, x6) =>
  iteP (!x0) (
    iteP (decide ((↑(ByteArray.size x1 + ByteArray.size x3) : Int) > (9223372036854775807 : Int))) (
      none ) (
      Option.bind (F229 N (x1 ++ x3)) fun y0 =>
      Option.bind (F284 N (y0, IntKind.wrap IntKind.i64 (x2 - (↑(ByteArray.size x3) : Int)), x4, x5, x6)) fun (y1_0, y1_1, y1_2, y1_3, y1_4, y1_5) =>
      iteP (y1_2 != (0 : Int)) (
        some (.inl ((ByteArray.mk #[], (0 : Int), y1_2)))) (
        iteP (decide ((↑(ByteArray.size x3 + ByteArray.size y1_0) : Int) > (9223372036854775807 : Int))) (
          none ) (
          Option.bind (f (y1_1, x1, x2, x3 ++ y1_0, y1_3, y1_4, y1_5)) fun r => match r with | .inl y => some (.inl y) | .inr y => some (.inr y))))) (
    some (.inr ((x3, x4, x5, x6))))
noncomputable def F247_122 (N : Nat) : Nat → P247_122 → Option R247_122
  | 0, _ => none
  | k + 1, x => B247_122 N (F247_122 N k) x
noncomputable def C247_122 (N : Nat) (k : Nat) : Cut := L247_122.cut (F247_122 N k)
theorem C247_122_ok (N : Nat) (k : Nat) : CutAt Tryz.prog false Tryz.f247 [] 122 (C247_122 N k) :=
  L247_122.loopT ownT mix (tab247_ok N) Tryz.f247 [] (cuts := []) trivial (by decide +kernel) (by kernel_rfl) (B247_122 N) (F247_122 N) (fun _ => rfl) (fun _ _ => rfl) (fun f x => by kernel_rfl) k
@[reducible] def w247 : List SP := [⟨[.tup [.str, .int .i64, .int .i64]], []⟩]
noncomputable def F247 (N : Nat) : (ByteArray × ByteArray × Int) → Option (ByteArray × Int × Int)
  | (x0, x1, x2) =>
  Option.bind (F283 N x1) fun y0 =>
  Option.bind (F247_122 N N (false, x0, x2, ByteArray.mk #[], y0.1, y0.2.1, y0.2.2)) fun y1 =>
  match y1 with
  | .inl y2 =>
    some ((y2.1, y2.2.1, y2.2.2))
  | .inr y2 =>
    Option.bind (F285 N (y2.2.1, y2.2.2.1, y2.2.2.2, ())) fun y3 =>
    some ((y2.1, IntKind.wrap IntKind.i64 (Int.tdiv (IntKind.wrap IntKind.i64 (y3 + (7 : Int))) (8 : Int)), (0 : Int)))
noncomputable def T247 (N : Nat) : Pk → Tr Pk := tellS s247 w247 (F247 N)
theorem T247_ok (N : Nat) : FOK Tryz.prog (247) (T247 N) :=
  (fn_ok2 ownT mix (tab247_ok N) Tryz.func247 s247 w247 [] (cuts := [(122, C247_122 N N)]) ⟨C247_122_ok N N, trivial⟩ (fun _ => by kernel_rfl) (by decide +kernel) (F247 N) (fun x => by kernel_rfl))
@[reducible] def s106 : SP := ⟨[.radr y6 [.i 0 3]], []⟩
noncomputable def tab106 (N : Nat) : List (Nat × (Pk → Tr Pk)) := []
theorem tab106_ok (N : Nat) : TabOK Tryz.prog (tab106 N) := trivial
@[reducible] def w106 : List SP := [⟨[.int .i64], []⟩]
noncomputable def F106 (N : Nat) : ((ByteArray × (Int × (Int × Unit)))) → Option (Int)
  | x0 =>
  some x0.2.1
noncomputable def T106 (N : Nat) : Pk → Tr Pk := tellS s106 w106 (F106 N)
theorem T106_ok (N : Nat) : FOK Tryz.prog (106) (T106 N) :=
  (fn_ok2 ownT mix (tab106_ok N) Tryz.func106 s106 w106 [] (cuts := []) trivial (fun _ => by kernel_rfl) (by decide +kernel) (F106 N) (fun x => by kernel_rfl))
@[reducible] def s183 : SP := ⟨[.str, .int .i64], []⟩
noncomputable def tab183 (N : Nat) : List (Nat × (Pk → Tr Pk)) := [(246, T246 N), (247, T247 N), (81, T81 N), (105, T105 N), (84, T84 N), (123, T123 N), (106, T106 N)]
theorem tab183_ok (N : Nat) : TabOK Tryz.prog (tab183 N) := ⟨T246_ok N, T247_ok N, T81_ok N, T105_ok N, T84_ok N, T123_ok N, T106_ok N, trivial⟩
@[reducible] def w183 : List SP := [⟨[.tup [.str, .int .i64, .int .i64]], []⟩]
noncomputable def F183 (N : Nat) : (ByteArray × Int) → Option (ByteArray × Int × Int)
  | (x0, x1) =>
  Option.bind (F246 N x0) fun y0 =>
  iteP (y0 != (0 : Int)) (
    some ((ByteArray.mk #[], (0 : Int), y0))) (
    iteP (decide ((0 : Int) ≤ (2 : Int) ∧ (2 : Int) ≤ (↑(ByteArray.size x0) : Int))) (
      Option.bind (F247 N (ByteArray.mk #[], ByteArray.extract x0 (2 : Nat) (ByteArray.size x0), x1)) fun y1 =>
      iteP (y1.2.2 != (0 : Int)) (
        some ((ByteArray.mk #[], (0 : Int), y1.2.2))) (
        iteP (decide ((0 : Int) ≤ IntKind.wrap IntKind.i64 ((2 : Int) + y1.2.1) ∧ IntKind.wrap IntKind.i64 ((2 : Int) + y1.2.1) ≤ (↑(ByteArray.size x0) : Int))) (
          Option.bind (F81 N (ByteArray.extract x0 (Int.toNat (IntKind.wrap IntKind.i64 ((2 : Int) + y1.2.1))) (ByteArray.size x0))) fun y2 =>
          Option.bind (F105 N ((4 : Int), y2.1, y2.2.1, y2.2.2)) fun y3 =>
          Option.bind (F84 N (y3.2.1, y3.2.2.1, y3.2.2.2, ())) fun y4 =>
          iteP (y4 != (0 : Int)) (
            Option.bind (F84 N (y3.2.1, y3.2.2.1, y3.2.2.2, ())) fun y5 =>
            some ((ByteArray.mk #[], (0 : Int), y5))) (
            Option.bind (F123 N [y1.1]) fun y6 =>
            iteP (y3.1 != y6) (
              some ((ByteArray.mk #[], (0 : Int), (101 : Int)))) (
              Option.bind (F106 N (y3.2.1, y3.2.2.1, y3.2.2.2, ())) fun y7 =>
              some ((y1.1, IntKind.wrap IntKind.i64 (IntKind.wrap IntKind.i64 ((2 : Int) + y1.2.1) + y7), (0 : Int)))))) (
          none ))) (
      none ))
noncomputable def T183 (N : Nat) : Pk → Tr Pk := tellS s183 w183 (F183 N)
theorem T183_ok (N : Nat) : FOK Tryz.prog (183) (T183 N) :=
  (fn_ok2 ownT mix (tab183_ok N) Tryz.func183 s183 w183 [] (cuts := []) trivial (fun _ => by kernel_rfl) (by decide +kernel) (F183 N) (fun x => by kernel_rfl))
@[reducible] def s112 : SP := ⟨[.radr y7 [.i 0 7]], []⟩
noncomputable def tab112 (N : Nat) : List (Nat × (Pk → Tr Pk)) := [(125, T125 N), (183, T183 N)]
theorem tab112_ok (N : Nat) : TabOK Tryz.prog (tab112 N) := ⟨T125_ok N, T183_ok N, trivial⟩
@[reducible] def w112 : List SP := [⟨[.tup [.str, .int .i64]], []⟩]
noncomputable def F112 (N : Nat) : ((Int × (Int × (Int × ((List Int) × (Bool × (Bool × (ByteArray × Unit)))))))) → Option (ByteArray × Int)
  | x0 =>
  Option.bind (F125 N x0.2.2.1) fun y0 =>
  Option.bind (F183 N (x0.2.2.2.2.2.2.1, IntKind.wrap IntKind.i64 (IntKind.wrap IntKind.i64 ((1 : Int) + IntKind.wrap IntKind.i64 (x0.1 * y0)) * x0.2.1))) fun y1 =>
  iteP (y1.2.2 == (4 : Int)) (
    some ((ByteArray.mk #[], (121 : Int)))) (
    iteP (y1.2.2 != (0 : Int)) (
      some ((ByteArray.mk #[], y1.2.2))) (
      iteP ((↑(ByteArray.size y1.1) : Int) != IntKind.wrap IntKind.i64 (IntKind.wrap IntKind.i64 ((1 : Int) + IntKind.wrap IntKind.i64 (x0.1 * y0)) * x0.2.1)) (
        some ((ByteArray.mk #[], (121 : Int)))) (
        iteP (y1.2.1 != (↑(ByteArray.size x0.2.2.2.2.2.2.1) : Int)) (
          some ((ByteArray.mk #[], (121 : Int)))) (
          some ((y1.1, (0 : Int)))))))
noncomputable def T112 (N : Nat) : Pk → Tr Pk := tellS s112 w112 (F112 N)
theorem T112_ok (N : Nat) : FOK Tryz.prog (112) (T112 N) :=
  (fn_ok2 ownT mix (tab112_ok N) Tryz.func112 s112 w112 [] (cuts := []) trivial (fun _ => by kernel_rfl) (by decide +kernel) (F112 N) (fun x => by kernel_rfl))
@[reducible] def s249 : SP := ⟨[.int .i64, .ro (.int .u8)], []⟩
noncomputable def tab249 (N : Nat) : List (Nat × (Pk → Tr Pk)) := []
theorem tab249_ok (N : Nat) : TabOK Tryz.prog (tab249 N) := trivial
@[reducible] def w249 : List SP := [⟨[.int .i64], []⟩]
noncomputable def F249 (N : Nat) : (Int × (List Int)) → Option (Int)
  | (x0, x1) =>
  iteP (within x0 (List.length x1)) (
    Option.bind (x1[Int.toNat x0]?) fun y0 =>
    some (IntKind.wrap IntKind.i64 y0)) (
    none )
noncomputable def T249 (N : Nat) : Pk → Tr Pk := tellS s249 w249 (F249 N)
theorem T249_ok (N : Nat) : FOK Tryz.prog (249) (T249 N) :=
  (fn_ok2 ownT mix (tab249_ok N) Tryz.func249 s249 w249 [] (cuts := []) trivial (fun _ => by kernel_rfl) (by decide +kernel) (F249 N) (fun x => by kernel_rfl))
@[reducible] def s248 : SP := ⟨[.int .i64, .int .i64], []⟩
noncomputable def tab248 (N : Nat) : List (Nat × (Pk → Tr Pk)) := []
theorem tab248_ok (N : Nat) : TabOK Tryz.prog (tab248 N) := trivial
@[reducible] def w248 : List SP := [⟨[.int .i64], []⟩]
noncomputable def F248 (N : Nat) : (Int × Int) → Option (Int)
  | (x0, x1) =>
  some (IntKind.wrap IntKind.i64 (x0 + x1))
noncomputable def T248 (N : Nat) : Pk → Tr Pk := tellS s248 w248 (F248 N)
theorem T248_ok (N : Nat) : FOK Tryz.prog (248) (T248 N) :=
  (fn_ok2 ownT mix (tab248_ok N) Tryz.func248 s248 w248 [] (cuts := []) trivial (fun _ => by kernel_rfl) (by decide +kernel) (F248 N) (fun x => by kernel_rfl))
@[reducible] def s197a : SP := ⟨[.int .i64, .int .i64, .str, .str, .fn 248, .fn 249], []⟩
noncomputable def tab197a (N : Nat) : List (Nat × (Pk → Tr Pk)) := [(249, T249 N), (254, T254 N), (248, T248 N)]
theorem tab197a_ok (N : Nat) : TabOK Tryz.prog (tab197a N) := ⟨T249_ok N, T254_ok N, T248_ok N, trivial⟩
@[reducible] def L197a_14951 : LD := ⟨14951, [16, 17, 13, 14, 15, 23, 22, 5, 2, 1, 4, 3, 0], [(.ret, [12]), (.exit 1, [23, 13, 22, 5, 2, 1, 4, 3, 0]), (.exit 0, [13]), (.normal, [23, 13, 22, 5, 2, 1, 4, 3, 0])], ⟨[.int .i64, .int .i64, .sl 0, .int .i64, .int .i64, .int .i64, .int .i64, .fn 249, .str, .int .i64, .fn 248, .str, .int .i64], [.row (.int .u8) 5]⟩, [(.normal, ⟨[.int .i64, .sl 0, .int .i64, .fn 249, .str, .int .i64, .fn 248, .str, .int .i64], [.row (.int .u8) 5]⟩)]⟩
noncomputable def F197a_14951 (N : Nat) : (Int × Int × Int × Int × Int × Int × ByteArray × Int × ByteArray × Int × (List Int)) → Option (Int × Int × ByteArray × Int × ByteArray × Int × (List Int))
  | (x0, x1, x2, x3, x4, x5, x6, x7, x8, x9, x10) =>
  iteP (!ByteArray.toList x6 == []) (
    iteP (decide ((0 : Int) ≤ x2)) (
      Option.bind (x6[Int.toNat x2]?) fun y0 =>
      iteP (decide (x2 ≥ x7)) (
        iteP (decide ((0 : Int) ≤ IntKind.wrap IntKind.i64 (x2 - x7))) (
          Option.bind (x6[Int.toNat (IntKind.wrap IntKind.i64 (x2 - x7))]?) fun y1 =>
          iteP (decide ((0 : Int) ≤ x2)) (
            Option.bind (x8[Int.toNat x2]?) fun y2 =>
            Option.bind (F254 N (x9, x3, IntKind.wrap IntKind.i64 (↑(UInt8.toNat y0) : Int), IntKind.wrap IntKind.i64 (↑(UInt8.toNat y1) : Int))) fun y3 =>
            Option.bind (F248 N (IntKind.wrap IntKind.i64 (↑(UInt8.toNat y2) : Int), y3)) fun y4 =>
            iteP (decide ((List.length x10 + List.length [IntKind.wrap IntKind.u8 y4]) * (1 : Nat) ≤ (140737488355328 : Nat) ∧ List.length x10 + List.length [IntKind.wrap IntKind.u8 y4] ≤ (140737488355328 : Nat))) (
              some ((x4, x5, x6, x7, x8, x9, x10 ++ [IntKind.wrap IntKind.u8 y4]))) (
              none )) (
            none )) (
          none )) (
        iteP (decide ((0 : Int) ≤ x2)) (
          Option.bind (x8[Int.toNat x2]?) fun y5 =>
          Option.bind (F254 N (x9, x3, IntKind.wrap IntKind.i64 (↑(UInt8.toNat y0) : Int), x1)) fun y6 =>
          Option.bind (F248 N (IntKind.wrap IntKind.i64 (↑(UInt8.toNat y5) : Int), y6)) fun y7 =>
          iteP (decide ((List.length x10 + List.length [IntKind.wrap IntKind.u8 y7]) * (1 : Nat) ≤ (140737488355328 : Nat) ∧ List.length x10 + List.length [IntKind.wrap IntKind.u8 y7] ≤ (140737488355328 : Nat))) (
            some ((x4, x5, x6, x7, x8, x9, x10 ++ [IntKind.wrap IntKind.u8 y7]))) (
            none )) (
          none ))) (
      none )) (
    iteP (decide ((0 : Int) ≤ x2)) (
      Option.bind (x8[Int.toNat x2]?) fun y8 =>
      Option.bind (F254 N (x9, x3, x0, x1)) fun y9 =>
      Option.bind (F248 N (IntKind.wrap IntKind.i64 (↑(UInt8.toNat y8) : Int), y9)) fun y10 =>
      iteP (decide ((List.length x10 + List.length [IntKind.wrap IntKind.u8 y10]) * (1 : Nat) ≤ (140737488355328 : Nat) ∧ List.length x10 + List.length [IntKind.wrap IntKind.u8 y10] ≤ (140737488355328 : Nat))) (
        some ((x4, x5, x6, x7, x8, x9, x10 ++ [IntKind.wrap IntKind.u8 y10]))) (
        none )) (
      none ))
noncomputable def C197a_14951 (N : Nat) (_ : Nat) : Cut := L197a_14951.cut (F197a_14951 N)
theorem C197a_14951_ok (N : Nat) (k : Nat) : CutAt Tryz.prog false Tryz.f197 [] 14951 (C197a_14951 N k) :=
  L197a_14951.pieceT ownT mix (tab197a_ok N) Tryz.f197 [] (cuts := []) trivial (by decide +kernel) (by kernel_rfl) (F197a_14951 N) (fun x => by kernel_rfl)
@[reducible] def L197a_58 : LD := ⟨58, [13, 23, 22, 5, 2, 1, 4, 3, 0], [(.ret, [12]), (.exit 0, [13])], ⟨[.sl 0, .int .i64, .int .i64, .fn 249, .str, .int .i64, .fn 248, .str, .int .i64], [.row (.int .u8) 5]⟩, [(.exit 0, ⟨[.sl 0], [.row (.int .u8) 5]⟩)]⟩
abbrev P197a_58 : Type := Int × Int × ByteArray × Int × ByteArray × Int × (List Int)
abbrev R197a_58 : Type := (List Int)
noncomputable def B197a_58 (N : Nat) (f : P197a_58 → Option R197a_58) : P197a_58 → Option R197a_58
  | (x0, x1, x2, x3, x4, x5, x6) =>
  iteP (decide (x0 < x1)) (
    iteP (decide (x0 ≥ x3)) (
      Option.bind (F249 N (IntKind.wrap IntKind.i64 (x0 - x3), x6)) fun y0 =>
      Option.bind (F197a_14951 N ((0 : Int), (0 : Int), x0, y0, x0, x1, x2, x3, x4, x5, x6)) fun (y1_0, y1_1, y1_2, y1_3, y1_4, y1_5, y1_6) =>
      Option.bind (f (IntKind.wrap IntKind.i64 (y1_0 + (1 : Int)), y1_1, y1_2, y1_3, y1_4, y1_5, y1_6)) fun r => some r) (
      Option.bind (F197a_14951 N ((0 : Int), (0 : Int), x0, (0 : Int), x0, x1, x2, x3, x4, x5, x6)) fun (y2_0, y2_1, y2_2, y2_3, y2_4, y2_5, y2_6) =>
      Option.bind (f (IntKind.wrap IntKind.i64 (y2_0 + (1 : Int)), y2_1, y2_2, y2_3, y2_4, y2_5, y2_6)) fun r => some r)) (
    some (x6))
noncomputable def F197a_58 (N : Nat) : Nat → P197a_58 → Option R197a_58
  | 0, _ => none
  | k + 1, x => B197a_58 N (F197a_58 N k) x
noncomputable def C197a_58 (N : Nat) (k : Nat) : Cut := L197a_58.cut (F197a_58 N k)
theorem C197a_58_ok (N : Nat) (k : Nat) : CutAt Tryz.prog false Tryz.f197 [] 58 (C197a_58 N k) :=
  L197a_58.loopT ownT mix (tab197a_ok N) Tryz.f197 [] (cuts := [(14951, C197a_14951 N N)]) ⟨C197a_14951_ok N N, trivial⟩ (by decide +kernel) (by kernel_rfl) (B197a_58 N) (F197a_58 N) (fun _ => rfl) (fun _ _ => rfl) (fun f x => by kernel_rfl) k
@[reducible] def w197a : List SP := [⟨[.str], []⟩]
noncomputable def F197a (N : Nat) : (Int × Int × ByteArray × ByteArray) → Option (ByteArray)
  | (x0, x1, x2, x3) =>
  iteP (decide ((0 : Int) ≤ (0 : Int) ∧ (0 : Int) ≤ (↑(ByteArray.size x3) : Int) ∧ (↑(ByteArray.size x3) : Int) * (1 : Int) ≤ (140737488355328 : Int) ∧ (↑(ByteArray.size x3) : Int) ≤ (140737488355328 : Int))) (
    Option.bind (F197a_58 N N ((0 : Int), (↑(ByteArray.size x3) : Int), x2, x1, x3, x0, List.replicate (0 : Nat) (0 : Int))) fun y0 =>
    some (stringOf y0)) (
    none )
noncomputable def T197a (N : Nat) : Pk → Tr Pk := tellS s197a w197a (F197a N)
theorem T197a_ok (N : Nat) : FOK Tryz.prog (197) (T197a N) :=
  (fn_ok2 ownT mix (tab197a_ok N) Tryz.func197 s197a w197a [] (cuts := [(14951, C197a_14951 N N), (58, C197a_58 N N)]) ⟨C197a_14951_ok N N, C197a_58_ok N N, trivial⟩ (fun _ => by kernel_rfl) (by decide +kernel) (F197a N) (fun x => by kernel_rfl))
@[reducible] def s184 : SP := ⟨[.int .i64, .int .i64, .str, .str], []⟩
noncomputable def tab184 (N : Nat) : List (Nat × (Pk → Tr Pk)) := [(195, T195 N), (197, T197a N)]
theorem tab184_ok (N : Nat) : TabOK Tryz.prog (tab184 N) := ⟨T195_ok N, T197a_ok N, trivial⟩
@[reducible] def w184 : List SP := [⟨[.tup [.str, .int .i64]], []⟩]
noncomputable def F184 (N : Nat) : (Int × Int × ByteArray × ByteArray) → Option (ByteArray × Int)
  | (x0, x1, x2, x3) =>
  Option.bind (F195 N (x0, x1, x2, x3)) fun y0 =>
  iteP (!y0) (
    some ((ByteArray.mk #[], (1 : Int)))) (
    Option.bind (F197a N (x0, x1, x2, x3)) fun y1 =>
    some ((y1, (0 : Int))))
noncomputable def T184 (N : Nat) : Pk → Tr Pk := tellS s184 w184 (F184 N)
theorem T184_ok (N : Nat) : FOK Tryz.prog (184) (T184 N) :=
  (fn_ok2 ownT mix (tab184_ok N) Tryz.func184 s184 w184 [] (cuts := []) trivial (fun _ => by kernel_rfl) (by decide +kernel) (F184 N) (fun x => by kernel_rfl))
@[reducible] def s185 : SP := ⟨[.radrl y7 [.i 0 7], .str], []⟩
noncomputable def tab185 (N : Nat) : List (Nat × (Pk → Tr Pk)) := [(125, T125 N)]
theorem tab185_ok (N : Nat) : TabOK Tryz.prog (tab185 N) := ⟨T125_ok N, trivial⟩
@[reducible] def L185_122 : LD := ⟨122, [6, 8, 0, 1, 7], [(.ret, [4, 5]), (.exit 0, [6])], ⟨[.sl 0, .int .i64, .radrl y7 [.i 0 7], .str, .int .i64], [.row (.int .i64) 3]⟩, [(.ret, ⟨[.sl 0, .int .i64], [.row (.int .i64) 3]⟩), (.exit 0, ⟨[.sl 0], [.row (.int .i64) 3]⟩)]⟩
abbrev P185_122 : Type := Int × (List (Int × (Int × (Int × ((List Int) × (Bool × (Bool × (ByteArray × Unit)))))))) × ByteArray × Int × (List Int)
abbrev R185_122 : Type := ((Int × (List Int)) ⊕ ((List Int)))
noncomputable def B185_122 (N : Nat) (f : P185_122 → Option R185_122) : P185_122 → Option R185_122
  | (x0, x1, x2, x3, x4) =>
  iteP (decide (x0 < (↑(ByteArray.size x2) : Int))) (
    Option.bind (x1[(0 : Nat)]?) fun (y0_0, y0_1, y0_2, y0_3, y0_4, y0_5, y0_6, y0_7) =>
    iteP (y0_2 == (2 : Int)) (
      iteP (decide ((0 : Int) ≤ x0)) (
        Option.bind (x2[Int.toNat x0]?) fun y1 =>
        iteP (decide ((0 : Int) ≤ IntKind.wrap IntKind.i64 (x0 + (1 : Int)))) (
          Option.bind (x2[Int.toNat (IntKind.wrap IntKind.i64 (x0 + (1 : Int)))]?) fun y2 =>
          iteP (decide ((0 : Int) ≤ IntKind.wrap IntKind.i64 (x0 + (2 : Int)))) (
            Option.bind (x2[Int.toNat (IntKind.wrap IntKind.i64 (x0 + (2 : Int)))]?) fun y3 =>
            iteP (decide ((List.length x4 + List.length [IntKind.wrap IntKind.i64 (↑(BitVec.toNat (BitVec.ofInt (64 : Nat) (IntKind.wrap IntKind.i64 (↑(BitVec.toNat (BitVec.ofInt (64 : Nat) (IntKind.wrap IntKind.i64 (IntKind.wrap IntKind.i64 (↑(UInt8.toNat y1) : Int) * (65536 : Int))) ||| BitVec.ofInt (64 : Nat) (IntKind.wrap IntKind.i64 (IntKind.wrap IntKind.i64 (↑(UInt8.toNat y2) : Int) * (256 : Int))))) : Int)) ||| BitVec.ofInt (64 : Nat) (IntKind.wrap IntKind.i64 (↑(UInt8.toNat y3) : Int)))) : Int)]) * (8 : Nat) ≤ (140737488355328 : Nat) ∧ List.length x4 + List.length [IntKind.wrap IntKind.i64 (↑(BitVec.toNat (BitVec.ofInt (64 : Nat) (IntKind.wrap IntKind.i64 (↑(BitVec.toNat (BitVec.ofInt (64 : Nat) (IntKind.wrap IntKind.i64 (IntKind.wrap IntKind.i64 (↑(UInt8.toNat y1) : Int) * (65536 : Int))) ||| BitVec.ofInt (64 : Nat) (IntKind.wrap IntKind.i64 (IntKind.wrap IntKind.i64 (↑(UInt8.toNat y2) : Int) * (256 : Int))))) : Int)) ||| BitVec.ofInt (64 : Nat) (IntKind.wrap IntKind.i64 (↑(UInt8.toNat y3) : Int)))) : Int)] ≤ (140737488355328 : Nat))) (
              Option.bind (f (IntKind.wrap IntKind.i64 (x0 + x3), x1, x2, x3, x4 ++ [IntKind.wrap IntKind.i64 (↑(BitVec.toNat (BitVec.ofInt (64 : Nat) (IntKind.wrap IntKind.i64 (↑(BitVec.toNat (BitVec.ofInt (64 : Nat) (IntKind.wrap IntKind.i64 (IntKind.wrap IntKind.i64 (↑(UInt8.toNat y1) : Int) * (65536 : Int))) ||| BitVec.ofInt (64 : Nat) (IntKind.wrap IntKind.i64 (IntKind.wrap IntKind.i64 (↑(UInt8.toNat y2) : Int) * (256 : Int))))) : Int)) ||| BitVec.ofInt (64 : Nat) (IntKind.wrap IntKind.i64 (↑(UInt8.toNat y3) : Int)))) : Int)])) fun r => match r with | .inl y => some (.inl y) | .inr y => some (.inr y)) (
              none )) (
            none )) (
          none )) (
        none )) (
      iteP (decide ((0 : Int) ≤ x0)) (
        Option.bind (x2[Int.toNat x0]?) fun y4 =>
        Option.bind (x1[(0 : Nat)]?) fun (y5_0, y5_1, y5_2, y5_3, y5_4, y5_5, y5_6, y5_7) =>
        iteP (decide (IntKind.wrap IntKind.i64 (↑(UInt8.toNat y4) : Int) ≥ (↑(List.length y5_3) : Int))) (
          some (.inl (((121 : Int), [])))) (
          Option.bind (x1[(0 : Nat)]?) fun (y6_0, y6_1, y6_2, y6_3, y6_4, y6_5, y6_6, y6_7) =>
          iteP (within (IntKind.wrap IntKind.i64 (↑(UInt8.toNat y4) : Int)) (List.length y6_3)) (
            Option.bind (y6_3[Int.toNat (IntKind.wrap IntKind.i64 (↑(UInt8.toNat y4) : Int))]?) fun y7 =>
            iteP (decide ((List.length x4 + List.length [y7]) * (8 : Nat) ≤ (140737488355328 : Nat) ∧ List.length x4 + List.length [y7] ≤ (140737488355328 : Nat))) (
              Option.bind (f (IntKind.wrap IntKind.i64 (x0 + x3), x1, x2, x3, x4 ++ [y7])) fun r => match r with | .inl y => some (.inl y) | .inr y => some (.inr y)) (
              none )) (
            none ))) (
        none ))) (
    some (.inr (x4)))
noncomputable def F185_122 (N : Nat) : Nat → P185_122 → Option R185_122
  | 0, _ => none
  | k + 1, x => B185_122 N (F185_122 N k) x
noncomputable def C185_122 (N : Nat) (k : Nat) : Cut := L185_122.cut (F185_122 N k)
theorem C185_122_ok (N : Nat) (k : Nat) : CutAt Tryz.prog false Tryz.f185 [] 122 (C185_122 N k) :=
  L185_122.loopT ownT mix (tab185_ok N) Tryz.f185 [] (cuts := []) trivial (by decide +kernel) (by kernel_rfl) (B185_122 N) (F185_122 N) (fun _ => rfl) (fun _ _ => rfl) (fun f x => by kernel_rfl) k
@[reducible] def w185 : List SP := [⟨[.tup [.sl 0, .int .i64]], [.row (.int .i64) 3]⟩]
noncomputable def F185 (N : Nat) : ((List (Int × (Int × (Int × ((List Int) × (Bool × (Bool × (ByteArray × Unit)))))))) × ByteArray) → Option (Int × (List Int))
  | (x0, x1) =>
  Option.bind (x0[(0 : Nat)]?) fun (y0_0, y0_1, y0_2, y0_3, y0_4, y0_5, y0_6, y0_7) =>
  Option.bind (F125 N y0_2) fun y1 =>
  Option.bind (F185_122 N N ((0 : Int), x0, x1, y1, [])) fun y2 =>
  match y2 with
  | .inl y3 =>
    some ((y3.1, y3.2))
  | .inr y3 =>
    some (((0 : Int), y3))
noncomputable def T185 (N : Nat) : Pk → Tr Pk := tellS s185 w185 (F185 N)
theorem T185_ok (N : Nat) : FOK Tryz.prog (185) (T185 N) :=
  (fn_ok2 ownT mix (tab185_ok N) Tryz.func185 s185 w185 [] (cuts := [(122, C185_122 N N)]) ⟨C185_122_ok N N, trivial⟩ (fun _ => by kernel_rfl) (by decide +kernel) (F185 N) (fun x => by kernel_rfl))
@[reducible] def s113 : SP := ⟨[.radr y7 [.i 0 7], .str], []⟩
noncomputable def tab113 (N : Nat) : List (Nat × (Pk → Tr Pk)) := [(81, T81 N), (105, T105 N), (125, T125 N), (135, T135 N), (184, T184 N), (185, T185 N)]
theorem tab113_ok (N : Nat) : TabOK Tryz.prog (tab113 N) := ⟨T81_ok N, T105_ok N, T125_ok N, T135_ok N, T184_ok N, T185_ok N, trivial⟩
@[reducible] def L113_250 : LD := ⟨250, [8, 6, 19, 18, 7, 0], [(.ret, [4, 5]), (.exit 0, [6])], ⟨[.str, .sl 0, .int .i64, .int .i64, .adr 1 [], .radrl y7 [.i 0 7]], [.row (.int .i64) 3, .var 189 (.agg [.str, .int .i64, .int .i64])]⟩, [(.ret, ⟨[.sl 0, .int .i64], [.row (.int .i64) 3]⟩), (.exit 0, ⟨[.sl 0], [.row (.int .i64) 3]⟩)]⟩
abbrev P113_250 : Type := ByteArray × Int × Int × (List (Int × (Int × (Int × ((List Int) × (Bool × (Bool × (ByteArray × Unit)))))))) × (List Int) × ByteArray × Int × Int
abbrev R113_250 : Type := ((Int × (List Int)) ⊕ ((List Int)))
noncomputable def B113_250 (N : Nat) (f : P113_250 → Option R113_250) : P113_250 → Option R113_250
  | (x0, x1, x2, x3, x4, x5, x6, x7) =>
  iteP (decide (x1 < x2)) (
    Option.bind (F105 N ((1 : Int), x5, x6, x7)) fun y0 =>
    Option.bind (x3[(0 : Nat)]?) fun (y1_0, y1_1, y1_2, y1_3, y1_4, y1_5, y1_6, y1_7) =>
    Option.bind (F125 N y1_2) fun y2 =>
    Option.bind (x3[(0 : Nat)]?) fun (y3_0, y3_1, y3_2, y3_3, y3_4, y3_5, y3_6, y3_7) =>
    Option.bind (x3[(0 : Nat)]?) fun (y4_0, y4_1, y4_2, y4_3, y4_4, y4_5, y4_6, y4_7) =>
    Option.bind (F125 N y4_2) fun y5 =>
    Option.bind (F135 N (IntKind.wrap IntKind.i64 (y3_0 * y5), y0.2.1, y0.2.2.1, y0.2.2.2)) fun y6 =>
    Option.bind (F184 N (y0.1, y2, x0, y6.1)) fun y7 =>
    iteP (y7.2 != (0 : Int)) (
      some (.inl (((121 : Int), [])))) (
      Option.bind (F185 N (x3, y7.1)) fun y8 =>
      iteP (y8.1 != (0 : Int)) (
        some (.inl ((y8.1, [])))) (
        iteP (decide ((List.length x4 + List.length y8.2) * (8 : Nat) ≤ (140737488355328 : Nat) ∧ List.length x4 + List.length y8.2 ≤ (140737488355328 : Nat))) (
          Option.bind (f (y7.1, IntKind.wrap IntKind.i64 (x1 + (1 : Int)), x2, x3, x4 ++ y8.2, y6.2.1, y6.2.2.1, y6.2.2.2)) fun r => match r with | .inl y => some (.inl y) | .inr y => some (.inr y)) (
          none )))) (
    some (.inr (x4)))
noncomputable def F113_250 (N : Nat) : Nat → P113_250 → Option R113_250
  | 0, _ => none
  | k + 1, x => B113_250 N (F113_250 N k) x
noncomputable def C113_250 (N : Nat) (k : Nat) : Cut := L113_250.cut (F113_250 N k)
theorem C113_250_ok (N : Nat) (k : Nat) : CutAt Tryz.prog false Tryz.f113 [] 250 (C113_250 N k) :=
  L113_250.loopT ownT mix (tab113_ok N) Tryz.f113 [] (cuts := []) trivial (by decide +kernel) (by kernel_rfl) (B113_250 N) (F113_250 N) (fun _ => rfl) (fun _ _ => rfl) (fun f x => by kernel_rfl) k
@[reducible] def w113 : List SP := [⟨[.tup [.sl 0, .int .i64]], [.row (.int .i64) 3]⟩]
noncomputable def F113 (N : Nat) : ((Int × (Int × (Int × ((List Int) × (Bool × (Bool × (ByteArray × Unit))))))) × ByteArray) → Option (Int × (List Int))
  | (x0, x1) =>
  Option.bind (F81 N x1) fun y0 =>
  Option.bind (F113_250 N N (ByteArray.mk #[], (0 : Int), x0.2.1, [x0], [], y0.1, y0.2.1, y0.2.2)) fun y1 =>
  match y1 with
  | .inl y2 =>
    some ((y2.1, y2.2))
  | .inr y2 =>
    some (((0 : Int), y2))
noncomputable def T113 (N : Nat) : Pk → Tr Pk := tellS s113 w113 (F113 N)
theorem T113_ok (N : Nat) : FOK Tryz.prog (113) (T113 N) :=
  (fn_ok2 ownT mix (tab113_ok N) Tryz.func113 s113 w113 [] (cuts := [(250, C113_250 N N)]) ⟨C113_250_ok N N, trivial⟩ (fun _ => by kernel_rfl) (by decide +kernel) (F113 N) (fun x => by kernel_rfl))
@[reducible] def s54 : SP := ⟨[.str, .int .i64], []⟩
noncomputable def tab54 (N : Nat) : List (Nat × (Pk → Tr Pk)) := [(55, T55 N), (111, T111 N), (112, T112 N), (113, T113 N)]
theorem tab54_ok (N : Nat) : TabOK Tryz.prog (tab54 N) := ⟨T55_ok N, T111_ok N, T112_ok N, T113_ok N, trivial⟩
@[reducible] def w54 : List SP := [⟨[.tup [.agg [.agg [.int .i64, .int .i64, .sl 0], .sl 1], .int .i64]], [.row (.int .i64) 3, .row (.int .i64) 3]⟩]
noncomputable def F54 (N : Nat) : (ByteArray × Int) → Option (Int × Int × Int × (List Int) × (List Int))
  | (x0, x1) =>
  Option.bind (F55 N x0) fun y0 =>
  iteP (y0.1 != (0 : Int)) (
    some (((0 : Int), (0 : Int), y0.1, [], []))) (
    Option.bind (F111 N (y0.2, x1, (0 : Int), (0 : Int), (0 : Int), false, false, ByteArray.mk #[], [])) fun (y1_0, y1_1, y1_2, y1_3, y1_4, y1_5, y1_6, y1_7) =>
    iteP (y1_0 != (0 : Int)) (
      some (((0 : Int), (0 : Int), y1_0, [], []))) (
      Option.bind (F112 N (y1_1, y1_2, y1_3, y1_7, y1_4, y1_5, y1_6, ())) fun y2 =>
      iteP (y2.2 != (0 : Int)) (
        some (((0 : Int), (0 : Int), y2.2, [], []))) (
        Option.bind (F113 N ((y1_1, y1_2, y1_3, y1_7, y1_4, y1_5, y1_6, ()), y2.1)) fun y3 =>
        iteP (y3.1 != (0 : Int)) (
          some (((0 : Int), (0 : Int), y3.1, [], []))) (
          some ((y1_1, y1_2, (0 : Int), y3.2, y1_7))))))
noncomputable def T54 (N : Nat) : Pk → Tr Pk := tellS s54 w54 (F54 N)
theorem T54_ok (N : Nat) : FOK Tryz.prog (54) (T54 N) :=
  (fn_ok2 ownT mix (tab54_ok N) Tryz.func54 s54 w54 [] (cuts := []) trivial (fun _ => by kernel_rfl) (by decide +kernel) (F54 N) (fun x => by kernel_rfl))
@[reducible] def s31 : SP := ⟨[.ro (.int .i64), .ro (.int .i64)], []⟩
noncomputable def tab31 (N : Nat) : List (Nat × (Pk → Tr Pk)) := []
theorem tab31_ok (N : Nat) : TabOK Tryz.prog (tab31 N) := trivial
@[reducible] def L31_58 : LD := ⟨58, [0, 1, 5], [(.ret, [4]), (.exit 0, [])], ⟨[.ro (.int .i64), .ro (.int .i64), .int .i64], []⟩, [(.ret, ⟨[.bool], []⟩), (.exit 0, ⟨[], []⟩)]⟩
abbrev P31_58 : Type := (List Int) × (List Int) × Int
abbrev R31_58 : Type := ((Bool) ⊕ (Unit))
noncomputable def B31_58 (N : Nat) (f : P31_58 → Option R31_58) : P31_58 → Option R31_58
  | (x0, x1, x2) =>
  iteP (decide (x2 < (↑(List.length x0) : Int))) (
    iteP (within x2 (List.length x0)) (
      Option.bind (x0[Int.toNat x2]?) fun y0 =>
      iteP (within x2 (List.length x1)) (
        Option.bind (x1[Int.toNat x2]?) fun y1 =>
        iteP (y0 != y1) (
          some (.inl (false))) (
          Option.bind (f (x0, x1, IntKind.wrap IntKind.i64 (x2 + (1 : Int)))) fun r => match r with | .inl y => some (.inl y) | .inr y => some (.inr y))) (
        none )) (
      none )) (
    some (.inr (())))
noncomputable def F31_58 (N : Nat) : Nat → P31_58 → Option R31_58
  | 0, _ => none
  | k + 1, x => B31_58 N (F31_58 N k) x
noncomputable def C31_58 (N : Nat) (k : Nat) : Cut := L31_58.cut (F31_58 N k)
theorem C31_58_ok (N : Nat) (k : Nat) : CutAt Tryz.prog false Tryz.f31 [] 58 (C31_58 N k) :=
  L31_58.loopT ownT mix (tab31_ok N) Tryz.f31 [] (cuts := []) trivial (by decide +kernel) (by kernel_rfl) (B31_58 N) (F31_58 N) (fun _ => rfl) (fun _ _ => rfl) (fun f x => by kernel_rfl) k
@[reducible] def w31 : List SP := [⟨[.bool], []⟩]
noncomputable def F31 (N : Nat) : ((List Int) × (List Int)) → Option (Bool)
  | (x0, x1) =>
  iteP ((↑(List.length x0) : Int) != (↑(List.length x1) : Int)) (
    some (false)) (
    Option.bind (F31_58 N N (x0, x1, (0 : Int))) fun y0 =>
    match y0 with
    | .inl y1 =>
      some (y1)
    | .inr y1 =>
      some (true))
noncomputable def T31 (N : Nat) : Pk → Tr Pk := tellS s31 w31 (F31 N)
theorem T31_ok (N : Nat) : FOK Tryz.prog (31) (T31 N) :=
  (fn_ok2 ownT mix (tab31_ok N) Tryz.func31 s31 w31 [] (cuts := [(58, C31_58 N N)]) ⟨C31_58_ok N N, trivial⟩ (fun _ => by kernel_rfl) (by decide +kernel) (F31 N) (fun x => by kernel_rfl))
@[reducible] def s3 : SP := ⟨[.str, .str, .str], []⟩
@[reducible] def w3 : List SP := [⟨[.bool], []⟩]
@[reducible] def s43 : SP := ⟨[.int .i64], []⟩
noncomputable def tab43 (N : Nat) : List (Nat × (Pk → Tr Pk)) := []
theorem tab43_ok (N : Nat) : TabOK Tryz.prog (tab43 N) := trivial
@[reducible] def L43_60 : LD := ⟨60, [4, 0], [(.ret, [2, 3]), (.exit 0, [4, 0])], ⟨[.sl 0, .int .i64], [.row (.int .u8) 5]⟩, [(.exit 0, ⟨[.sl 0, .int .i64], [.row (.int .u8) 5]⟩)]⟩
abbrev P43_60 : Type := Int × (List Int)
abbrev R43_60 : Type := Int × (List Int)
noncomputable def B43_60 (N : Nat) (f : P43_60 → Option R43_60) : P43_60 → Option R43_60
  | (x0, x1) =>
  iteP (decide ((↑(List.length x1) : Int) < (2 : Int))) (
    iteP (decide (x0 ≥ (128 : Int))) (
      iteP (decide ((List.length x1 + List.length [IntKind.wrap IntKind.u8 (IntKind.wrap IntKind.i64 (↑(BitVec.toNat (BitVec.ofInt (64 : Nat) x0 ||| BitVec.ofInt (64 : Nat) (128 : Int))) : Int))]) * (1 : Nat) ≤ (140737488355328 : Nat) ∧ List.length x1 + List.length [IntKind.wrap IntKind.u8 (IntKind.wrap IntKind.i64 (↑(BitVec.toNat (BitVec.ofInt (64 : Nat) x0 ||| BitVec.ofInt (64 : Nat) (128 : Int))) : Int))] ≤ (140737488355328 : Nat))) (
        Option.bind (f (Int.fdiv x0 (128 : Int), x1 ++ [IntKind.wrap IntKind.u8 (IntKind.wrap IntKind.i64 (↑(BitVec.toNat (BitVec.ofInt (64 : Nat) x0 ||| BitVec.ofInt (64 : Nat) (128 : Int))) : Int))])) fun r => some r) (
        none )) (
      some ((x0, x1)))) (
    some ((x0, x1)))
noncomputable def F43_60 (N : Nat) : Nat → P43_60 → Option R43_60
  | 0, _ => none
  | k + 1, x => B43_60 N (F43_60 N k) x
noncomputable def C43_60 (N : Nat) (k : Nat) : Cut := L43_60.cut (F43_60 N k)
theorem C43_60_ok (N : Nat) (k : Nat) : CutAt Tryz.prog false Tryz.f43 [] 60 (C43_60 N k) :=
  L43_60.loopT ownT mix (tab43_ok N) Tryz.f43 [] (cuts := []) trivial (by decide +kernel) (by kernel_rfl) (B43_60 N) (F43_60 N) (fun _ => rfl) (fun _ _ => rfl) (fun f x => by kernel_rfl) k
@[reducible] def w43 : List SP := [⟨[.tup [.str, .int .i64]], []⟩]
noncomputable def F43 (N : Nat) : (Int) → Option (ByteArray × Int)
  | x0 =>
  iteP (decide (x0 < (0 : Int))) (
    some ((ByteArray.mk #[], (1 : Int)))) (
    iteP (decide (x0 > (4194303 : Int))) (
      some ((ByteArray.mk #[], (1 : Int)))) (
      Option.bind (F43_60 N N (x0, [])) fun y0 =>
      iteP (decide ((List.length y0.2 + List.length [IntKind.wrap IntKind.u8 y0.1]) * (1 : Nat) ≤ (140737488355328 : Nat) ∧ List.length y0.2 + List.length [IntKind.wrap IntKind.u8 y0.1] ≤ (140737488355328 : Nat))) (
        some ((stringOf (y0.2 ++ [IntKind.wrap IntKind.u8 y0.1]), (0 : Int)))) (
        none )))
noncomputable def T43 (N : Nat) : Pk → Tr Pk := tellS s43 w43 (F43 N)
theorem T43_ok (N : Nat) : FOK Tryz.prog (43) (T43 N) :=
  (fn_ok2 ownT mix (tab43_ok N) Tryz.func43 s43 w43 [] (cuts := [(60, C43_60 N N)]) ⟨C43_60_ok N N, trivial⟩ (fun _ => by kernel_rfl) (by decide +kernel) (F43 N) (fun x => by kernel_rfl))
@[reducible] def s102 : SP := ⟨[], []⟩
noncomputable def tab102 (N : Nat) : List (Nat × (Pk → Tr Pk)) := []
theorem tab102_ok (N : Nat) : TabOK Tryz.prog (tab102 N) := trivial
@[reducible] def w102 : List SP := [⟨[.agg [.int .i64, .int .i64, .bool, .bool, .int .i64, .int .i64, .int .i64, .int .i64, .int .i64, .int .i64]], []⟩]
noncomputable def F102 (N : Nat) : (Unit) → Option (Int × Int × Bool × Bool × Int × Int × Int × Int × Int × Int)
  | () =>
  some (((32 : Int), (24 : Int), false, true, (255 : Int), (255 : Int), (255 : Int), (16 : Int), (8 : Int), (0 : Int)))
noncomputable def T102 (N : Nat) : Pk → Tr Pk := tellS s102 w102 (F102 N)
theorem T102_ok (N : Nat) : FOK Tryz.prog (102) (T102 N) :=
  (fn_ok2 ownT mix (tab102_ok N) Tryz.func102 s102 w102 [] (cuts := []) trivial (fun _ => by kernel_rfl) (by decide +kernel) (F102 N) (fun x => by kernel_rfl))
@[reducible] def s95 : SP := ⟨[.agg [.int .i64, .int .i64, .bool, .bool, .int .i64, .int .i64, .int .i64, .int .i64, .int .i64, .int .i64]], []⟩
noncomputable def tab95 (N : Nat) : List (Nat × (Pk → Tr Pk)) := []
theorem tab95_ok (N : Nat) : TabOK Tryz.prog (tab95 N) := trivial
@[reducible] def w95 : List SP := [⟨[.arr y1 3], []⟩]
noncomputable def F95 (N : Nat) : (Int × Int × Bool × Bool × Int × Int × Int × Int × Int × Int) → Option ((List (Int × (Int × Unit))))
  | (x0, x1, x2, x3, x4, x5, x6, x7, x8, x9) =>
  some ([(x4, x7, ()), (x5, x8, ()), (x6, x9, ())])
noncomputable def T95 (N : Nat) : Pk → Tr Pk := tellS s95 w95 (F95 N)
theorem T95_ok (N : Nat) : FOK Tryz.prog (95) (T95 N) :=
  (fn_ok2 ownT mix (tab95_ok N) Tryz.func95 s95 w95 [] (cuts := []) trivial (fun _ => by kernel_rfl) (by decide +kernel) (F95 N) (fun x => by kernel_rfl))
@[reducible] def s227 : SP := ⟨[.int .u64], []⟩
noncomputable def tab227 (N : Nat) : List (Nat × (Pk → Tr Pk)) := []
theorem tab227_ok (N : Nat) : TabOK Tryz.prog (tab227 N) := trivial
@[reducible] def w227 : List SP := [⟨[.int .i64], []⟩]
noncomputable def F227 (N : Nat) : (Int) → Option (Int)
  | x0 =>
  iteP (decide (x0 ≥ (4294967296 : Int))) (
    iteP (decide (Int.fdiv x0 (4294967296 : Int) ≥ (65536 : Int))) (
      iteP (decide (Int.fdiv (Int.fdiv x0 (4294967296 : Int)) (65536 : Int) ≥ (256 : Int))) (
        iteP (decide ((0 : Int) ≤ IntKind.wrap IntKind.u8 (Int.fdiv (Int.fdiv (Int.fdiv x0 (4294967296 : Int)) (65536 : Int)) (256 : Int)))) (
          Option.bind ((ByteArray.mk #[(0 : UInt8), (1 : UInt8), (2 : UInt8), (2 : UInt8), (3 : UInt8), (3 : UInt8), (3 : UInt8), (3 : UInt8), (4 : UInt8), (4 : UInt8), (4 : UInt8), (4 : UInt8), (4 : UInt8), (4 : UInt8), (4 : UInt8), (4 : UInt8), (5 : UInt8), (5 : UInt8), (5 : UInt8), (5 : UInt8), (5 : UInt8), (5 : UInt8), (5 : UInt8), (5 : UInt8), (5 : UInt8), (5 : UInt8), (5 : UInt8), (5 : UInt8), (5 : UInt8), (5 : UInt8), (5 : UInt8), (5 : UInt8), (6 : UInt8), (6 : UInt8), (6 : UInt8), (6 : UInt8), (6 : UInt8), (6 : UInt8), (6 : UInt8), (6 : UInt8), (6 : UInt8), (6 : UInt8), (6 : UInt8), (6 : UInt8), (6 : UInt8), (6 : UInt8), (6 : UInt8), (6 : UInt8), (6 : UInt8), (6 : UInt8), (6 : UInt8), (6 : UInt8), (6 : UInt8), (6 : UInt8), (6 : UInt8), (6 : UInt8), (6 : UInt8), (6 : UInt8), (6 : UInt8), (6 : UInt8), (6 : UInt8), (6 : UInt8), (6 : UInt8), (6 : UInt8), (7 : UInt8), (7 : UInt8), (7 : UInt8), (7 : UInt8), (7 : UInt8), (7 : UInt8), (7 : UInt8), (7 : UInt8), (7 : UInt8), (7 : UInt8), (7 : UInt8), (7 : UInt8), (7 : UInt8), (7 : UInt8), (7 : UInt8), (7 : UInt8), (7 : UInt8), (7 : UInt8), (7 : UInt8), (7 : UInt8), (7 : UInt8), (7 : UInt8), (7 : UInt8), (7 : UInt8), (7 : UInt8), (7 : UInt8), (7 : UInt8), (7 : UInt8), (7 : UInt8), (7 : UInt8), (7 : UInt8), (7 : UInt8), (7 : UInt8), (7 : UInt8), (7 : UInt8), (7 : UInt8), (7 : UInt8), (7 : UInt8), (7 : UInt8), (7 : UInt8), (7 : UInt8), (7 : UInt8), (7 : UInt8), (7 : UInt8), (7 : UInt8), (7 : UInt8), (7 : UInt8), (7 : UInt8), (7 : UInt8), (7 : UInt8), (7 : UInt8), (7 : UInt8), (7 : UInt8), (7 : UInt8), (7 : UInt8), (7 : UInt8), (7 : UInt8), (7 : UInt8), (7 : UInt8), (7 : UInt8), (7 : UInt8), (7 : UInt8), (7 : UInt8), (7 : UInt8), (8 : UInt8), (8 : UInt8), (8 : UInt8), (8 : UInt8), (8 : UInt8), (8 : UInt8), (8 : UInt8), (8 : UInt8), (8 : UInt8), (8 : UInt8), (8 : UInt8), (8 : UInt8), (8 : UInt8), (8 : UInt8), (8 : UInt8), (8 : UInt8), (8 : UInt8), (8 : UInt8), (8 : UInt8), (8 : UInt8), (8 : UInt8), (8 : UInt8), (8 : UInt8), (8 : UInt8), (8 : UInt8), (8 : UInt8), (8 : UInt8), (8 : UInt8), (8 : UInt8), (8 : UInt8), (8 : UInt8), (8 : UInt8), (8 : UInt8), (8 : UInt8), (8 : UInt8), (8 : UInt8), (8 : UInt8), (8 : UInt8), (8 : UInt8), (8 : UInt8), (8 : UInt8), (8 : UInt8), (8 : UInt8), (8 : UInt8), (8 : UInt8), (8 : UInt8), (8 : UInt8), (8 : UInt8), (8 : UInt8), (8 : UInt8), (8 : UInt8), (8 : UInt8), (8 : UInt8), (8 : UInt8), (8 : UInt8), (8 : UInt8), (8 : UInt8), (8 : UInt8), (8 : UInt8), (8 : UInt8), (8 : UInt8), (8 : UInt8), (8 : UInt8), (8 : UInt8), (8 : UInt8), (8 : UInt8), (8 : UInt8), (8 : UInt8), (8 : UInt8), (8 : UInt8), (8 : UInt8), (8 : UInt8), (8 : UInt8), (8 : UInt8), (8 : UInt8), (8 : UInt8), (8 : UInt8), (8 : UInt8), (8 : UInt8), (8 : UInt8), (8 : UInt8), (8 : UInt8), (8 : UInt8), (8 : UInt8), (8 : UInt8), (8 : UInt8), (8 : UInt8), (8 : UInt8), (8 : UInt8), (8 : UInt8), (8 : UInt8), (8 : UInt8), (8 : UInt8), (8 : UInt8), (8 : UInt8), (8 : UInt8), (8 : UInt8), (8 : UInt8), (8 : UInt8), (8 : UInt8), (8 : UInt8), (8 : UInt8), (8 : UInt8), (8 : UInt8), (8 : UInt8), (8 : UInt8), (8 : UInt8), (8 : UInt8), (8 : UInt8), (8 : UInt8), (8 : UInt8), (8 : UInt8), (8 : UInt8), (8 : UInt8), (8 : UInt8), (8 : UInt8), (8 : UInt8), (8 : UInt8), (8 : UInt8), (8 : UInt8), (8 : UInt8), (8 : UInt8), (8 : UInt8), (8 : UInt8), (8 : UInt8), (8 : UInt8), (8 : UInt8), (8 : UInt8)])[Int.toNat (IntKind.wrap IntKind.u8 (Int.fdiv (Int.fdiv (Int.fdiv x0 (4294967296 : Int)) (65536 : Int)) (256 : Int)))]?) fun y0 =>
          some (IntKind.wrap IntKind.i64 ((56 : Int) + IntKind.wrap IntKind.i64 (↑(UInt8.toNat y0) : Int)))) (
          none )) (
        iteP (decide ((0 : Int) ≤ IntKind.wrap IntKind.u8 (Int.fdiv (Int.fdiv x0 (4294967296 : Int)) (65536 : Int)))) (
          Option.bind ((ByteArray.mk #[(0 : UInt8), (1 : UInt8), (2 : UInt8), (2 : UInt8), (3 : UInt8), (3 : UInt8), (3 : UInt8), (3 : UInt8), (4 : UInt8), (4 : UInt8), (4 : UInt8), (4 : UInt8), (4 : UInt8), (4 : UInt8), (4 : UInt8), (4 : UInt8), (5 : UInt8), (5 : UInt8), (5 : UInt8), (5 : UInt8), (5 : UInt8), (5 : UInt8), (5 : UInt8), (5 : UInt8), (5 : UInt8), (5 : UInt8), (5 : UInt8), (5 : UInt8), (5 : UInt8), (5 : UInt8), (5 : UInt8), (5 : UInt8), (6 : UInt8), (6 : UInt8), (6 : UInt8), (6 : UInt8), (6 : UInt8), (6 : UInt8), (6 : UInt8), (6 : UInt8), (6 : UInt8), (6 : UInt8), (6 : UInt8), (6 : UInt8), (6 : UInt8), (6 : UInt8), (6 : UInt8), (6 : UInt8), (6 : UInt8), (6 : UInt8), (6 : UInt8), (6 : UInt8), (6 : UInt8), (6 : UInt8), (6 : UInt8), (6 : UInt8), (6 : UInt8), (6 : UInt8), (6 : UInt8), (6 : UInt8), (6 : UInt8), (6 : UInt8), (6 : UInt8), (6 : UInt8), (7 : UInt8), (7 : UInt8), (7 : UInt8), (7 : UInt8), (7 : UInt8), (7 : UInt8), (7 : UInt8), (7 : UInt8), (7 : UInt8), (7 : UInt8), (7 : UInt8), (7 : UInt8), (7 : UInt8), (7 : UInt8), (7 : UInt8), (7 : UInt8), (7 : UInt8), (7 : UInt8), (7 : UInt8), (7 : UInt8), (7 : UInt8), (7 : UInt8), (7 : UInt8), (7 : UInt8), (7 : UInt8), (7 : UInt8), (7 : UInt8), (7 : UInt8), (7 : UInt8), (7 : UInt8), (7 : UInt8), (7 : UInt8), (7 : UInt8), (7 : UInt8), (7 : UInt8), (7 : UInt8), (7 : UInt8), (7 : UInt8), (7 : UInt8), (7 : UInt8), (7 : UInt8), (7 : UInt8), (7 : UInt8), (7 : UInt8), (7 : UInt8), (7 : UInt8), (7 : UInt8), (7 : UInt8), (7 : UInt8), (7 : UInt8), (7 : UInt8), (7 : UInt8), (7 : UInt8), (7 : UInt8), (7 : UInt8), (7 : UInt8), (7 : UInt8), (7 : UInt8), (7 : UInt8), (7 : UInt8), (7 : UInt8), (7 : UInt8), (7 : UInt8), (7 : UInt8), (8 : UInt8), (8 : UInt8), (8 : UInt8), (8 : UInt8), (8 : UInt8), (8 : UInt8), (8 : UInt8), (8 : UInt8), (8 : UInt8), (8 : UInt8), (8 : UInt8), (8 : UInt8), (8 : UInt8), (8 : UInt8), (8 : UInt8), (8 : UInt8), (8 : UInt8), (8 : UInt8), (8 : UInt8), (8 : UInt8), (8 : UInt8), (8 : UInt8), (8 : UInt8), (8 : UInt8), (8 : UInt8), (8 : UInt8), (8 : UInt8), (8 : UInt8), (8 : UInt8), (8 : UInt8), (8 : UInt8), (8 : UInt8), (8 : UInt8), (8 : UInt8), (8 : UInt8), (8 : UInt8), (8 : UInt8), (8 : UInt8), (8 : UInt8), (8 : UInt8), (8 : UInt8), (8 : UInt8), (8 : UInt8), (8 : UInt8), (8 : UInt8), (8 : UInt8), (8 : UInt8), (8 : UInt8), (8 : UInt8), (8 : UInt8), (8 : UInt8), (8 : UInt8), (8 : UInt8), (8 : UInt8), (8 : UInt8), (8 : UInt8), (8 : UInt8), (8 : UInt8), (8 : UInt8), (8 : UInt8), (8 : UInt8), (8 : UInt8), (8 : UInt8), (8 : UInt8), (8 : UInt8), (8 : UInt8), (8 : UInt8), (8 : UInt8), (8 : UInt8), (8 : UInt8), (8 : UInt8), (8 : UInt8), (8 : UInt8), (8 : UInt8), (8 : UInt8), (8 : UInt8), (8 : UInt8), (8 : UInt8), (8 : UInt8), (8 : UInt8), (8 : UInt8), (8 : UInt8), (8 : UInt8), (8 : UInt8), (8 : UInt8), (8 : UInt8), (8 : UInt8), (8 : UInt8), (8 : UInt8), (8 : UInt8), (8 : UInt8), (8 : UInt8), (8 : UInt8), (8 : UInt8), (8 : UInt8), (8 : UInt8), (8 : UInt8), (8 : UInt8), (8 : UInt8), (8 : UInt8), (8 : UInt8), (8 : UInt8), (8 : UInt8), (8 : UInt8), (8 : UInt8), (8 : UInt8), (8 : UInt8), (8 : UInt8), (8 : UInt8), (8 : UInt8), (8 : UInt8), (8 : UInt8), (8 : UInt8), (8 : UInt8), (8 : UInt8), (8 : UInt8), (8 : UInt8), (8 : UInt8), (8 : UInt8), (8 : UInt8), (8 : UInt8), (8 : UInt8), (8 : UInt8), (8 : UInt8), (8 : UInt8), (8 : UInt8), (8 : UInt8), (8 : UInt8)])[Int.toNat (IntKind.wrap IntKind.u8 (Int.fdiv (Int.fdiv x0 (4294967296 : Int)) (65536 : Int)))]?) fun y1 =>
          some (IntKind.wrap IntKind.i64 ((48 : Int) + IntKind.wrap IntKind.i64 (↑(UInt8.toNat y1) : Int)))) (
          none ))) (
      iteP (decide (Int.fdiv x0 (4294967296 : Int) ≥ (256 : Int))) (
        iteP (decide ((0 : Int) ≤ IntKind.wrap IntKind.u8 (Int.fdiv (Int.fdiv x0 (4294967296 : Int)) (256 : Int)))) (
          Option.bind ((ByteArray.mk #[(0 : UInt8), (1 : UInt8), (2 : UInt8), (2 : UInt8), (3 : UInt8), (3 : UInt8), (3 : UInt8), (3 : UInt8), (4 : UInt8), (4 : UInt8), (4 : UInt8), (4 : UInt8), (4 : UInt8), (4 : UInt8), (4 : UInt8), (4 : UInt8), (5 : UInt8), (5 : UInt8), (5 : UInt8), (5 : UInt8), (5 : UInt8), (5 : UInt8), (5 : UInt8), (5 : UInt8), (5 : UInt8), (5 : UInt8), (5 : UInt8), (5 : UInt8), (5 : UInt8), (5 : UInt8), (5 : UInt8), (5 : UInt8), (6 : UInt8), (6 : UInt8), (6 : UInt8), (6 : UInt8), (6 : UInt8), (6 : UInt8), (6 : UInt8), (6 : UInt8), (6 : UInt8), (6 : UInt8), (6 : UInt8), (6 : UInt8), (6 : UInt8), (6 : UInt8), (6 : UInt8), (6 : UInt8), (6 : UInt8), (6 : UInt8), (6 : UInt8), (6 : UInt8), (6 : UInt8), (6 : UInt8), (6 : UInt8), (6 : UInt8), (6 : UInt8), (6 : UInt8), (6 : UInt8), (6 : UInt8), (6 : UInt8), (6 : UInt8), (6 : UInt8), (6 : UInt8), (7 : UInt8), (7 : UInt8), (7 : UInt8), (7 : UInt8), (7 : UInt8), (7 : UInt8), (7 : UInt8), (7 : UInt8), (7 : UInt8), (7 : UInt8), (7 : UInt8), (7 : UInt8), (7 : UInt8), (7 : UInt8), (7 : UInt8), (7 : UInt8), (7 : UInt8), (7 : UInt8), (7 : UInt8), (7 : UInt8), (7 : UInt8), (7 : UInt8), (7 : UInt8), (7 : UInt8), (7 : UInt8), (7 : UInt8), (7 : UInt8), (7 : UInt8), (7 : UInt8), (7 : UInt8), (7 : UInt8), (7 : UInt8), (7 : UInt8), (7 : UInt8), (7 : UInt8), (7 : UInt8), (7 : UInt8), (7 : UInt8), (7 : UInt8), (7 : UInt8), (7 : UInt8), (7 : UInt8), (7 : UInt8), (7 : UInt8), (7 : UInt8), (7 : UInt8), (7 : UInt8), (7 : UInt8), (7 : UInt8), (7 : UInt8), (7 : UInt8), (7 : UInt8), (7 : UInt8), (7 : UInt8), (7 : UInt8), (7 : UInt8), (7 : UInt8), (7 : UInt8), (7 : UInt8), (7 : UInt8), (7 : UInt8), (7 : UInt8), (7 : UInt8), (7 : UInt8), (8 : UInt8), (8 : UInt8), (8 : UInt8), (8 : UInt8), (8 : UInt8), (8 : UInt8), (8 : UInt8), (8 : UInt8), (8 : UInt8), (8 : UInt8), (8 : UInt8), (8 : UInt8), (8 : UInt8), (8 : UInt8), (8 : UInt8), (8 : UInt8), (8 : UInt8), (8 : UInt8), (8 : UInt8), (8 : UInt8), (8 : UInt8), (8 : UInt8), (8 : UInt8), (8 : UInt8), (8 : UInt8), (8 : UInt8), (8 : UInt8), (8 : UInt8), (8 : UInt8), (8 : UInt8), (8 : UInt8), (8 : UInt8), (8 : UInt8), (8 : UInt8), (8 : UInt8), (8 : UInt8), (8 : UInt8), (8 : UInt8), (8 : UInt8), (8 : UInt8), (8 : UInt8), (8 : UInt8), (8 : UInt8), (8 : UInt8), (8 : UInt8), (8 : UInt8), (8 : UInt8), (8 : UInt8), (8 : UInt8), (8 : UInt8), (8 : UInt8), (8 : UInt8), (8 : UInt8), (8 : UInt8), (8 : UInt8), (8 : UInt8), (8 : UInt8), (8 : UInt8), (8 : UInt8), (8 : UInt8), (8 : UInt8), (8 : UInt8), (8 : UInt8), (8 : UInt8), (8 : UInt8), (8 : UInt8), (8 : UInt8), (8 : UInt8), (8 : UInt8), (8 : UInt8), (8 : UInt8), (8 : UInt8), (8 : UInt8), (8 : UInt8), (8 : UInt8), (8 : UInt8), (8 : UInt8), (8 : UInt8), (8 : UInt8), (8 : UInt8), (8 : UInt8), (8 : UInt8), (8 : UInt8), (8 : UInt8), (8 : UInt8), (8 : UInt8), (8 : UInt8), (8 : UInt8), (8 : UInt8), (8 : UInt8), (8 : UInt8), (8 : UInt8), (8 : UInt8), (8 : UInt8), (8 : UInt8), (8 : UInt8), (8 : UInt8), (8 : UInt8), (8 : UInt8), (8 : UInt8), (8 : UInt8), (8 : UInt8), (8 : UInt8), (8 : UInt8), (8 : UInt8), (8 : UInt8), (8 : UInt8), (8 : UInt8), (8 : UInt8), (8 : UInt8), (8 : UInt8), (8 : UInt8), (8 : UInt8), (8 : UInt8), (8 : UInt8), (8 : UInt8), (8 : UInt8), (8 : UInt8), (8 : UInt8), (8 : UInt8), (8 : UInt8), (8 : UInt8), (8 : UInt8), (8 : UInt8), (8 : UInt8), (8 : UInt8), (8 : UInt8), (8 : UInt8)])[Int.toNat (IntKind.wrap IntKind.u8 (Int.fdiv (Int.fdiv x0 (4294967296 : Int)) (256 : Int)))]?) fun y2 =>
          some (IntKind.wrap IntKind.i64 ((40 : Int) + IntKind.wrap IntKind.i64 (↑(UInt8.toNat y2) : Int)))) (
          none )) (
        iteP (decide ((0 : Int) ≤ IntKind.wrap IntKind.u8 (Int.fdiv x0 (4294967296 : Int)))) (
          Option.bind ((ByteArray.mk #[(0 : UInt8), (1 : UInt8), (2 : UInt8), (2 : UInt8), (3 : UInt8), (3 : UInt8), (3 : UInt8), (3 : UInt8), (4 : UInt8), (4 : UInt8), (4 : UInt8), (4 : UInt8), (4 : UInt8), (4 : UInt8), (4 : UInt8), (4 : UInt8), (5 : UInt8), (5 : UInt8), (5 : UInt8), (5 : UInt8), (5 : UInt8), (5 : UInt8), (5 : UInt8), (5 : UInt8), (5 : UInt8), (5 : UInt8), (5 : UInt8), (5 : UInt8), (5 : UInt8), (5 : UInt8), (5 : UInt8), (5 : UInt8), (6 : UInt8), (6 : UInt8), (6 : UInt8), (6 : UInt8), (6 : UInt8), (6 : UInt8), (6 : UInt8), (6 : UInt8), (6 : UInt8), (6 : UInt8), (6 : UInt8), (6 : UInt8), (6 : UInt8), (6 : UInt8), (6 : UInt8), (6 : UInt8), (6 : UInt8), (6 : UInt8), (6 : UInt8), (6 : UInt8), (6 : UInt8), (6 : UInt8), (6 : UInt8), (6 : UInt8), (6 : UInt8), (6 : UInt8), (6 : UInt8), (6 : UInt8), (6 : UInt8), (6 : UInt8), (6 : UInt8), (6 : UInt8), (7 : UInt8), (7 : UInt8), (7 : UInt8), (7 : UInt8), (7 : UInt8), (7 : UInt8), (7 : UInt8), (7 : UInt8), (7 : UInt8), (7 : UInt8), (7 : UInt8), (7 : UInt8), (7 : UInt8), (7 : UInt8), (7 : UInt8), (7 : UInt8), (7 : UInt8), (7 : UInt8), (7 : UInt8), (7 : UInt8), (7 : UInt8), (7 : UInt8), (7 : UInt8), (7 : UInt8), (7 : UInt8), (7 : UInt8), (7 : UInt8), (7 : UInt8), (7 : UInt8), (7 : UInt8), (7 : UInt8), (7 : UInt8), (7 : UInt8), (7 : UInt8), (7 : UInt8), (7 : UInt8), (7 : UInt8), (7 : UInt8), (7 : UInt8), (7 : UInt8), (7 : UInt8), (7 : UInt8), (7 : UInt8), (7 : UInt8), (7 : UInt8), (7 : UInt8), (7 : UInt8), (7 : UInt8), (7 : UInt8), (7 : UInt8), (7 : UInt8), (7 : UInt8), (7 : UInt8), (7 : UInt8), (7 : UInt8), (7 : UInt8), (7 : UInt8), (7 : UInt8), (7 : UInt8), (7 : UInt8), (7 : UInt8), (7 : UInt8), (7 : UInt8), (7 : UInt8), (8 : UInt8), (8 : UInt8), (8 : UInt8), (8 : UInt8), (8 : UInt8), (8 : UInt8), (8 : UInt8), (8 : UInt8), (8 : UInt8), (8 : UInt8), (8 : UInt8), (8 : UInt8), (8 : UInt8), (8 : UInt8), (8 : UInt8), (8 : UInt8), (8 : UInt8), (8 : UInt8), (8 : UInt8), (8 : UInt8), (8 : UInt8), (8 : UInt8), (8 : UInt8), (8 : UInt8), (8 : UInt8), (8 : UInt8), (8 : UInt8), (8 : UInt8), (8 : UInt8), (8 : UInt8), (8 : UInt8), (8 : UInt8), (8 : UInt8), (8 : UInt8), (8 : UInt8), (8 : UInt8), (8 : UInt8), (8 : UInt8), (8 : UInt8), (8 : UInt8), (8 : UInt8), (8 : UInt8), (8 : UInt8), (8 : UInt8), (8 : UInt8), (8 : UInt8), (8 : UInt8), (8 : UInt8), (8 : UInt8), (8 : UInt8), (8 : UInt8), (8 : UInt8), (8 : UInt8), (8 : UInt8), (8 : UInt8), (8 : UInt8), (8 : UInt8), (8 : UInt8), (8 : UInt8), (8 : UInt8), (8 : UInt8), (8 : UInt8), (8 : UInt8), (8 : UInt8), (8 : UInt8), (8 : UInt8), (8 : UInt8), (8 : UInt8), (8 : UInt8), (8 : UInt8), (8 : UInt8), (8 : UInt8), (8 : UInt8), (8 : UInt8), (8 : UInt8), (8 : UInt8), (8 : UInt8), (8 : UInt8), (8 : UInt8), (8 : UInt8), (8 : UInt8), (8 : UInt8), (8 : UInt8), (8 : UInt8), (8 : UInt8), (8 : UInt8), (8 : UInt8), (8 : UInt8), (8 : UInt8), (8 : UInt8), (8 : UInt8), (8 : UInt8), (8 : UInt8), (8 : UInt8), (8 : UInt8), (8 : UInt8), (8 : UInt8), (8 : UInt8), (8 : UInt8), (8 : UInt8), (8 : UInt8), (8 : UInt8), (8 : UInt8), (8 : UInt8), (8 : UInt8), (8 : UInt8), (8 : UInt8), (8 : UInt8), (8 : UInt8), (8 : UInt8), (8 : UInt8), (8 : UInt8), (8 : UInt8), (8 : UInt8), (8 : UInt8), (8 : UInt8), (8 : UInt8), (8 : UInt8), (8 : UInt8), (8 : UInt8), (8 : UInt8), (8 : UInt8), (8 : UInt8), (8 : UInt8), (8 : UInt8), (8 : UInt8), (8 : UInt8), (8 : UInt8)])[Int.toNat (IntKind.wrap IntKind.u8 (Int.fdiv x0 (4294967296 : Int)))]?) fun y3 =>
          some (IntKind.wrap IntKind.i64 ((32 : Int) + IntKind.wrap IntKind.i64 (↑(UInt8.toNat y3) : Int)))) (
          none )))) (
    iteP (decide (x0 ≥ (65536 : Int))) (
      iteP (decide (Int.fdiv x0 (65536 : Int) ≥ (256 : Int))) (
        iteP (decide ((0 : Int) ≤ IntKind.wrap IntKind.u8 (Int.fdiv (Int.fdiv x0 (65536 : Int)) (256 : Int)))) (
          Option.bind ((ByteArray.mk #[(0 : UInt8), (1 : UInt8), (2 : UInt8), (2 : UInt8), (3 : UInt8), (3 : UInt8), (3 : UInt8), (3 : UInt8), (4 : UInt8), (4 : UInt8), (4 : UInt8), (4 : UInt8), (4 : UInt8), (4 : UInt8), (4 : UInt8), (4 : UInt8), (5 : UInt8), (5 : UInt8), (5 : UInt8), (5 : UInt8), (5 : UInt8), (5 : UInt8), (5 : UInt8), (5 : UInt8), (5 : UInt8), (5 : UInt8), (5 : UInt8), (5 : UInt8), (5 : UInt8), (5 : UInt8), (5 : UInt8), (5 : UInt8), (6 : UInt8), (6 : UInt8), (6 : UInt8), (6 : UInt8), (6 : UInt8), (6 : UInt8), (6 : UInt8), (6 : UInt8), (6 : UInt8), (6 : UInt8), (6 : UInt8), (6 : UInt8), (6 : UInt8), (6 : UInt8), (6 : UInt8), (6 : UInt8), (6 : UInt8), (6 : UInt8), (6 : UInt8), (6 : UInt8), (6 : UInt8), (6 : UInt8), (6 : UInt8), (6 : UInt8), (6 : UInt8), (6 : UInt8), (6 : UInt8), (6 : UInt8), (6 : UInt8), (6 : UInt8), (6 : UInt8), (6 : UInt8), (7 : UInt8), (7 : UInt8), (7 : UInt8), (7 : UInt8), (7 : UInt8), (7 : UInt8), (7 : UInt8), (7 : UInt8), (7 : UInt8), (7 : UInt8), (7 : UInt8), (7 : UInt8), (7 : UInt8), (7 : UInt8), (7 : UInt8), (7 : UInt8), (7 : UInt8), (7 : UInt8), (7 : UInt8), (7 : UInt8), (7 : UInt8), (7 : UInt8), (7 : UInt8), (7 : UInt8), (7 : UInt8), (7 : UInt8), (7 : UInt8), (7 : UInt8), (7 : UInt8), (7 : UInt8), (7 : UInt8), (7 : UInt8), (7 : UInt8), (7 : UInt8), (7 : UInt8), (7 : UInt8), (7 : UInt8), (7 : UInt8), (7 : UInt8), (7 : UInt8), (7 : UInt8), (7 : UInt8), (7 : UInt8), (7 : UInt8), (7 : UInt8), (7 : UInt8), (7 : UInt8), (7 : UInt8), (7 : UInt8), (7 : UInt8), (7 : UInt8), (7 : UInt8), (7 : UInt8), (7 : UInt8), (7 : UInt8), (7 : UInt8), (7 : UInt8), (7 : UInt8), (7 : UInt8), (7 : UInt8), (7 : UInt8), (7 : UInt8), (7 : UInt8), (7 : UInt8), (8 : UInt8), (8 : UInt8), (8 : UInt8), (8 : UInt8), (8 : UInt8), (8 : UInt8), (8 : UInt8), (8 : UInt8), (8 : UInt8), (8 : UInt8), (8 : UInt8), (8 : UInt8), (8 : UInt8), (8 : UInt8), (8 : UInt8), (8 : UInt8), (8 : UInt8), (8 : UInt8), (8 : UInt8), (8 : UInt8), (8 : UInt8), (8 : UInt8), (8 : UInt8), (8 : UInt8), (8 : UInt8), (8 : UInt8), (8 : UInt8), (8 : UInt8), (8 : UInt8), (8 : UInt8), (8 : UInt8), (8 : UInt8), (8 : UInt8), (8 : UInt8), (8 : UInt8), (8 : UInt8), (8 : UInt8), (8 : UInt8), (8 : UInt8), (8 : UInt8), (8 : UInt8), (8 : UInt8), (8 : UInt8), (8 : UInt8), (8 : UInt8), (8 : UInt8), (8 : UInt8), (8 : UInt8), (8 : UInt8), (8 : UInt8), (8 : UInt8), (8 : UInt8), (8 : UInt8), (8 : UInt8), (8 : UInt8), (8 : UInt8), (8 : UInt8), (8 : UInt8), (8 : UInt8), (8 : UInt8), (8 : UInt8), (8 : UInt8), (8 : UInt8), (8 : UInt8), (8 : UInt8), (8 : UInt8), (8 : UInt8), (8 : UInt8), (8 : UInt8), (8 : UInt8), (8 : UInt8), (8 : UInt8), (8 : UInt8), (8 : UInt8), (8 : UInt8), (8 : UInt8), (8 : UInt8), (8 : UInt8), (8 : UInt8), (8 : UInt8), (8 : UInt8), (8 : UInt8), (8 : UInt8), (8 : UInt8), (8 : UInt8), (8 : UInt8), (8 : UInt8), (8 : UInt8), (8 : UInt8), (8 : UInt8), (8 : UInt8), (8 : UInt8), (8 : UInt8), (8 : UInt8), (8 : UInt8), (8 : UInt8), (8 : UInt8), (8 : UInt8), (8 : UInt8), (8 : UInt8), (8 : UInt8), (8 : UInt8), (8 : UInt8), (8 : UInt8), (8 : UInt8), (8 : UInt8), (8 : UInt8), (8 : UInt8), (8 : UInt8), (8 : UInt8), (8 : UInt8), (8 : UInt8), (8 : UInt8), (8 : UInt8), (8 : UInt8), (8 : UInt8), (8 : UInt8), (8 : UInt8), (8 : UInt8), (8 : UInt8), (8 : UInt8), (8 : UInt8), (8 : UInt8), (8 : UInt8), (8 : UInt8), (8 : UInt8), (8 : UInt8), (8 : UInt8)])[Int.toNat (IntKind.wrap IntKind.u8 (Int.fdiv (Int.fdiv x0 (65536 : Int)) (256 : Int)))]?) fun y4 =>
          some (IntKind.wrap IntKind.i64 ((24 : Int) + IntKind.wrap IntKind.i64 (↑(UInt8.toNat y4) : Int)))) (
          none )) (
        iteP (decide ((0 : Int) ≤ IntKind.wrap IntKind.u8 (Int.fdiv x0 (65536 : Int)))) (
          Option.bind ((ByteArray.mk #[(0 : UInt8), (1 : UInt8), (2 : UInt8), (2 : UInt8), (3 : UInt8), (3 : UInt8), (3 : UInt8), (3 : UInt8), (4 : UInt8), (4 : UInt8), (4 : UInt8), (4 : UInt8), (4 : UInt8), (4 : UInt8), (4 : UInt8), (4 : UInt8), (5 : UInt8), (5 : UInt8), (5 : UInt8), (5 : UInt8), (5 : UInt8), (5 : UInt8), (5 : UInt8), (5 : UInt8), (5 : UInt8), (5 : UInt8), (5 : UInt8), (5 : UInt8), (5 : UInt8), (5 : UInt8), (5 : UInt8), (5 : UInt8), (6 : UInt8), (6 : UInt8), (6 : UInt8), (6 : UInt8), (6 : UInt8), (6 : UInt8), (6 : UInt8), (6 : UInt8), (6 : UInt8), (6 : UInt8), (6 : UInt8), (6 : UInt8), (6 : UInt8), (6 : UInt8), (6 : UInt8), (6 : UInt8), (6 : UInt8), (6 : UInt8), (6 : UInt8), (6 : UInt8), (6 : UInt8), (6 : UInt8), (6 : UInt8), (6 : UInt8), (6 : UInt8), (6 : UInt8), (6 : UInt8), (6 : UInt8), (6 : UInt8), (6 : UInt8), (6 : UInt8), (6 : UInt8), (7 : UInt8), (7 : UInt8), (7 : UInt8), (7 : UInt8), (7 : UInt8), (7 : UInt8), (7 : UInt8), (7 : UInt8), (7 : UInt8), (7 : UInt8), (7 : UInt8), (7 : UInt8), (7 : UInt8), (7 : UInt8), (7 : UInt8), (7 : UInt8), (7 : UInt8), (7 : UInt8), (7 : UInt8), (7 : UInt8), (7 : UInt8), (7 : UInt8), (7 : UInt8), (7 : UInt8), (7 : UInt8), (7 : UInt8), (7 : UInt8), (7 : UInt8), (7 : UInt8), (7 : UInt8), (7 : UInt8), (7 : UInt8), (7 : UInt8), (7 : UInt8), (7 : UInt8), (7 : UInt8), (7 : UInt8), (7 : UInt8), (7 : UInt8), (7 : UInt8), (7 : UInt8), (7 : UInt8), (7 : UInt8), (7 : UInt8), (7 : UInt8), (7 : UInt8), (7 : UInt8), (7 : UInt8), (7 : UInt8), (7 : UInt8), (7 : UInt8), (7 : UInt8), (7 : UInt8), (7 : UInt8), (7 : UInt8), (7 : UInt8), (7 : UInt8), (7 : UInt8), (7 : UInt8), (7 : UInt8), (7 : UInt8), (7 : UInt8), (7 : UInt8), (7 : UInt8), (8 : UInt8), (8 : UInt8), (8 : UInt8), (8 : UInt8), (8 : UInt8), (8 : UInt8), (8 : UInt8), (8 : UInt8), (8 : UInt8), (8 : UInt8), (8 : UInt8), (8 : UInt8), (8 : UInt8), (8 : UInt8), (8 : UInt8), (8 : UInt8), (8 : UInt8), (8 : UInt8), (8 : UInt8), (8 : UInt8), (8 : UInt8), (8 : UInt8), (8 : UInt8), (8 : UInt8), (8 : UInt8), (8 : UInt8), (8 : UInt8), (8 : UInt8), (8 : UInt8), (8 : UInt8), (8 : UInt8), (8 : UInt8), (8 : UInt8), (8 : UInt8), (8 : UInt8), (8 : UInt8), (8 : UInt8), (8 : UInt8), (8 : UInt8), (8 : UInt8), (8 : UInt8), (8 : UInt8), (8 : UInt8), (8 : UInt8), (8 : UInt8), (8 : UInt8), (8 : UInt8), (8 : UInt8), (8 : UInt8), (8 : UInt8), (8 : UInt8), (8 : UInt8), (8 : UInt8), (8 : UInt8), (8 : UInt8), (8 : UInt8), (8 : UInt8), (8 : UInt8), (8 : UInt8), (8 : UInt8), (8 : UInt8), (8 : UInt8), (8 : UInt8), (8 : UInt8), (8 : UInt8), (8 : UInt8), (8 : UInt8), (8 : UInt8), (8 : UInt8), (8 : UInt8), (8 : UInt8), (8 : UInt8), (8 : UInt8), (8 : UInt8), (8 : UInt8), (8 : UInt8), (8 : UInt8), (8 : UInt8), (8 : UInt8), (8 : UInt8), (8 : UInt8), (8 : UInt8), (8 : UInt8), (8 : UInt8), (8 : UInt8), (8 : UInt8), (8 : UInt8), (8 : UInt8), (8 : UInt8), (8 : UInt8), (8 : UInt8), (8 : UInt8), (8 : UInt8), (8 : UInt8), (8 : UInt8), (8 : UInt8), (8 : UInt8), (8 : UInt8), (8 : UInt8), (8 : UInt8), (8 : UInt8), (8 : UInt8), (8 : UInt8), (8 : UInt8), (8 : UInt8), (8 : UInt8), (8 : UInt8), (8 : UInt8), (8 : UInt8), (8 : UInt8), (8 : UInt8), (8 : UInt8), (8 : UInt8), (8 : UInt8), (8 : UInt8), (8 : UInt8), (8 : UInt8), (8 : UInt8), (8 : UInt8), (8 : UInt8), (8 : UInt8), (8 : UInt8), (8 : UInt8), (8 : UInt8), (8 : UInt8), (8 : UInt8), (8 : UInt8), (8 : UInt8)])[Int.toNat (IntKind.wrap IntKind.u8 (Int.fdiv x0 (65536 : Int)))]?) fun y5 =>
          some (IntKind.wrap IntKind.i64 ((16 : Int) + IntKind.wrap IntKind.i64 (↑(UInt8.toNat y5) : Int)))) (
          none ))) (
      iteP (decide (x0 ≥ (256 : Int))) (
        iteP (decide ((0 : Int) ≤ IntKind.wrap IntKind.u8 (Int.fdiv x0 (256 : Int)))) (
          Option.bind ((ByteArray.mk #[(0 : UInt8), (1 : UInt8), (2 : UInt8), (2 : UInt8), (3 : UInt8), (3 : UInt8), (3 : UInt8), (3 : UInt8), (4 : UInt8), (4 : UInt8), (4 : UInt8), (4 : UInt8), (4 : UInt8), (4 : UInt8), (4 : UInt8), (4 : UInt8), (5 : UInt8), (5 : UInt8), (5 : UInt8), (5 : UInt8), (5 : UInt8), (5 : UInt8), (5 : UInt8), (5 : UInt8), (5 : UInt8), (5 : UInt8), (5 : UInt8), (5 : UInt8), (5 : UInt8), (5 : UInt8), (5 : UInt8), (5 : UInt8), (6 : UInt8), (6 : UInt8), (6 : UInt8), (6 : UInt8), (6 : UInt8), (6 : UInt8), (6 : UInt8), (6 : UInt8), (6 : UInt8), (6 : UInt8), (6 : UInt8), (6 : UInt8), (6 : UInt8), (6 : UInt8), (6 : UInt8), (6 : UInt8), (6 : UInt8), (6 : UInt8), (6 : UInt8), (6 : UInt8), (6 : UInt8), (6 : UInt8), (6 : UInt8), (6 : UInt8), (6 : UInt8), (6 : UInt8), (6 : UInt8), (6 : UInt8), (6 : UInt8), (6 : UInt8), (6 : UInt8), (6 : UInt8), (7 : UInt8), (7 : UInt8), (7 : UInt8), (7 : UInt8), (7 : UInt8), (7 : UInt8), (7 : UInt8), (7 : UInt8), (7 : UInt8), (7 : UInt8), (7 : UInt8), (7 : UInt8), (7 : UInt8), (7 : UInt8), (7 : UInt8), (7 : UInt8), (7 : UInt8), (7 : UInt8), (7 : UInt8), (7 : UInt8), (7 : UInt8), (7 : UInt8), (7 : UInt8), (7 : UInt8), (7 : UInt8), (7 : UInt8), (7 : UInt8), (7 : UInt8), (7 : UInt8), (7 : UInt8), (7 : UInt8), (7 : UInt8), (7 : UInt8), (7 : UInt8), (7 : UInt8), (7 : UInt8), (7 : UInt8), (7 : UInt8), (7 : UInt8), (7 : UInt8), (7 : UInt8), (7 : UInt8), (7 : UInt8), (7 : UInt8), (7 : UInt8), (7 : UInt8), (7 : UInt8), (7 : UInt8), (7 : UInt8), (7 : UInt8), (7 : UInt8), (7 : UInt8), (7 : UInt8), (7 : UInt8), (7 : UInt8), (7 : UInt8), (7 : UInt8), (7 : UInt8), (7 : UInt8), (7 : UInt8), (7 : UInt8), (7 : UInt8), (7 : UInt8), (7 : UInt8), (8 : UInt8), (8 : UInt8), (8 : UInt8), (8 : UInt8), (8 : UInt8), (8 : UInt8), (8 : UInt8), (8 : UInt8), (8 : UInt8), (8 : UInt8), (8 : UInt8), (8 : UInt8), (8 : UInt8), (8 : UInt8), (8 : UInt8), (8 : UInt8), (8 : UInt8), (8 : UInt8), (8 : UInt8), (8 : UInt8), (8 : UInt8), (8 : UInt8), (8 : UInt8), (8 : UInt8), (8 : UInt8), (8 : UInt8), (8 : UInt8), (8 : UInt8), (8 : UInt8), (8 : UInt8), (8 : UInt8), (8 : UInt8), (8 : UInt8), (8 : UInt8), (8 : UInt8), (8 : UInt8), (8 : UInt8), (8 : UInt8), (8 : UInt8), (8 : UInt8), (8 : UInt8), (8 : UInt8), (8 : UInt8), (8 : UInt8), (8 : UInt8), (8 : UInt8), (8 : UInt8), (8 : UInt8), (8 : UInt8), (8 : UInt8), (8 : UInt8), (8 : UInt8), (8 : UInt8), (8 : UInt8), (8 : UInt8), (8 : UInt8), (8 : UInt8), (8 : UInt8), (8 : UInt8), (8 : UInt8), (8 : UInt8), (8 : UInt8), (8 : UInt8), (8 : UInt8), (8 : UInt8), (8 : UInt8), (8 : UInt8), (8 : UInt8), (8 : UInt8), (8 : UInt8), (8 : UInt8), (8 : UInt8), (8 : UInt8), (8 : UInt8), (8 : UInt8), (8 : UInt8), (8 : UInt8), (8 : UInt8), (8 : UInt8), (8 : UInt8), (8 : UInt8), (8 : UInt8), (8 : UInt8), (8 : UInt8), (8 : UInt8), (8 : UInt8), (8 : UInt8), (8 : UInt8), (8 : UInt8), (8 : UInt8), (8 : UInt8), (8 : UInt8), (8 : UInt8), (8 : UInt8), (8 : UInt8), (8 : UInt8), (8 : UInt8), (8 : UInt8), (8 : UInt8), (8 : UInt8), (8 : UInt8), (8 : UInt8), (8 : UInt8), (8 : UInt8), (8 : UInt8), (8 : UInt8), (8 : UInt8), (8 : UInt8), (8 : UInt8), (8 : UInt8), (8 : UInt8), (8 : UInt8), (8 : UInt8), (8 : UInt8), (8 : UInt8), (8 : UInt8), (8 : UInt8), (8 : UInt8), (8 : UInt8), (8 : UInt8), (8 : UInt8), (8 : UInt8), (8 : UInt8), (8 : UInt8), (8 : UInt8), (8 : UInt8), (8 : UInt8), (8 : UInt8)])[Int.toNat (IntKind.wrap IntKind.u8 (Int.fdiv x0 (256 : Int)))]?) fun y6 =>
          some (IntKind.wrap IntKind.i64 ((8 : Int) + IntKind.wrap IntKind.i64 (↑(UInt8.toNat y6) : Int)))) (
          none )) (
        iteP (decide ((0 : Int) ≤ IntKind.wrap IntKind.u8 x0)) (
          Option.bind ((ByteArray.mk #[(0 : UInt8), (1 : UInt8), (2 : UInt8), (2 : UInt8), (3 : UInt8), (3 : UInt8), (3 : UInt8), (3 : UInt8), (4 : UInt8), (4 : UInt8), (4 : UInt8), (4 : UInt8), (4 : UInt8), (4 : UInt8), (4 : UInt8), (4 : UInt8), (5 : UInt8), (5 : UInt8), (5 : UInt8), (5 : UInt8), (5 : UInt8), (5 : UInt8), (5 : UInt8), (5 : UInt8), (5 : UInt8), (5 : UInt8), (5 : UInt8), (5 : UInt8), (5 : UInt8), (5 : UInt8), (5 : UInt8), (5 : UInt8), (6 : UInt8), (6 : UInt8), (6 : UInt8), (6 : UInt8), (6 : UInt8), (6 : UInt8), (6 : UInt8), (6 : UInt8), (6 : UInt8), (6 : UInt8), (6 : UInt8), (6 : UInt8), (6 : UInt8), (6 : UInt8), (6 : UInt8), (6 : UInt8), (6 : UInt8), (6 : UInt8), (6 : UInt8), (6 : UInt8), (6 : UInt8), (6 : UInt8), (6 : UInt8), (6 : UInt8), (6 : UInt8), (6 : UInt8), (6 : UInt8), (6 : UInt8), (6 : UInt8), (6 : UInt8), (6 : UInt8), (6 : UInt8), (7 : UInt8), (7 : UInt8), (7 : UInt8), (7 : UInt8), (7 : UInt8), (7 : UInt8), (7 : UInt8), (7 : UInt8), (7 : UInt8), (7 : UInt8), (7 : UInt8), (7 : UInt8), (7 : UInt8), (7 : UInt8), (7 : UInt8), (7 : UInt8), (7 : UInt8), (7 : UInt8), (7 : UInt8), (7 : UInt8), (7 : UInt8), (7 : UInt8), (7 : UInt8), (7 : UInt8), (7 : UInt8), (7 : UInt8), (7 : UInt8), (7 : UInt8), (7 : UInt8), (7 : UInt8), (7 : UInt8), (7 : UInt8), (7 : UInt8), (7 : UInt8), (7 : UInt8), (7 : UInt8), (7 : UInt8), (7 : UInt8), (7 : UInt8), (7 : UInt8), (7 : UInt8), (7 : UInt8), (7 : UInt8), (7 : UInt8), (7 : UInt8), (7 : UInt8), (7 : UInt8), (7 : UInt8), (7 : UInt8), (7 : UInt8), (7 : UInt8), (7 : UInt8), (7 : UInt8), (7 : UInt8), (7 : UInt8), (7 : UInt8), (7 : UInt8), (7 : UInt8), (7 : UInt8), (7 : UInt8), (7 : UInt8), (7 : UInt8), (7 : UInt8), (7 : UInt8), (8 : UInt8), (8 : UInt8), (8 : UInt8), (8 : UInt8), (8 : UInt8), (8 : UInt8), (8 : UInt8), (8 : UInt8), (8 : UInt8), (8 : UInt8), (8 : UInt8), (8 : UInt8), (8 : UInt8), (8 : UInt8), (8 : UInt8), (8 : UInt8), (8 : UInt8), (8 : UInt8), (8 : UInt8), (8 : UInt8), (8 : UInt8), (8 : UInt8), (8 : UInt8), (8 : UInt8), (8 : UInt8), (8 : UInt8), (8 : UInt8), (8 : UInt8), (8 : UInt8), (8 : UInt8), (8 : UInt8), (8 : UInt8), (8 : UInt8), (8 : UInt8), (8 : UInt8), (8 : UInt8), (8 : UInt8), (8 : UInt8), (8 : UInt8), (8 : UInt8), (8 : UInt8), (8 : UInt8), (8 : UInt8), (8 : UInt8), (8 : UInt8), (8 : UInt8), (8 : UInt8), (8 : UInt8), (8 : UInt8), (8 : UInt8), (8 : UInt8), (8 : UInt8), (8 : UInt8), (8 : UInt8), (8 : UInt8), (8 : UInt8), (8 : UInt8), (8 : UInt8), (8 : UInt8), (8 : UInt8), (8 : UInt8), (8 : UInt8), (8 : UInt8), (8 : UInt8), (8 : UInt8), (8 : UInt8), (8 : UInt8), (8 : UInt8), (8 : UInt8), (8 : UInt8), (8 : UInt8), (8 : UInt8), (8 : UInt8), (8 : UInt8), (8 : UInt8), (8 : UInt8), (8 : UInt8), (8 : UInt8), (8 : UInt8), (8 : UInt8), (8 : UInt8), (8 : UInt8), (8 : UInt8), (8 : UInt8), (8 : UInt8), (8 : UInt8), (8 : UInt8), (8 : UInt8), (8 : UInt8), (8 : UInt8), (8 : UInt8), (8 : UInt8), (8 : UInt8), (8 : UInt8), (8 : UInt8), (8 : UInt8), (8 : UInt8), (8 : UInt8), (8 : UInt8), (8 : UInt8), (8 : UInt8), (8 : UInt8), (8 : UInt8), (8 : UInt8), (8 : UInt8), (8 : UInt8), (8 : UInt8), (8 : UInt8), (8 : UInt8), (8 : UInt8), (8 : UInt8), (8 : UInt8), (8 : UInt8), (8 : UInt8), (8 : UInt8), (8 : UInt8), (8 : UInt8), (8 : UInt8), (8 : UInt8), (8 : UInt8), (8 : UInt8), (8 : UInt8), (8 : UInt8), (8 : UInt8), (8 : UInt8), (8 : UInt8), (8 : UInt8), (8 : UInt8)])[Int.toNat (IntKind.wrap IntKind.u8 x0)]?) fun y7 =>
          some (IntKind.wrap IntKind.i64 ((0 : Int) + IntKind.wrap IntKind.i64 (↑(UInt8.toNat y7) : Int)))) (
          none ))))
noncomputable def T227 (N : Nat) : Pk → Tr Pk := tellS s227 w227 (F227 N)
theorem T227_ok (N : Nat) : FOK Tryz.prog (227) (T227 N) :=
  (fn_ok2 ownT mix (tab227_ok N) Tryz.func227 s227 w227 [] (cuts := []) trivial (fun _ => by kernel_rfl) (by decide +kernel) (F227 N) (fun x => by kernel_rfl))
@[reducible] def s161 : SP := ⟨[.int .u64], []⟩
noncomputable def tab161 (N : Nat) : List (Nat × (Pk → Tr Pk)) := [(227, T227 N)]
theorem tab161_ok (N : Nat) : TabOK Tryz.prog (tab161 N) := ⟨T227_ok N, trivial⟩
@[reducible] def w161 : List SP := [⟨[.int .i64], []⟩]
noncomputable def F161 (N : Nat) : (Int) → Option (Int)
  | x0 =>
  Option.bind (F227 N x0) fun y0 =>
  some (y0)
noncomputable def T161 (N : Nat) : Pk → Tr Pk := tellS s161 w161 (F161 N)
theorem T161_ok (N : Nat) : FOK Tryz.prog (161) (T161 N) :=
  (fn_ok2 ownT mix (tab161_ok N) Tryz.func161 s161 w161 [] (cuts := []) trivial (fun _ => by kernel_rfl) (by decide +kernel) (F161 N) (fun x => by kernel_rfl))
@[reducible] def s98 : SP := ⟨[.agg [.int .i64, .int .i64], .int .i64], []⟩
noncomputable def tab98 (N : Nat) : List (Nat × (Pk → Tr Pk)) := [(161, T161 N)]
theorem tab98_ok (N : Nat) : TabOK Tryz.prog (tab98 N) := ⟨T161_ok N, trivial⟩
@[reducible] def w98 : List SP := [⟨[.bool], []⟩]
noncomputable def F98 (N : Nat) : (Int × Int × Int) → Option (Bool)
  | (x0, x1, x2) =>
  iteP (decide (x0 < (1 : Int))) (
    some (false)) (
    iteP (decide (x0 > (65535 : Int))) (
      some (false)) (
      iteP (IntKind.wrap IntKind.i64 (↑(BitVec.toNat (BitVec.ofInt (64 : Nat) x0 &&& BitVec.ofInt (64 : Nat) (IntKind.wrap IntKind.i64 (x0 + (1 : Int))))) : Int) != (0 : Int)) (
        some (false)) (
        iteP (decide (x1 < (0 : Int))) (
          some (false)) (
          iteP (decide (x1 > x2)) (
            some (false)) (
            Option.bind (F161 N (IntKind.wrap IntKind.u64 x0)) fun y0 =>
            some (decide (IntKind.wrap IntKind.i64 (x1 + y0) ≤ x2)))))))
noncomputable def T98 (N : Nat) : Pk → Tr Pk := tellS s98 w98 (F98 N)
theorem T98_ok (N : Nat) : FOK Tryz.prog (98) (T98 N) :=
  (fn_ok2 ownT mix (tab98_ok N) Tryz.func98 s98 w98 [] (cuts := []) trivial (fun _ => by kernel_rfl) (by decide +kernel) (F98 N) (fun x => by kernel_rfl))
@[reducible] def s96 : SP := ⟨[.agg [.int .i64, .int .i64]], []⟩
noncomputable def tab96 (N : Nat) : List (Nat × (Pk → Tr Pk)) := []
theorem tab96_ok (N : Nat) : TabOK Tryz.prog (tab96 N) := trivial
@[reducible] def w96 : List SP := [⟨[.int .i64], []⟩]
noncomputable def F96 (N : Nat) : (Int × Int) → Option (Int)
  | (x0, x1) =>
  iteP (decide (x1 < (0 : Int))) (
    none ) (
    some (IntKind.wrap IntKind.i64 (x0 * (2 : Int) ^ min (Int.toNat x1) (64 : Nat))))
noncomputable def T96 (N : Nat) : Pk → Tr Pk := tellS s96 w96 (F96 N)
theorem T96_ok (N : Nat) : FOK Tryz.prog (96) (T96 N) :=
  (fn_ok2 ownT mix (tab96_ok N) Tryz.func96 s96 w96 [] (cuts := []) trivial (fun _ => by kernel_rfl) (by decide +kernel) (F96 N) (fun x => by kernel_rfl))
@[reducible] def s39 : SP := ⟨[.agg [.int .i64, .int .i64, .bool, .bool, .int .i64, .int .i64, .int .i64, .int .i64, .int .i64, .int .i64]], []⟩
noncomputable def tab39 (N : Nat) : List (Nat × (Pk → Tr Pk)) := [(95, T95 N), (98, T98 N), (96, T96 N)]
theorem tab39_ok (N : Nat) : TabOK Tryz.prog (tab39 N) := ⟨T95_ok N, T98_ok N, T96_ok N, trivial⟩
@[reducible] def L39_250 : LD := ⟨250, [28, 1, 29, 3], [(.ret, [2]), (.exit 1, [])], ⟨[.arr y1 3, .adr 0 [], .int .i64, .int .i64], [.var 43 (.agg [.int .i64, .int .i64, .bool, .bool, .int .i64, .int .i64, .int .i64, .int .i64, .int .i64, .int .i64])]⟩, [(.ret, ⟨[.bool], []⟩), (.exit 1, ⟨[], []⟩)]⟩
abbrev P39_250 : Type := (List (Int × (Int × Unit))) × Int × Int × Int × Int × Bool × Bool × Int × Int × Int × Int × Int × Int
abbrev R39_250 : Type := ((Bool) ⊕ (Unit))
noncomputable def B39_250 (N : Nat) (f : P39_250 → Option R39_250) : P39_250 → Option R39_250
  | (x0, x1, x2, x3, x4, x5, x6, x7, x8, x9, x10, x11, x12) =>
  iteP (decide (x1 < (3 : Int))) (
    iteP (within x1 (List.length x0)) (
      Option.bind (x0[Int.toNat x1]?) fun y0 =>
      Option.bind (F98 N (y0.1, y0.2.1, x3)) fun y1 =>
      iteP (!y1) (
        some (.inl (false))) (
        Option.bind (F96 N (y0.1, y0.2.1)) fun y2 =>
        iteP (IntKind.wrap IntKind.i64 (↑(BitVec.toNat (BitVec.ofInt (64 : Nat) x2 &&& BitVec.ofInt (64 : Nat) y2)) : Int) != (0 : Int)) (
          some (.inl (false))) (
          Option.bind (F96 N (y0.1, y0.2.1)) fun y3 =>
          Option.bind (f (x0, IntKind.wrap IntKind.i64 (x1 + (1 : Int)), IntKind.wrap IntKind.i64 (↑(BitVec.toNat (BitVec.ofInt (64 : Nat) x2 ||| BitVec.ofInt (64 : Nat) y3)) : Int), x3, x4, x5, x6, x7, x8, x9, x10, x11, x12)) fun r => match r with | .inl y => some (.inl y) | .inr y => some (.inr y)))) (
      none )) (
    some (.inr (())))
noncomputable def F39_250 (N : Nat) : Nat → P39_250 → Option R39_250
  | 0, _ => none
  | k + 1, x => B39_250 N (F39_250 N k) x
noncomputable def C39_250 (N : Nat) (k : Nat) : Cut := L39_250.cut (F39_250 N k)
theorem C39_250_ok (N : Nat) (k : Nat) : CutAt Tryz.prog false Tryz.f39 [] 250 (C39_250 N k) :=
  L39_250.loopT ownT mix (tab39_ok N) Tryz.f39 [] (cuts := []) trivial (by decide +kernel) (by kernel_rfl) (B39_250 N) (F39_250 N) (fun _ => rfl) (fun _ _ => rfl) (fun f x => by kernel_rfl) k
@[reducible] def L39_7 : LD := ⟨7, [1], [(.ret, [2]), (.normal, [2])], ⟨[.adr 0 []], [.var 43 (.agg [.int .i64, .int .i64, .bool, .bool, .int .i64, .int .i64, .int .i64, .int .i64, .int .i64, .int .i64])]⟩, [(.ret, ⟨[.bool], []⟩)]⟩
noncomputable def F39_7 (N : Nat) : (Int × Int × Bool × Bool × Int × Int × Int × Int × Int × Int) → Option (Bool)
  | (x0, x1, x2, x3, x4, x5, x6, x7, x8, x9) =>
  iteP (decide (x1 < (1 : Int))) (
    some (false)) (
    iteP (decide (x1 > x0)) (
      some (false)) (
      iteP (!x3) (
        some (false)) (
        Option.bind (F95 N (x0, x1, x2, x3, x4, x5, x6, x7, x8, x9)) fun y0 =>
        Option.bind (F39_250 N N (y0, (0 : Int), (0 : Int), x0, x1, x2, x3, x4, x5, x6, x7, x8, x9)) fun y1 =>
        match y1 with
        | .inl y2 =>
          some (y2)
        | .inr y2 =>
          some (true))))
noncomputable def C39_7 (N : Nat) (_ : Nat) : Cut := L39_7.cut (F39_7 N)
theorem C39_7_ok (N : Nat) (k : Nat) : CutAt Tryz.prog false Tryz.f39 [] 7 (C39_7 N k) :=
  L39_7.pieceT ownT mix (tab39_ok N) Tryz.f39 [] (cuts := [(250, C39_250 N N)]) ⟨C39_250_ok N N, trivial⟩ (by decide +kernel) (by kernel_rfl) (F39_7 N) (fun x => by kernel_rfl)
@[reducible] def w39 : List SP := [⟨[.bool], []⟩]
noncomputable def F39 (N : Nat) : (Int × Int × Bool × Bool × Int × Int × Int × Int × Int × Int) → Option (Bool)
  | (x0, x1, x2, x3, x4, x5, x6, x7, x8, x9) =>
  iteP (x0 == (8 : Int)) (
    Option.bind (F39_7 N (x0, x1, x2, x3, x4, x5, x6, x7, x8, x9)) fun y0 =>
    some (y0)) (
    iteP (x0 == (16 : Int)) (
      Option.bind (F39_7 N (x0, x1, x2, x3, x4, x5, x6, x7, x8, x9)) fun y1 =>
      some (y1)) (
      iteP (x0 == (32 : Int)) (
        Option.bind (F39_7 N (x0, x1, x2, x3, x4, x5, x6, x7, x8, x9)) fun y2 =>
        some (y2)) (
        some (false))))
noncomputable def T39 (N : Nat) : Pk → Tr Pk := tellS s39 w39 (F39 N)
theorem T39_ok (N : Nat) : FOK Tryz.prog (39) (T39 N) :=
  (fn_ok2 ownT mix (tab39_ok N) Tryz.func39 s39 w39 [] (cuts := [(250, C39_250 N N), (7, C39_7 N N)]) ⟨C39_250_ok N N, C39_7_ok N N, trivial⟩ (fun _ => by kernel_rfl) (by decide +kernel) (F39 N) (fun x => by kernel_rfl))
@[reducible] def s93 : SP := ⟨[.int .i64], []⟩
noncomputable def tab93 (N : Nat) : List (Nat × (Pk → Tr Pk)) := []
theorem tab93_ok (N : Nat) : TabOK Tryz.prog (tab93 N) := trivial
@[reducible] def w93 : List SP := [⟨[.bool], []⟩]
noncomputable def F93 (N : Nat) : (Int) → Option (Bool)
  | x0 =>
  iteP (decide ((0 : Int) ≤ x0)) (
    some (decide (x0 ≤ (4096 : Int)))) (
    some (false))
noncomputable def T93 (N : Nat) : Pk → Tr Pk := tellS s93 w93 (F93 N)
theorem T93_ok (N : Nat) : FOK Tryz.prog (93) (T93 N) :=
  (fn_ok2 ownT mix (tab93_ok N) Tryz.func93 s93 w93 [] (cuts := []) trivial (fun _ => by kernel_rfl) (by decide +kernel) (F93 N) (fun x => by kernel_rfl))
@[reducible] def s35 : SP := ⟨[.agg [.int .i64, .int .i64, .bool, .bool, .int .i64, .int .i64, .int .i64, .int .i64, .int .i64, .int .i64], .int .i64, .int .i64], []⟩
noncomputable def tab35 (N : Nat) : List (Nat × (Pk → Tr Pk)) := [(39, T39 N), (93, T93 N)]
theorem tab35_ok (N : Nat) : TabOK Tryz.prog (tab35 N) := ⟨T39_ok N, T93_ok N, trivial⟩
@[reducible] def w35 : List SP := [⟨[.bool], []⟩]
noncomputable def F35 (N : Nat) : (Int × Int × Bool × Bool × Int × Int × Int × Int × Int × Int × Int × Int) → Option (Bool)
  | (x0, x1, x2, x3, x4, x5, x6, x7, x8, x9, x10, x11) =>
  Option.bind (F39 N (x0, x1, x2, x3, x4, x5, x6, x7, x8, x9)) fun y0 =>
  iteP (y0) (
    Option.bind (F93 N x10) fun y1 =>
    iteP (y1) (
      Option.bind (F93 N x11) fun y2 =>
      some (y2)) (
      some (false))) (
    some (false))
noncomputable def T35 (N : Nat) : Pk → Tr Pk := tellS s35 w35 (F35 N)
theorem T35_ok (N : Nat) : FOK Tryz.prog (35) (T35 N) :=
  (fn_ok2 ownT mix (tab35_ok N) Tryz.func35 s35 w35 [] (cuts := []) trivial (fun _ => by kernel_rfl) (by decide +kernel) (F35 N) (fun x => by kernel_rfl))
@[reducible] def s234 : SP := ⟨[.agg [.int .i64, .int .i64, .bool, .bool, .int .i64, .int .i64, .int .i64, .int .i64, .int .i64, .int .i64]], []⟩
noncomputable def tab234 (N : Nat) : List (Nat × (Pk → Tr Pk)) := []
theorem tab234_ok (N : Nat) : TabOK Tryz.prog (tab234 N) := trivial
@[reducible] def w234 : List SP := [⟨[.bool], []⟩]
noncomputable def F234 (N : Nat) : (Int × Int × Bool × Bool × Int × Int × Int × Int × Int × Int) → Option (Bool)
  | (x0, x1, x2, x3, x4, x5, x6, x7, x8, x9) =>
  iteP (x0 == (32 : Int)) (
    iteP (x1 == (24 : Int)) (
      iteP (x4 == (255 : Int)) (
        iteP (x5 == (255 : Int)) (
          some (x6 == (255 : Int))) (
          some (false))) (
        some (false))) (
      some (false))) (
    some (false))
noncomputable def T234 (N : Nat) : Pk → Tr Pk := tellS s234 w234 (F234 N)
theorem T234_ok (N : Nat) : FOK Tryz.prog (234) (T234 N) :=
  (fn_ok2 ownT mix (tab234_ok N) Tryz.func234 s234 w234 [] (cuts := []) trivial (fun _ => by kernel_rfl) (by decide +kernel) (F234 N) (fun x => by kernel_rfl))
@[reducible] def s97 : SP := ⟨[.agg [.int .i64, .int .i64, .bool, .bool, .int .i64, .int .i64, .int .i64, .int .i64, .int .i64, .int .i64]], []⟩
noncomputable def tab97 (N : Nat) : List (Nat × (Pk → Tr Pk)) := [(39, T39 N)]
theorem tab97_ok (N : Nat) : TabOK Tryz.prog (tab97 N) := ⟨T39_ok N, trivial⟩
@[reducible] def w97 : List SP := [⟨[.int .i64], []⟩]
noncomputable def F97 (N : Nat) : (Int × Int × Bool × Bool × Int × Int × Int × Int × Int × Int) → Option (Int)
  | (x0, x1, x2, x3, x4, x5, x6, x7, x8, x9) =>
  Option.bind (F39 N (x0, x1, x2, x3, x4, x5, x6, x7, x8, x9)) fun y0 =>
  iteP (!y0) (
    some ((0 : Int))) (
    some (IntKind.wrap IntKind.i64 (Int.tdiv x0 (8 : Int))))
noncomputable def T97 (N : Nat) : Pk → Tr Pk := tellS s97 w97 (F97 N)
theorem T97_ok (N : Nat) : FOK Tryz.prog (97) (T97 N) :=
  (fn_ok2 ownT mix (tab97_ok N) Tryz.func97 s97 w97 [] (cuts := []) trivial (fun _ => by kernel_rfl) (by decide +kernel) (F97 N) (fun x => by kernel_rfl))
@[reducible] def s264 : SP := ⟨[.agg [.int .i64, .int .i64, .bool, .bool, .int .i64, .int .i64, .int .i64, .int .i64, .int .i64, .int .i64], .int .i64, .str], []⟩
noncomputable def tab264 (N : Nat) : List (Nat × (Pk → Tr Pk)) := [(39, T39 N)]
theorem tab264_ok (N : Nat) : TabOK Tryz.prog (tab264 N) := ⟨T39_ok N, trivial⟩
@[reducible] def L264_122 : LD := ⟨122, [8, 21, 20, 1, 3, 2], [(.ret, [6, 7]), (.exit 1, [8])], ⟨[.int .i64, .int .i64, .int .i64, .int .i64, .adr 0 [], .str], [.var 43 (.agg [.int .i64, .int .i64, .bool, .bool, .int .i64, .int .i64, .int .i64, .int .i64, .int .i64, .int .i64])]⟩, [(.exit 1, ⟨[.int .i64], []⟩)]⟩
abbrev P264_122 : Type := Int × Int × Int × Int × ByteArray × Int × Int × Bool × Bool × Int × Int × Int × Int × Int × Int
abbrev R264_122 : Type := Int
noncomputable def B264_122 (N : Nat) (f : P264_122 → Option R264_122) : P264_122 → Option R264_122
  | (x0, x1, x2, x3, x4, x5, x6, x7, x8, x9, x10, x11, x12, x13, x14) =>
  iteP (decide (x1 < x2)) (
    iteP (x7) (
      iteP (decide ((0 : Int) ≤ x1)) (
        Option.bind (x4[Int.toNat x1]?) fun y0 =>
        Option.bind (f (IntKind.wrap IntKind.i64 (↑(BitVec.toNat (BitVec.ofInt (64 : Nat) (IntKind.wrap IntKind.i64 (x0 * (256 : Int))) ||| BitVec.ofInt (64 : Nat) (IntKind.wrap IntKind.i64 (↑(UInt8.toNat y0) : Int)))) : Int), IntKind.wrap IntKind.i64 (x1 + (1 : Int)), x2, x3, x4, x5, x6, x7, x8, x9, x10, x11, x12, x13, x14)) fun r => some r) (
        none )) (
      iteP (decide ((0 : Int) ≤ IntKind.wrap IntKind.i64 (IntKind.wrap IntKind.i64 (x3 - (1 : Int)) - x1))) (
        Option.bind (x4[Int.toNat (IntKind.wrap IntKind.i64 (IntKind.wrap IntKind.i64 (x3 - (1 : Int)) - x1))]?) fun y1 =>
        Option.bind (f (IntKind.wrap IntKind.i64 (↑(BitVec.toNat (BitVec.ofInt (64 : Nat) (IntKind.wrap IntKind.i64 (x0 * (256 : Int))) ||| BitVec.ofInt (64 : Nat) (IntKind.wrap IntKind.i64 (↑(UInt8.toNat y1) : Int)))) : Int), IntKind.wrap IntKind.i64 (x1 + (1 : Int)), x2, x3, x4, x5, x6, x7, x8, x9, x10, x11, x12, x13, x14)) fun r => some r) (
        none ))) (
    some (x0))
noncomputable def F264_122 (N : Nat) : Nat → P264_122 → Option R264_122
  | 0, _ => none
  | k + 1, x => B264_122 N (F264_122 N k) x
noncomputable def C264_122 (N : Nat) (k : Nat) : Cut := L264_122.cut (F264_122 N k)
theorem C264_122_ok (N : Nat) (k : Nat) : CutAt Tryz.prog false Tryz.f264 [] 122 (C264_122 N k) :=
  L264_122.loopT ownT mix (tab264_ok N) Tryz.f264 [] (cuts := []) trivial (by decide +kernel) (by kernel_rfl) (B264_122 N) (F264_122 N) (fun _ => rfl) (fun _ _ => rfl) (fun f x => by kernel_rfl) k
@[reducible] def w264 : List SP := [⟨[.tup [.int .i64, .int .i64]], []⟩]
noncomputable def F264 (N : Nat) : (Int × Int × Bool × Bool × Int × Int × Int × Int × Int × Int × Int × ByteArray) → Option (Int × Int)
  | (x0, x1, x2, x3, x4, x5, x6, x7, x8, x9, x10, x11) =>
  Option.bind (F39 N (x0, x1, x2, x3, x4, x5, x6, x7, x8, x9)) fun y0 =>
  iteP (!y0) (
    some (((0 : Int), (130 : Int)))) (
    iteP (decide ((↑(ByteArray.size x11) : Int) < x10)) (
      some (((0 : Int), (2 : Int)))) (
      Option.bind (F264_122 N N ((0 : Int), (0 : Int), x10, x10, x11, x0, x1, x2, x3, x4, x5, x6, x7, x8, x9)) fun y1 =>
      some ((y1, (0 : Int)))))
noncomputable def T264 (N : Nat) : Pk → Tr Pk := tellS s264 w264 (F264 N)
theorem T264_ok (N : Nat) : FOK Tryz.prog (264) (T264 N) :=
  (fn_ok2 ownT mix (tab264_ok N) Tryz.func264 s264 w264 [] (cuts := [(122, C264_122 N N)]) ⟨C264_122_ok N N, trivial⟩ (fun _ => by kernel_rfl) (by decide +kernel) (F264 N) (fun x => by kernel_rfl))
@[reducible] def s242 : SP := ⟨[.agg [.int .i64, .int .i64, .bool, .bool, .int .i64, .int .i64, .int .i64, .int .i64, .int .i64, .int .i64], .str], []⟩
noncomputable def tab242 (N : Nat) : List (Nat × (Pk → Tr Pk)) := [(97, T97 N), (264, T264 N)]
theorem tab242_ok (N : Nat) : TabOK Tryz.prog (tab242 N) := ⟨T97_ok N, T264_ok N, trivial⟩
@[reducible] def w242 : List SP := [⟨[.tup [.int .i64, .int .i64]], []⟩]
noncomputable def F242 (N : Nat) : (Int × Int × Bool × Bool × Int × Int × Int × Int × Int × Int × ByteArray) → Option (Int × Int)
  | (x0, x1, x2, x3, x4, x5, x6, x7, x8, x9, x10) =>
  Option.bind (F97 N (x0, x1, x2, x3, x4, x5, x6, x7, x8, x9)) fun y0 =>
  Option.bind (F264 N (x0, x1, x2, x3, x4, x5, x6, x7, x8, x9, y0, x10)) fun y1 =>
  some ((y1.1, y1.2))
noncomputable def T242 (N : Nat) : Pk → Tr Pk := tellS s242 w242 (F242 N)
theorem T242_ok (N : Nat) : FOK Tryz.prog (242) (T242 N) :=
  (fn_ok2 ownT mix (tab242_ok N) Tryz.func242 s242 w242 [] (cuts := []) trivial (fun _ => by kernel_rfl) (by decide +kernel) (F242 N) (fun x => by kernel_rfl))
@[reducible] def s236 : SP := ⟨[.agg [.int .i64, .int .i64, .bool, .bool, .int .i64, .int .i64, .int .i64, .int .i64, .int .i64, .int .i64]], []⟩
noncomputable def tab236 (N : Nat) : List (Nat × (Pk → Tr Pk)) := []
theorem tab236_ok (N : Nat) : TabOK Tryz.prog (tab236 N) := trivial
@[reducible] def w236 : List SP := [⟨[.arr (.int .i64) 3], []⟩]
noncomputable def F236 (N : Nat) : (Int × Int × Bool × Bool × Int × Int × Int × Int × Int × Int) → Option ((List Int))
  | (x0, x1, x2, x3, x4, x5, x6, x7, x8, x9) =>
  some ([x7, x8, x9])
noncomputable def T236 (N : Nat) : Pk → Tr Pk := tellS s236 w236 (F236 N)
theorem T236_ok (N : Nat) : FOK Tryz.prog (236) (T236 N) :=
  (fn_ok2 ownT mix (tab236_ok N) Tryz.func236 s236 w236 [] (cuts := []) trivial (fun _ => by kernel_rfl) (by decide +kernel) (F236 N) (fun x => by kernel_rfl))
@[reducible] def s232 : SP := ⟨[.adr 0 [], .agg [.int .i64, .int .i64, .bool, .bool, .int .i64, .int .i64, .int .i64, .int .i64, .int .i64, .int .i64]], [.var 189 (.agg [.str, .int .i64, .int .i64])]⟩
noncomputable def tab232 (N : Nat) : List (Nat × (Pk → Tr Pk)) := [(234, T234 N), (97, T97 N), (135, T135 N), (242, T242 N), (236, T236 N), (105, T105 N), (84, T84 N)]
theorem tab232_ok (N : Nat) : TabOK Tryz.prog (tab232 N) := ⟨T234_ok N, T97_ok N, T135_ok N, T242_ok N, T236_ok N, T105_ok N, T84_ok N, trivial⟩
@[reducible] def L232_122 : LD := ⟨122, [6, 22, 21, 0], [(.ret, [4, 5]), (.exit 0, [6, 0])], ⟨[.int .i64, .int .i64, .arr (.int .i64) 3, .adr 0 []], [.var 189 (.agg [.str, .int .i64, .int .i64])]⟩, [(.exit 0, ⟨[.int .i64, .adr 0 []], [.var 189 (.agg [.str, .int .i64, .int .i64])]⟩)]⟩
abbrev P232_122 : Type := Int × Int × (List Int) × ByteArray × Int × Int
abbrev R232_122 : Type := Int × ByteArray × Int × Int
noncomputable def B232_122 (N : Nat) (f : P232_122 → Option R232_122) : P232_122 → Option R232_122
  | (x0, x1, x2, x3, x4, x5) =>
  iteP (decide (x1 < (3 : Int))) (
    iteP (within x1 (List.length x2)) (
      Option.bind (x2[Int.toNat x1]?) fun y0 =>
      Option.bind (F105 N ((1 : Int), x3, x4, x5)) fun y1 =>
      iteP (decide (y0 < (0 : Int))) (
        none ) (
        Option.bind (f (IntKind.wrap IntKind.i64 (↑(BitVec.toNat (BitVec.ofInt (64 : Nat) x0 ||| BitVec.ofInt (64 : Nat) (IntKind.wrap IntKind.i64 (y1.1 * (2 : Int) ^ min (Int.toNat y0) (64 : Nat))))) : Int), IntKind.wrap IntKind.i64 (x1 + (1 : Int)), x2, y1.2.1, y1.2.2.1, y1.2.2.2)) fun r => some r)) (
      none )) (
    some ((x0, x3, x4, x5)))
noncomputable def F232_122 (N : Nat) : Nat → P232_122 → Option R232_122
  | 0, _ => none
  | k + 1, x => B232_122 N (F232_122 N k) x
noncomputable def C232_122 (N : Nat) (k : Nat) : Cut := L232_122.cut (F232_122 N k)
theorem C232_122_ok (N : Nat) (k : Nat) : CutAt Tryz.prog false Tryz.f232 [0] 122 (C232_122 N k) :=
  L232_122.loopT ownT mix (tab232_ok N) Tryz.f232 [0] (cuts := []) trivial (by decide +kernel) (by kernel_rfl) (B232_122 N) (F232_122 N) (fun _ => rfl) (fun _ _ => rfl) (fun f x => by kernel_rfl) k
@[reducible] def w232 : List SP := [⟨[.tup [.int .i64, .int .i64]], [.var 189 (.agg [.str, .int .i64, .int .i64])]⟩]
noncomputable def F232 (N : Nat) : (Int × Int × Bool × Bool × Int × Int × Int × Int × Int × Int × ByteArray × Int × Int) → Option (Int × Int × ByteArray × Int × Int)
  | (x0, x1, x2, x3, x4, x5, x6, x7, x8, x9, x10, x11, x12) =>
  Option.bind (F234 N (x0, x1, x2, x3, x4, x5, x6, x7, x8, x9)) fun y0 =>
  iteP (!y0) (
    Option.bind (F97 N (x0, x1, x2, x3, x4, x5, x6, x7, x8, x9)) fun y1 =>
    Option.bind (F135 N (y1, x10, x11, x12)) fun y2 =>
    Option.bind (F242 N (x0, x1, x2, x3, x4, x5, x6, x7, x8, x9, y2.1)) fun y3 =>
    some ((y3.1, y3.2, y2.2.1, y2.2.2.1, y2.2.2.2))) (
    Option.bind (F236 N (x0, x1, x2, x3, x4, x5, x6, x7, x8, x9)) fun y4 =>
    Option.bind (F232_122 N N ((0 : Int), (0 : Int), y4, x10, x11, x12)) fun y5 =>
    Option.bind (F84 N (y5.2.1, y5.2.2.1, y5.2.2.2, ())) fun y6 =>
    some ((y5.1, y6, y5.2.1, y5.2.2.1, y5.2.2.2)))
noncomputable def T232 (N : Nat) : Pk → Tr Pk := tellS s232 w232 (F232 N)
theorem T232_ok (N : Nat) : FOK Tryz.prog (232) (T232 N) :=
  (fn_ok2 ownT mix (tab232_ok N) Tryz.func232 s232 w232 [0] (cuts := [(122, C232_122 N N)]) ⟨C232_122_ok N N, trivial⟩ (fun _ => by kernel_rfl) (by decide +kernel) (F232 N) (fun x => by kernel_rfl))
@[reducible] def s85 : SP := ⟨[.agg [.int .i64, .int .i64, .bool, .bool, .int .i64, .int .i64, .int .i64, .int .i64, .int .i64, .int .i64], .int .i64], []⟩
noncomputable def tab85 (N : Nat) : List (Nat × (Pk → Tr Pk)) := [(39, T39 N), (95, T95 N)]
theorem tab85_ok (N : Nat) : TabOK Tryz.prog (tab85 N) := ⟨T39_ok N, T95_ok N, trivial⟩
@[reducible] def L85_122 : LD := ⟨122, [5, 14, 13, 1], [(.ret, [4]), (.exit 0, [5])], ⟨[.int .i64, .int .i64, .arr y1 3, .int .i64], []⟩, [(.exit 0, ⟨[.int .i64], []⟩)]⟩
abbrev P85_122 : Type := Int × Int × (List (Int × (Int × Unit))) × Int
abbrev R85_122 : Type := Int
noncomputable def B85_122 (N : Nat) (f : P85_122 → Option R85_122) : P85_122 → Option R85_122
  | (x0, x1, x2, x3) =>
  iteP (decide (x1 < (3 : Int))) (
    iteP (within x1 (List.length x2)) (
      Option.bind (x2[Int.toNat x1]?) fun y0 =>
      iteP (decide (y0.2.1 < (0 : Int))) (
        none ) (
        iteP (decide (y0.1 = (0 : Int))) (
          none ) (
          Option.bind (f (IntKind.wrap IntKind.i64 (↑(BitVec.toNat (BitVec.ofInt (64 : Nat) (IntKind.wrap IntKind.i64 (x0 * (256 : Int))) ||| BitVec.ofInt (64 : Nat) (IntKind.wrap IntKind.i64 (Int.tdiv (IntKind.wrap IntKind.i64 (IntKind.wrap IntKind.i64 (IntKind.wrap IntKind.i64 (↑(BitVec.toNat (BitVec.ofInt (64 : Nat) (Int.fdiv x3 ((2 : Int) ^ min (Int.toNat y0.2.1) (64 : Nat))) &&& BitVec.ofInt (64 : Nat) y0.1)) : Int) * (255 : Int)) + IntKind.wrap IntKind.i64 (Int.tdiv y0.1 (2 : Int)))) y0.1)))) : Int), IntKind.wrap IntKind.i64 (x1 + (1 : Int)), x2, x3)) fun r => some r))) (
      none )) (
    some (x0))
noncomputable def F85_122 (N : Nat) : Nat → P85_122 → Option R85_122
  | 0, _ => none
  | k + 1, x => B85_122 N (F85_122 N k) x
noncomputable def C85_122 (N : Nat) (k : Nat) : Cut := L85_122.cut (F85_122 N k)
theorem C85_122_ok (N : Nat) (k : Nat) : CutAt Tryz.prog false Tryz.f85 [] 122 (C85_122 N k) :=
  L85_122.loopT ownT mix (tab85_ok N) Tryz.f85 [] (cuts := []) trivial (by decide +kernel) (by kernel_rfl) (B85_122 N) (F85_122 N) (fun _ => rfl) (fun _ _ => rfl) (fun f x => by kernel_rfl) k
@[reducible] def w85 : List SP := [⟨[.int .i64], []⟩]
noncomputable def F85 (N : Nat) : (Int × Int × Bool × Bool × Int × Int × Int × Int × Int × Int × Int) → Option (Int)
  | (x0, x1, x2, x3, x4, x5, x6, x7, x8, x9, x10) =>
  Option.bind (F39 N (x0, x1, x2, x3, x4, x5, x6, x7, x8, x9)) fun y0 =>
  iteP (!y0) (
    some ((0 : Int))) (
    Option.bind (F95 N (x0, x1, x2, x3, x4, x5, x6, x7, x8, x9)) fun y1 =>
    Option.bind (F85_122 N N ((0 : Int), (0 : Int), y1, x10)) fun y2 =>
    some (y2))
noncomputable def T85 (N : Nat) : Pk → Tr Pk := tellS s85 w85 (F85 N)
theorem T85_ok (N : Nat) : FOK Tryz.prog (85) (T85 N) :=
  (fn_ok2 ownT mix (tab85_ok N) Tryz.func85 s85 w85 [] (cuts := [(122, C85_122 N N)]) ⟨C85_122_ok N N, trivial⟩ (fun _ => by kernel_rfl) (by decide +kernel) (F85 N) (fun x => by kernel_rfl))
@[reducible] def s314 : SP := ⟨[.int .u64, .int .u64], []⟩
noncomputable def tab314 (N : Nat) : List (Nat × (Pk → Tr Pk)) := []
theorem tab314_ok (N : Nat) : TabOK Tryz.prog (tab314 N) := trivial
@[reducible] def w314 : List SP := [⟨[.tup [.int .u64, .int .u64]], []⟩]
noncomputable def F314 (N : Nat) : (Int × Int) → Option (Int × Int)
  | (x0, x1) =>
  some ((IntKind.wrap IntKind.u64 (IntKind.wrap IntKind.u64 (IntKind.wrap IntKind.u64 (Int.fdiv x0 (4294967296 : Int) * Int.fdiv x1 (4294967296 : Int)) + Int.fdiv (IntKind.wrap IntKind.u64 (IntKind.wrap IntKind.u64 (Int.fdiv x0 (4294967296 : Int) * IntKind.wrap IntKind.u64 (↑(BitVec.toNat (BitVec.ofInt (64 : Nat) x1 &&& BitVec.ofInt (64 : Nat) (4294967295 : Int))) : Int)) + Int.fdiv (IntKind.wrap IntKind.u64 (IntKind.wrap IntKind.u64 (↑(BitVec.toNat (BitVec.ofInt (64 : Nat) x0 &&& BitVec.ofInt (64 : Nat) (4294967295 : Int))) : Int) * IntKind.wrap IntKind.u64 (↑(BitVec.toNat (BitVec.ofInt (64 : Nat) x1 &&& BitVec.ofInt (64 : Nat) (4294967295 : Int))) : Int))) (4294967296 : Int))) (4294967296 : Int)) + Int.fdiv (IntKind.wrap IntKind.u64 (IntKind.wrap IntKind.u64 (↑(BitVec.toNat (BitVec.ofInt (64 : Nat) (IntKind.wrap IntKind.u64 (IntKind.wrap IntKind.u64 (Int.fdiv x0 (4294967296 : Int) * IntKind.wrap IntKind.u64 (↑(BitVec.toNat (BitVec.ofInt (64 : Nat) x1 &&& BitVec.ofInt (64 : Nat) (4294967295 : Int))) : Int)) + Int.fdiv (IntKind.wrap IntKind.u64 (IntKind.wrap IntKind.u64 (↑(BitVec.toNat (BitVec.ofInt (64 : Nat) x0 &&& BitVec.ofInt (64 : Nat) (4294967295 : Int))) : Int) * IntKind.wrap IntKind.u64 (↑(BitVec.toNat (BitVec.ofInt (64 : Nat) x1 &&& BitVec.ofInt (64 : Nat) (4294967295 : Int))) : Int))) (4294967296 : Int))) &&& BitVec.ofInt (64 : Nat) (4294967295 : Int))) : Int) + IntKind.wrap IntKind.u64 (IntKind.wrap IntKind.u64 (↑(BitVec.toNat (BitVec.ofInt (64 : Nat) x0 &&& BitVec.ofInt (64 : Nat) (4294967295 : Int))) : Int) * Int.fdiv x1 (4294967296 : Int)))) (4294967296 : Int)), IntKind.wrap IntKind.u64 (x0 * x1)))
noncomputable def T314 (N : Nat) : Pk → Tr Pk := tellS s314 w314 (F314 N)
theorem T314_ok (N : Nat) : FOK Tryz.prog (314) (T314 N) :=
  (fn_ok2 ownT mix (tab314_ok N) Tryz.func314 s314 w314 [] (cuts := []) trivial (fun _ => by kernel_rfl) (by decide +kernel) (F314 N) (fun x => by kernel_rfl))
@[reducible] def s273 : SP := ⟨[.int .u64, .int .u64], []⟩
noncomputable def tab273 (N : Nat) : List (Nat × (Pk → Tr Pk)) := [(314, T314 N)]
theorem tab273_ok (N : Nat) : TabOK Tryz.prog (tab273 N) := ⟨T314_ok N, trivial⟩
@[reducible] def w273 : List SP := [⟨[.tup [.int .u64, .int .u64]], []⟩]
noncomputable def F273 (N : Nat) : (Int × Int) → Option (Int × Int)
  | (x0, x1) =>
  Option.bind (F314 N (x0, x1)) fun y0 =>
  some ((y0.1, y0.2))
noncomputable def T273 (N : Nat) : Pk → Tr Pk := tellS s273 w273 (F273 N)
theorem T273_ok (N : Nat) : FOK Tryz.prog (273) (T273 N) :=
  (fn_ok2 ownT mix (tab273_ok N) Tryz.func273 s273 w273 [] (cuts := []) trivial (fun _ => by kernel_rfl) (by decide +kernel) (F273 N) (fun x => by kernel_rfl))
@[reducible] def s233 : SP := ⟨[.ro (.int .i64), .int .i64], []⟩
noncomputable def tab233 (N : Nat) : List (Nat × (Pk → Tr Pk)) := [(273, T273 N)]
theorem tab233_ok (N : Nat) : TabOK Tryz.prog (tab233 N) := ⟨T273_ok N, trivial⟩
@[reducible] def L233_508 : LD := ⟨508, [8, 7], [(.ret, [4]), (.exit 0, [7])], ⟨[.int .i64, .sl 0], [.row (.int .i64) 3]⟩, [(.exit 0, ⟨[.sl 0], [.row (.int .i64) 3]⟩)]⟩
abbrev P233_508 : Type := Int × (List Int)
abbrev R233_508 : Type := (List Int)
noncomputable def B233_508 (N : Nat) (f : P233_508 → Option R233_508) : P233_508 → Option R233_508
  | (x0, x1) =>
  iteP (decide (x0 < (↑(List.length x1) : Int))) (
    iteP (decide ((0 : Int) ≤ x0 ∧ x0 ≤ (↑(List.length x1) : Int))) (
      iteP (decide ((0 : Int) ≤ x0 ∧ x0 ≤ (↑(List.length x1) : Int))) (
        Option.bind (f (IntKind.wrap IntKind.i64 (x0 + (↑(min (List.length (List.take (Int.toNat x0 - (0 : Nat)) x1)) (partN (List.length x1) (some (Int.toNat x0, List.length x1 - Int.toNat x0)))) : Int)), putL x1 (partO (some (Int.toNat x0, List.length x1 - Int.toNat x0))) (List.take (min (List.length (List.take (Int.toNat x0 - (0 : Nat)) x1)) (partN (List.length x1) (some (Int.toNat x0, List.length x1 - Int.toNat x0)))) (List.take (Int.toNat x0 - (0 : Nat)) x1)))) fun r => some r) (
        none )) (
      none )) (
    some (x1))
noncomputable def F233_508 (N : Nat) : Nat → P233_508 → Option R233_508
  | 0, _ => none
  | k + 1, x => B233_508 N (F233_508 N k) x
noncomputable def C233_508 (N : Nat) (k : Nat) : Cut := L233_508.cut (F233_508 N k)
theorem C233_508_ok (N : Nat) (k : Nat) : CutAt Tryz.prog false Tryz.f233 [] 508 (C233_508 N k) :=
  L233_508.loopT ownT mix (tab233_ok N) Tryz.f233 [] (cuts := []) trivial (by decide +kernel) (by kernel_rfl) (B233_508 N) (F233_508 N) (fun _ => rfl) (fun _ _ => rfl) (fun f x => by kernel_rfl) k
@[reducible] def w233 : List SP := [⟨[.sl 0], [.row (.int .i64) 3]⟩]
noncomputable def F233 (N : Nat) : ((List Int) × Int) → Option ((List Int))
  | (x0, x1) =>
  iteP (decide (x1 < (0 : Int))) (
    none ) (
    Option.bind (F273 N (IntKind.wrap IntKind.u64 (↑(List.length x0) : Int), IntKind.wrap IntKind.u64 x1)) fun y0 =>
    iteP (decide (y0.1 > (0 : Int))) (
      none ) (
      iteP (decide (y0.2 > (9223372036854775807 : Int))) (
        none ) (
        iteP (decide ((0 : Int) ≤ IntKind.wrap IntKind.i64 y0.2 ∧ IntKind.wrap IntKind.i64 y0.2 ≤ IntKind.wrap IntKind.i64 y0.2 ∧ IntKind.wrap IntKind.i64 y0.2 * (8 : Int) ≤ (140737488355328 : Int) ∧ IntKind.wrap IntKind.i64 y0.2 ≤ (140737488355328 : Int))) (
          Option.bind (F233_508 N N ((↑(min (List.length x0) (partN (List.length (List.replicate (Int.toNat (IntKind.wrap IntKind.i64 y0.2)) (0 : Int))) none)) : Int), putL (List.replicate (Int.toNat (IntKind.wrap IntKind.i64 y0.2)) (0 : Int)) (0 : Nat) (List.take (min (List.length x0) (partN (List.length (List.replicate (Int.toNat (IntKind.wrap IntKind.i64 y0.2)) (0 : Int))) none)) x0))) fun y1 =>
          some (y1)) (
          none ))))
noncomputable def T233 (N : Nat) : Pk → Tr Pk := tellS s233 w233 (F233 N)
theorem T233_ok (N : Nat) : FOK Tryz.prog (233) (T233 N) :=
  (fn_ok2 ownT mix (tab233_ok N) Tryz.func233 s233 w233 [] (cuts := [(508, C233_508 N N)]) ⟨C233_508_ok N N, trivial⟩ (fun _ => by kernel_rfl) (by decide +kernel) (F233 N) (fun x => by kernel_rfl))
@[reducible] def s167 : SP := ⟨[.adr 0 [], .agg [.int .i64, .int .i64, .bool, .bool, .int .i64, .int .i64, .int .i64, .int .i64, .int .i64, .int .i64], .int .i64], [.var 189 (.agg [.str, .int .i64, .int .i64])]⟩
noncomputable def tab167 (N : Nat) : List (Nat × (Pk → Tr Pk)) := [(232, T232 N), (85, T85 N), (233, T233 N)]
theorem tab167_ok (N : Nat) : TabOK Tryz.prog (tab167 N) := ⟨T232_ok N, T85_ok N, T233_ok N, trivial⟩
@[reducible] def w167 : List SP := [⟨[.tup [.sl 1, .int .i64]], [.var 189 (.agg [.str, .int .i64, .int .i64]), .row (.int .i64) 3]⟩]
noncomputable def F167 (N : Nat) : (Int × Int × Bool × Bool × Int × Int × Int × Int × Int × Int × Int × ByteArray × Int × Int) → Option (Int × ByteArray × Int × Int × (List Int))
  | (x0, x1, x2, x3, x4, x5, x6, x7, x8, x9, x10, x11, x12, x13) =>
  Option.bind (F232 N (x0, x1, x2, x3, x4, x5, x6, x7, x8, x9, x11, x12, x13)) fun y0 =>
  iteP (y0.2.1 != (0 : Int)) (
    some ((y0.2.1, y0.2.2.1, y0.2.2.2.1, y0.2.2.2.2, []))) (
    Option.bind (F85 N (x0, x1, x2, x3, x4, x5, x6, x7, x8, x9, y0.1)) fun y1 =>
    Option.bind (F233 N ([y1], x10)) fun y2 =>
    some (((0 : Int), y0.2.2.1, y0.2.2.2.1, y0.2.2.2.2, y2)))
noncomputable def T167 (N : Nat) : Pk → Tr Pk := tellS s167 w167 (F167 N)
theorem T167_ok (N : Nat) : FOK Tryz.prog (167) (T167 N) :=
  (fn_ok2 ownT mix (tab167_ok N) Tryz.func167 s167 w167 [0] (cuts := []) trivial (fun _ => by kernel_rfl) (by decide +kernel) (F167 N) (fun x => by kernel_rfl))
@[reducible] def s45 : SP := ⟨[.str], []⟩
noncomputable def tab45 (N : Nat) : List (Nat × (Pk → Tr Pk)) := [(81, T81 N), (105, T105 N), (84, T84 N), (106, T106 N)]
theorem tab45_ok (N : Nat) : TabOK Tryz.prog (tab45 N) := ⟨T81_ok N, T105_ok N, T84_ok N, T106_ok N, trivial⟩
@[reducible] def L45_218 : LD := ⟨218, [2, 11, 5], [(.ret, [2, 3, 4]), (.exit 0, [5, 2]), (.exit 999999999, [2, 3, 4])], ⟨[.int .i64, .int .i64, .adr 0 []], [.var 189 (.agg [.str, .int .i64, .int .i64])]⟩, [(.exit 0, ⟨[.adr 0 [], .int .i64], [.var 189 (.agg [.str, .int .i64, .int .i64])]⟩)]⟩
abbrev P45_218 : Type := Int × Int × ByteArray × Int × Int
abbrev R45_218 : Type := Int × ByteArray × Int × Int
noncomputable def B45_218 (N : Nat) (f : P45_218 → Option R45_218) : P45_218 → Option R45_218
  | (x0, x1, x2, x3, x4) =>
  iteP (decide (x1 < (3 : Int))) (
    Option.bind (F105 N ((1 : Int), x2, x3, x4)) fun y0 =>
    iteP (decide (x1 < (2 : Int))) (
      iteP (decide (y0.1 ≥ (128 : Int))) (
        iteP (decide (IntKind.wrap IntKind.i64 ((7 : Int) * x1) < (0 : Int))) (
          none ) (
          Option.bind (f (IntKind.wrap IntKind.i64 (↑(BitVec.toNat (BitVec.ofInt (64 : Nat) x0 ||| BitVec.ofInt (64 : Nat) (IntKind.wrap IntKind.i64 (IntKind.wrap IntKind.i64 (y0.1 - (128 : Int)) * (2 : Int) ^ min (Int.toNat (IntKind.wrap IntKind.i64 ((7 : Int) * x1))) (64 : Nat))))) : Int), IntKind.wrap IntKind.i64 (x1 + (1 : Int)), y0.2.1, y0.2.2.1, y0.2.2.2)) fun r => some r)) (
        iteP (decide (IntKind.wrap IntKind.i64 ((7 : Int) * x1) < (0 : Int))) (
          none ) (
          some ((IntKind.wrap IntKind.i64 (↑(BitVec.toNat (BitVec.ofInt (64 : Nat) x0 ||| BitVec.ofInt (64 : Nat) (IntKind.wrap IntKind.i64 (y0.1 * (2 : Int) ^ min (Int.toNat (IntKind.wrap IntKind.i64 ((7 : Int) * x1))) (64 : Nat))))) : Int), y0.2.1, y0.2.2.1, y0.2.2.2))))) (
      iteP (decide (IntKind.wrap IntKind.i64 ((7 : Int) * x1) < (0 : Int))) (
        none ) (
        some ((IntKind.wrap IntKind.i64 (↑(BitVec.toNat (BitVec.ofInt (64 : Nat) x0 ||| BitVec.ofInt (64 : Nat) (IntKind.wrap IntKind.i64 (y0.1 * (2 : Int) ^ min (Int.toNat (IntKind.wrap IntKind.i64 ((7 : Int) * x1))) (64 : Nat))))) : Int), y0.2.1, y0.2.2.1, y0.2.2.2))))) (
    some ((x0, x2, x3, x4)))
noncomputable def F45_218 (N : Nat) : Nat → P45_218 → Option R45_218
  | 0, _ => none
  | k + 1, x => B45_218 N (F45_218 N k) x
noncomputable def C45_218 (N : Nat) (k : Nat) : Cut := L45_218.cut (F45_218 N k)
theorem C45_218_ok (N : Nat) (k : Nat) : CutAt Tryz.prog false Tryz.f45 [] 218 (C45_218 N k) :=
  L45_218.loopT ownT mix (tab45_ok N) Tryz.f45 [] (cuts := []) trivial (by decide +kernel) (by kernel_rfl) (B45_218 N) (F45_218 N) (fun _ => rfl) (fun _ _ => rfl) (fun f x => by kernel_rfl) k
@[reducible] def w45 : List SP := [⟨[.tup [.int .i64, .int .i64, .int .i64]], []⟩]
noncomputable def F45 (N : Nat) : (ByteArray) → Option (Int × Int × Int)
  | x0 =>
  Option.bind (F81 N x0) fun y0 =>
  Option.bind (F45_218 N N ((0 : Int), (0 : Int), y0.1, y0.2.1, y0.2.2)) fun y1 =>
  Option.bind (F84 N (y1.2.1, y1.2.2.1, y1.2.2.2, ())) fun y2 =>
  iteP (y2 != (0 : Int)) (
    some (((0 : Int), (0 : Int), y2))) (
    Option.bind (F106 N (y1.2.1, y1.2.2.1, y1.2.2.2, ())) fun y3 =>
    some ((y1.1, y3, (0 : Int))))
noncomputable def T45 (N : Nat) : Pk → Tr Pk := tellS s45 w45 (F45 N)
theorem T45_ok (N : Nat) : FOK Tryz.prog (45) (T45 N) :=
  (fn_ok2 ownT mix (tab45_ok N) Tryz.func45 s45 w45 [] (cuts := [(218, C45_218 N N)]) ⟨C45_218_ok N N, trivial⟩ (fun _ => by kernel_rfl) (by decide +kernel) (F45 N) (fun x => by kernel_rfl))
@[reducible] def s168 : SP := ⟨[.adr 0 [], .str, .int .i64, .int .i64], [.var 189 (.agg [.str, .int .i64, .int .i64])]⟩
noncomputable def tab168 (N : Nat) : List (Nat × (Pk → Tr Pk)) := [(106, T106 N), (45, T45 N), (135, T135 N), (54, T54 N), (84, T84 N)]
theorem tab168_ok (N : Nat) : TabOK Tryz.prog (tab168 N) := ⟨T106_ok N, T45_ok N, T135_ok N, T54_ok N, T84_ok N, trivial⟩
@[reducible] def w168 : List SP := [⟨[.tup [.sl 1, .int .i64]], [.var 189 (.agg [.str, .int .i64, .int .i64]), .row (.int .i64) 3]⟩]
noncomputable def F168 (N : Nat) : (ByteArray × Int × Int × ByteArray × Int × Int) → Option (Int × ByteArray × Int × Int × (List Int))
  | (x0, x1, x2, x3, x4, x5) =>
  Option.bind (F106 N (x3, x4, x5, ())) fun y0 =>
  iteP (decide ((0 : Int) ≤ y0 ∧ y0 ≤ (↑(ByteArray.size x0) : Int))) (
    Option.bind (F45 N (ByteArray.extract x0 (Int.toNat y0) (ByteArray.size x0))) fun y1 =>
    iteP (y1.2.2 != (0 : Int)) (
      some ((y1.2.2, x3, x4, x5, []))) (
      Option.bind (F135 N (y1.2.1, x3, x4, x5)) fun y2 =>
      Option.bind (F135 N (y1.1, y2.2.1, y2.2.2.1, y2.2.2.2)) fun y3 =>
      Option.bind (F54 N (y3.1, IntKind.wrap IntKind.i64 (x1 * x2))) fun y4 =>
      Option.bind (F84 N (y3.2.1, y3.2.2.1, y3.2.2.2, ())) fun y5 =>
      iteP (y5 != (0 : Int)) (
        Option.bind (F84 N (y3.2.1, y3.2.2.1, y3.2.2.2, ())) fun y6 =>
        some ((y6, y3.2.1, y3.2.2.1, y3.2.2.2, []))) (
        iteP (y4.2.2.1 == (2 : Int)) (
          some (((180 : Int), y3.2.1, y3.2.2.1, y3.2.2.2, []))) (
          iteP (y4.2.2.1 != (0 : Int)) (
            some ((y4.2.2.1, y3.2.1, y3.2.2.1, y3.2.2.2, []))) (
            iteP (y4.1 != x1) (
              some (((180 : Int), y3.2.1, y3.2.2.1, y3.2.2.2, []))) (
              iteP (y4.2.1 != x2) (
                some (((180 : Int), y3.2.1, y3.2.2.1, y3.2.2.2, []))) (
                some (((0 : Int), y3.2.1, y3.2.2.1, y3.2.2.2, y4.2.2.2.1))))))))) (
    none )
noncomputable def T168 (N : Nat) : Pk → Tr Pk := tellS s168 w168 (F168 N)
theorem T168_ok (N : Nat) : FOK Tryz.prog (168) (T168 N) :=
  (fn_ok2 ownT mix (tab168_ok N) Tryz.func168 s168 w168 [0] (cuts := []) trivial (fun _ => by kernel_rfl) (by decide +kernel) (F168 N) (fun x => by kernel_rfl))
@[reducible] def s103 : SP := ⟨[.agg [.int .i64, .int .i64, .bool, .bool, .int .i64, .int .i64, .int .i64, .int .i64, .int .i64, .int .i64], .int .i64, .int .i64, .str], []⟩
noncomputable def tab103 (N : Nat) : List (Nat × (Pk → Tr Pk)) := [(35, T35 N), (81, T81 N), (105, T105 N), (84, T84 N), (106, T106 N), (167, T167 N), (168, T168 N)]
theorem tab103_ok (N : Nat) : TabOK Tryz.prog (tab103 N) := ⟨T35_ok N, T81_ok N, T105_ok N, T84_ok N, T106_ok N, T167_ok N, T168_ok N, trivial⟩
@[reducible] def w103 : List SP := [⟨[.tup [.sl 0, .int .i64, .int .i64, .int .i64]], [.row (.int .i64) 3]⟩]
noncomputable def F103 (N : Nat) : (Int × Int × Bool × Bool × Int × Int × Int × Int × Int × Int × Int × Int × ByteArray) → Option (Int × Int × Int × (List Int))
  | (x0, x1, x2, x3, x4, x5, x6, x7, x8, x9, x10, x11, x12) =>
  Option.bind (F35 N (x0, x1, x2, x3, x4, x5, x6, x7, x8, x9, x10, x11)) fun y0 =>
  iteP (!y0) (
    some (((0 : Int), (0 : Int), (1 : Int), []))) (
    Option.bind (F81 N x12) fun y1 =>
    Option.bind (F105 N ((1 : Int), y1.1, y1.2.1, y1.2.2)) fun y2 =>
    Option.bind (F84 N (y2.2.1, y2.2.2.1, y2.2.2.2, ())) fun y3 =>
    iteP (y3 != (0 : Int)) (
      Option.bind (F84 N (y2.2.1, y2.2.2.1, y2.2.2.2, ())) fun y4 =>
      iteP (y4 != (0 : Int)) (
        some (((0 : Int), (0 : Int), y4, []))) (
        Option.bind (F106 N (y2.2.1, y2.2.2.1, y2.2.2.2, ())) fun y5 =>
        some ((IntKind.wrap IntKind.i64 (↑(BitVec.toNat (BitVec.ofInt (64 : Nat) y2.1 &&& BitVec.ofInt (64 : Nat) (15 : Int))) : Int), y5, (0 : Int), [])))) (
      iteP (Int.fdiv y2.1 (16 : Int) == (8 : Int)) (
        Option.bind (F167 N (x0, x1, x2, x3, x4, x5, x6, x7, x8, x9, IntKind.wrap IntKind.i64 (x10 * x11), y2.2.1, y2.2.2.1, y2.2.2.2)) fun y6 =>
        iteP (y6.1 != (0 : Int)) (
          some (((0 : Int), (0 : Int), y6.1, []))) (
          Option.bind (F106 N (y6.2.1, y6.2.2.1, y6.2.2.2.1, ())) fun y7 =>
          some ((IntKind.wrap IntKind.i64 (↑(BitVec.toNat (BitVec.ofInt (64 : Nat) y2.1 &&& BitVec.ofInt (64 : Nat) (15 : Int))) : Int), y7, (0 : Int), y6.2.2.2.2)))) (
        iteP (Int.fdiv y2.1 (16 : Int) == (10 : Int)) (
          Option.bind (F168 N (x12, x10, x11, y2.2.1, y2.2.2.1, y2.2.2.2)) fun y8 =>
          iteP (y8.1 != (0 : Int)) (
            some (((0 : Int), (0 : Int), y8.1, []))) (
            Option.bind (F106 N (y8.2.1, y8.2.2.1, y8.2.2.2.1, ())) fun y9 =>
            some ((IntKind.wrap IntKind.i64 (↑(BitVec.toNat (BitVec.ofInt (64 : Nat) y2.1 &&& BitVec.ofInt (64 : Nat) (15 : Int))) : Int), y9, (0 : Int), y8.2.2.2.2)))) (
          some (((0 : Int), (0 : Int), (180 : Int), []))))))
noncomputable def T103 (N : Nat) : Pk → Tr Pk := tellS s103 w103 (F103 N)
theorem T103_ok (N : Nat) : FOK Tryz.prog (103) (T103 N) :=
  (fn_ok2 ownT mix (tab103_ok N) Tryz.func103 s103 w103 [] (cuts := []) trivial (fun _ => by kernel_rfl) (by decide +kernel) (F103 N) (fun x => by kernel_rfl))
end Go.Proofs.YtfcamlibbfnldaaGreat.Am
