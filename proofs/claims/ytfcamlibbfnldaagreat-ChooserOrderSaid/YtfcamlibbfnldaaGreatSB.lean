/- The seat's Go functions come to the Lean functions written here, wherever these give an answer (part B). -/
import Derived.Test.YtfcamlibbfnldaaGreatSA
set_option linter.unusedSimpArgs false
set_option linter.unusedVariables false
set_option linter.unusedSectionVars false
set_option maxRecDepth 100000
namespace Go.Proofs.YtfcamlibbfnldaaGreat.Am
open Go.Am
@[reducible] def s352 : SP := ⟨[.int .i64, .int .i64, .int .i64], []⟩
noncomputable def tab352 (N : Nat) : List (Nat × (Pk → Tr Pk)) := []
theorem tab352_ok (N : Nat) : TabOK Tryz.prog (tab352 N) := trivial
@[reducible] def w352 : List SP := [⟨[.bool], []⟩]
noncomputable def F352 (N : Nat) : (Int × Int × Int) → Option (Bool)
  | (x0, x1, x2) =>
  iteP (decide (x1 ≤ x0)) (
    some (decide (x0 ≤ x2))) (
    some (false))
noncomputable def T352 (N : Nat) : Pk → Tr Pk := tellS s352 w352 (F352 N)
theorem T352_ok (N : Nat) : FOK Tryz.prog (352) (T352 N) :=
  (fn_ok2 ownT mix (tab352_ok N) Tryz.func352 s352 w352 [] (cuts := []) trivial (fun _ => by kernel_rfl) (by decide +kernel) (F352 N) (fun x => by kernel_rfl))
@[reducible] def s335 : SP := ⟨[.agg [.int .i64, .int .i64, .int .i64]], []⟩
noncomputable def tab335 (N : Nat) : List (Nat × (Pk → Tr Pk)) := [(352, T352 N)]
theorem tab335_ok (N : Nat) : TabOK Tryz.prog (tab335 N) := ⟨T352_ok N, trivial⟩
@[reducible] def w335 : List SP := [⟨[.bool], []⟩]
noncomputable def F335 (N : Nat) : (Int × Int × Int) → Option (Bool)
  | (x0, x1, x2) =>
  iteP (x1 == (0 : Int)) (
    iteP (x2 == (0 : Int)) (
      Option.bind (F352 N (x0, (0 : Int), (255 : Int))) fun y0 =>
      some (y0)) (
      some (false))) (
    iteP (x0 == (0 : Int)) (
      Option.bind (F352 N (x1, (3 : Int), (258 : Int))) fun y1 =>
      iteP (y1) (
        Option.bind (F352 N (x2, (1 : Int), (32768 : Int))) fun y2 =>
        some (y2)) (
        some (false))) (
      some (false)))
noncomputable def T335 (N : Nat) : Pk → Tr Pk := tellS s335 w335 (F335 N)
theorem T335_ok (N : Nat) : FOK Tryz.prog (335) (T335 N) :=
  (fn_ok2 ownT mix (tab335_ok N) Tryz.func335 s335 w335 [] (cuts := []) trivial (fun _ => by kernel_rfl) (by decide +kernel) (F335 N) (fun x => by kernel_rfl))
@[reducible] def s271 : SP := ⟨[.adr 0 [], .bool, .int .i64], [.var 221 (.agg [.sl 1, .int .i64, .int .i64]), .row (.int .u8) 5]⟩
noncomputable def tab271 (N : Nat) : List (Nat × (Pk → Tr Pk)) := [(269, T269 N)]
theorem tab271_ok (N : Nat) : TabOK Tryz.prog (tab271 N) := ⟨T269_ok N, trivial⟩
@[reducible] def w271 : List SP := [⟨[.tup []], [.var 221 (.agg [.sl 1, .int .i64, .int .i64]), .row (.int .u8) 5]⟩]
noncomputable def F271 (N : Nat) : (Bool × Int × Int × Int × (List Int)) → Option (Int × Int × (List Int))
  | (x0, x1, x2, x3, x4) =>
  iteP (x0) (
    Option.bind (F269 N ((1 : Int), (1 : Int), x2, x3, x4)) fun y0 =>
    Option.bind (F269 N ((2 : Int), x1, y0.1, y0.2.1, y0.2.2)) fun y1 =>
    some ((y1.1, y1.2.1, y1.2.2))) (
    Option.bind (F269 N ((1 : Int), (0 : Int), x2, x3, x4)) fun y2 =>
    Option.bind (F269 N ((2 : Int), x1, y2.1, y2.2.1, y2.2.2)) fun y3 =>
    some ((y3.1, y3.2.1, y3.2.2)))
noncomputable def T271 (N : Nat) : Pk → Tr Pk := tellS s271 w271 (F271 N)
theorem T271_ok (N : Nat) : FOK Tryz.prog (271) (T271 N) :=
  (fn_ok2 ownT mix (tab271_ok N) Tryz.func271 s271 w271 [0] (cuts := []) trivial (fun _ => by kernel_rfl) (by decide +kernel) (F271 N) (fun x => by kernel_rfl))
@[reducible] def s353 : SP := ⟨[.sl 0, .int .i64, .int .i64], [.row (.int .i64) 3]⟩
noncomputable def tab353 (N : Nat) : List (Nat × (Pk → Tr Pk)) := []
theorem tab353_ok (N : Nat) : TabOK Tryz.prog (tab353 N) := trivial
@[reducible] def L353_12 : LD := ⟨12, [0, 1, 2], [(.ret, [6]), (.exit 0, [0])], ⟨[.sl 0, .int .i64, .int .i64], [.row (.int .i64) 3]⟩, [(.exit 0, ⟨[.sl 0], [.row (.int .i64) 3]⟩)]⟩
abbrev P353_12 : Type := Int × Int × (List Int)
abbrev R353_12 : Type := (List Int)
noncomputable def B353_12 (N : Nat) (f : P353_12 → Option R353_12) : P353_12 → Option R353_12
  | (x0, x1, x2) =>
  iteP (decide ((↑(List.length x2) : Int) < x0)) (
    iteP (decide ((List.length x2 + List.length [x1]) * (8 : Nat) ≤ (140737488355328 : Nat) ∧ List.length x2 + List.length [x1] ≤ (140737488355328 : Nat))) (
      Option.bind (f (x0, x1, x2 ++ [x1])) fun r => some r) (
      none )) (
    some (x2))
noncomputable def F353_12 (N : Nat) : Nat → P353_12 → Option R353_12
  | 0, _ => none
  | k + 1, x => B353_12 N (F353_12 N k) x
noncomputable def C353_12 (N : Nat) (k : Nat) : Cut := L353_12.cut (F353_12 N k)
theorem C353_12_ok (N : Nat) (k : Nat) : CutAt Tryz.prog false Tryz.f353 [] 12 (C353_12 N k) :=
  L353_12.loopT ownT mix (tab353_ok N) Tryz.f353 [] (cuts := []) trivial (by decide +kernel) (by kernel_rfl) (B353_12 N) (F353_12 N) (fun _ => rfl) (fun _ _ => rfl) (fun f x => by kernel_rfl) k
@[reducible] def w353 : List SP := [⟨[.sl 0], [.row (.int .i64) 3]⟩]
noncomputable def F353 (N : Nat) : (Int × Int × (List Int)) → Option ((List Int))
  | (x0, x1, x2) =>
  Option.bind (F353_12 N N (x0, x1, x2)) fun y0 =>
  some (y0)
noncomputable def T353 (N : Nat) : Pk → Tr Pk := tellS s353 w353 (F353 N)
theorem T353_ok (N : Nat) : FOK Tryz.prog (353) (T353 N) :=
  (fn_ok2 ownT mix (tab353_ok N) Tryz.func353 s353 w353 [] (cuts := [(12, C353_12 N N)]) ⟨C353_12_ok N N, trivial⟩ (fun _ => by kernel_rfl) (by decide +kernel) (F353 N) (fun x => by kernel_rfl))
@[reducible] def s336 : SP := ⟨[], []⟩
noncomputable def tab336 (N : Nat) : List (Nat × (Pk → Tr Pk)) := [(353, T353 N)]
theorem tab336_ok (N : Nat) : TabOK Tryz.prog (tab336 N) := ⟨T353_ok N, trivial⟩
@[reducible] def w336 : List SP := [⟨[.tup [.sl 0, .sl 1]], [.row (.int .i64) 3, .row (.int .i64) 3]⟩]
noncomputable def F336 (N : Nat) : (Unit) → Option ((List Int) × (List Int))
  | () =>
  Option.bind (F353 N ((144 : Int), (8 : Int), [])) fun y0 =>
  Option.bind (F353 N ((256 : Int), (9 : Int), y0)) fun y1 =>
  Option.bind (F353 N ((280 : Int), (7 : Int), y1)) fun y2 =>
  Option.bind (F353 N ((288 : Int), (8 : Int), y2)) fun y3 =>
  Option.bind (F353 N ((30 : Int), (5 : Int), [])) fun y4 =>
  some ((y3, y4))
noncomputable def T336 (N : Nat) : Pk → Tr Pk := tellS s336 w336 (F336 N)
theorem T336_ok (N : Nat) : FOK Tryz.prog (336) (T336 N) :=
  (fn_ok2 ownT mix (tab336_ok N) Tryz.func336 s336 w336 [] (cuts := []) trivial (fun _ => by kernel_rfl) (by decide +kernel) (F336 N) (fun x => by kernel_rfl))
@[reducible] def s371 : SP := ⟨[.ro (.int .i64)], []⟩
noncomputable def tab371 (N : Nat) : List (Nat × (Pk → Tr Pk)) := []
theorem tab371_ok (N : Nat) : TabOK Tryz.prog (tab371 N) := trivial
@[reducible] def L371_122 : LD := ⟨122, [12, 11, 13, 4, 2], [(.ret, [2, 3]), (.exit 0, [4, 2])], ⟨[.int .i64, .ro (.int .i64), .int .i64, .adr 0 [], .adr 1 []], [.var 383 (.arr (.int .i64) 16), .var 383 (.arr (.int .i64) 16)]⟩, [(.ret, ⟨[.adr 0 [], .int .i64], [.var 383 (.arr (.int .i64) 16)]⟩), (.exit 0, ⟨[.adr 0 [], .adr 1 []], [.var 383 (.arr (.int .i64) 16), .var 383 (.arr (.int .i64) 16)]⟩)]⟩
abbrev P371_122 : Type := Int × (List Int) × Int × (List Int) × (List Int)
abbrev R371_122 : Type := ((Int × (List Int)) ⊕ ((List Int) × (List Int)))
noncomputable def B371_122 (N : Nat) (f : P371_122 → Option R371_122) : P371_122 → Option R371_122
  | (x0, x1, x2, x3, x4) =>
  iteP (decide (x2 < x0)) (
    iteP (within x2 (List.length x1)) (
      Option.bind (x1[Int.toNat x2]?) fun y0 =>
      iteP (decide (y0 < (0 : Int))) (
        some (.inl (((50 : Int), x3)))) (
        iteP (decide (y0 > (15 : Int))) (
          some (.inl (((50 : Int), x3)))) (
          iteP (within y0 (16 : Nat)) (
            Option.bind (x3[Int.toNat y0]?) fun y1 =>
            iteP (within y0 (16 : Nat)) (
              Option.bind (x3[Int.toNat y0]?) fun y2 =>
              Option.bind (f (x0, x1, IntKind.wrap IntKind.i64 (x2 + (1 : Int)), List.set x3 (Int.toNat y0) (IntKind.wrap IntKind.i64 (y1 + (1 : Int))), x4)) fun r => match r with | .inl y => some (.inl y) | .inr y => some (.inr y)) (
              none )) (
            none )))) (
      none )) (
    some (.inr ((x3, x4))))
noncomputable def F371_122 (N : Nat) : Nat → P371_122 → Option R371_122
  | 0, _ => none
  | k + 1, x => B371_122 N (F371_122 N k) x
noncomputable def C371_122 (N : Nat) (k : Nat) : Cut := L371_122.cut (F371_122 N k)
theorem C371_122_ok (N : Nat) (k : Nat) : CutAt Tryz.prog false Tryz.f371 [] 122 (C371_122 N k) :=
  L371_122.loopT ownT mix (tab371_ok N) Tryz.f371 [] (cuts := []) trivial (by decide +kernel) (by kernel_rfl) (B371_122 N) (F371_122 N) (fun _ => rfl) (fun _ _ => rfl) (fun f x => by kernel_rfl) k
@[reducible] def w371 : List SP := [⟨[.tup [.arr (.int .i64) 16, .int .i64]], []⟩]
noncomputable def F371 (N : Nat) : ((List Int)) → Option ((List Int) × Int)
  | x0 =>
  iteP (decide ((↑(List.length x0) : Int) > (320 : Int))) (
    some (([(0 : Int), (0 : Int), (0 : Int), (0 : Int), (0 : Int), (0 : Int), (0 : Int), (0 : Int), (0 : Int), (0 : Int), (0 : Int), (0 : Int), (0 : Int), (0 : Int), (0 : Int), (0 : Int)], (50 : Int)))) (
    Option.bind (F371_122 N N ((↑(List.length x0) : Int), x0, (0 : Int), [(0 : Int), (0 : Int), (0 : Int), (0 : Int), (0 : Int), (0 : Int), (0 : Int), (0 : Int), (0 : Int), (0 : Int), (0 : Int), (0 : Int), (0 : Int), (0 : Int), (0 : Int), (0 : Int)], [(0 : Int), (0 : Int), (0 : Int), (0 : Int), (0 : Int), (0 : Int), (0 : Int), (0 : Int), (0 : Int), (0 : Int), (0 : Int), (0 : Int), (0 : Int), (0 : Int), (0 : Int), (0 : Int)])) fun y0 =>
    match y0 with
    | .inl y1 =>
      some ((y1.2, y1.1))
    | .inr y1 =>
      some ((y1.1, (0 : Int))))
noncomputable def T371 (N : Nat) : Pk → Tr Pk := tellS s371 w371 (F371 N)
theorem T371_ok (N : Nat) : FOK Tryz.prog (371) (T371 N) :=
  (fn_ok2 ownT mix (tab371_ok N) Tryz.func371 s371 w371 [] (cuts := [(122, C371_122 N N)]) ⟨C371_122_ok N N, trivial⟩ (fun _ => by kernel_rfl) (by decide +kernel) (F371 N) (fun x => by kernel_rfl))
@[reducible] def s370 : SP := ⟨[.ro (.int .i64)], []⟩
noncomputable def tab370 (N : Nat) : List (Nat × (Pk → Tr Pk)) := [(371, T371 N)]
theorem tab370_ok (N : Nat) : TabOK Tryz.prog (tab370 N) := ⟨T371_ok N, trivial⟩
@[reducible] def L370_122 : LD := ⟨122, [6, 5, 7, 4], [(.ret, [2, 3]), (.exit 0, [6, 5])], ⟨[.int .i64, .int .i64, .int .i64, .adr 0 []], [.var 383 (.arr (.int .i64) 16)]⟩, [(.exit 0, ⟨[.int .i64, .int .i64], []⟩)]⟩
abbrev P370_122 : Type := Int × Int × Int × (List Int)
abbrev R370_122 : Type := Int × Int
noncomputable def B370_122 (N : Nat) (f : P370_122 → Option R370_122) : P370_122 → Option R370_122
  | (x0, x1, x2, x3) =>
  iteP (decide (x2 ≤ (15 : Int))) (
    iteP (x1 == (0 : Int)) (
      iteP (within x2 (16 : Nat)) (
        Option.bind (x3[Int.toNat x2]?) fun y0 =>
        iteP (decide (IntKind.wrap IntKind.i64 (IntKind.wrap IntKind.i64 (x0 * (2 : Int)) - y0) < (0 : Int))) (
          Option.bind (f (IntKind.wrap IntKind.i64 (IntKind.wrap IntKind.i64 (x0 * (2 : Int)) - y0), (50 : Int), IntKind.wrap IntKind.i64 (x2 + (1 : Int)), x3)) fun r => some r) (
          Option.bind (f (IntKind.wrap IntKind.i64 (IntKind.wrap IntKind.i64 (x0 * (2 : Int)) - y0), x1, IntKind.wrap IntKind.i64 (x2 + (1 : Int)), x3)) fun r => some r)) (
        none )) (
      some ((x0, x1)))) (
    some ((x0, x1)))
noncomputable def F370_122 (N : Nat) : Nat → P370_122 → Option R370_122
  | 0, _ => none
  | k + 1, x => B370_122 N (F370_122 N k) x
noncomputable def C370_122 (N : Nat) (k : Nat) : Cut := L370_122.cut (F370_122 N k)
theorem C370_122_ok (N : Nat) (k : Nat) : CutAt Tryz.prog false Tryz.f370 [] 122 (C370_122 N k) :=
  L370_122.loopT ownT mix (tab370_ok N) Tryz.f370 [] (cuts := []) trivial (by decide +kernel) (by kernel_rfl) (B370_122 N) (F370_122 N) (fun _ => rfl) (fun _ _ => rfl) (fun f x => by kernel_rfl) k
@[reducible] def w370 : List SP := [⟨[.tup [.int .i64, .int .i64]], []⟩]
noncomputable def F370 (N : Nat) : ((List Int)) → Option (Int × Int)
  | x0 =>
  Option.bind (F371 N x0) fun y0 =>
  Option.bind (F370_122 N N ((1 : Int), y0.2, (1 : Int), y0.1)) fun y1 =>
  iteP (y1.2 != (0 : Int)) (
    some (((0 : Int), y1.2))) (
    some ((y1.1, (0 : Int))))
noncomputable def T370 (N : Nat) : Pk → Tr Pk := tellS s370 w370 (F370 N)
theorem T370_ok (N : Nat) : FOK Tryz.prog (370) (T370 N) :=
  (fn_ok2 ownT mix (tab370_ok N) Tryz.func370 s370 w370 [] (cuts := [(122, C370_122 N N)]) ⟨C370_122_ok N N, trivial⟩ (fun _ => by kernel_rfl) (by decide +kernel) (F370 N) (fun x => by kernel_rfl))
@[reducible] def s354 : SP := ⟨[.ro (.int .i64)], []⟩
noncomputable def tab354 (N : Nat) : List (Nat × (Pk → Tr Pk)) := [(370, T370 N), (371, T371 N)]
theorem tab354_ok (N : Nat) : TabOK Tryz.prog (tab354 N) := ⟨T370_ok N, T371_ok N, trivial⟩
@[reducible] def L354_250 : LD := ⟨250, [9, 0, 6, 8], [(.ret, [2, 3]), (.exit 0, [0, 8])], ⟨[.int .i64, .ro (.int .i64), .adr 0 [], .adr 1 []], [.var 383 (.arr (.int .i64) 16), .var 383 (.arr (.int .i64) 16)]⟩, [(.exit 0, ⟨[.ro (.int .i64), .adr 0 []], [.var 383 (.arr (.int .i64) 16)]⟩)]⟩
abbrev P354_250 : Type := Int × (List Int) × (List Int) × (List Int)
abbrev R354_250 : Type := (List Int) × (List Int)
noncomputable def B354_250 (N : Nat) (f : P354_250 → Option R354_250) : P354_250 → Option R354_250
  | (x0, x1, x2, x3) =>
  iteP (decide (x0 < (15 : Int))) (
    iteP (within x0 (16 : Nat)) (
      Option.bind (x3[Int.toNat x0]?) fun y0 =>
      iteP (within x0 (16 : Nat)) (
        Option.bind (x2[Int.toNat x0]?) fun y1 =>
        iteP (within (IntKind.wrap IntKind.i64 (x0 + (1 : Int))) (16 : Nat)) (
          Option.bind (x3[Int.toNat (IntKind.wrap IntKind.i64 (x0 + (1 : Int)))]?) fun y2 =>
          Option.bind (f (IntKind.wrap IntKind.i64 (x0 + (1 : Int)), x1, x2, List.set x3 (Int.toNat (IntKind.wrap IntKind.i64 (x0 + (1 : Int)))) (IntKind.wrap IntKind.i64 (IntKind.wrap IntKind.i64 (y0 + y1) * (2 : Int))))) fun r => some r) (
          none )) (
        none )) (
      none )) (
    some ((x1, x3)))
noncomputable def F354_250 (N : Nat) : Nat → P354_250 → Option R354_250
  | 0, _ => none
  | k + 1, x => B354_250 N (F354_250 N k) x
noncomputable def C354_250 (N : Nat) (k : Nat) : Cut := L354_250.cut (F354_250 N k)
theorem C354_250_ok (N : Nat) (k : Nat) : CutAt Tryz.prog false Tryz.f354 [] 250 (C354_250 N k) :=
  L354_250.loopT ownT mix (tab354_ok N) Tryz.f354 [] (cuts := []) trivial (by decide +kernel) (by kernel_rfl) (B354_250 N) (F354_250 N) (fun _ => rfl) (fun _ _ => rfl) (fun f x => by kernel_rfl) k
@[reducible] def L354_1018 : LD := ⟨1018, [46, 45, 44, 10, 8], [(.ret, [2, 3]), (.exit 2, [10])], ⟨[.int .i64, .int .i64, .ro (.int .i64), .sl 0, .adr 1 []], [.row y0 248, .var 383 (.arr (.int .i64) 16)]⟩, [(.exit 2, ⟨[.sl 0], [.row y0 248]⟩)]⟩
abbrev P354_1018 : Type := Int × Int × (List Int) × (List (Int × (Int × Unit))) × (List Int)
abbrev R354_1018 : Type := (List (Int × (Int × Unit)))
noncomputable def B354_1018 (N : Nat) (f : P354_1018 → Option R354_1018) : P354_1018 → Option R354_1018
  | (x0, x1, x2, x3, x4) =>
  iteP (decide (x0 < x1)) (
    iteP (within x0 (List.length x2)) (
      Option.bind (x2[Int.toNat x0]?) fun y0 =>
      iteP (decide (y0 > (0 : Int))) (
        iteP (within y0 (16 : Nat)) (
          Option.bind (x4[Int.toNat y0]?) fun y1 =>
          iteP (within x0 (List.length x3)) (
            Option.bind (x3[Int.toNat x0]?) fun y2 =>
            iteP (within y0 (16 : Nat)) (
              Option.bind (x4[Int.toNat y0]?) fun y3 =>
              iteP (within y0 (16 : Nat)) (
                Option.bind (x4[Int.toNat y0]?) fun y4 =>
                Option.bind (f (IntKind.wrap IntKind.i64 (x0 + (1 : Int)), x1, x2, List.set x3 (Int.toNat x0) (y1, y0, ()), List.set x4 (Int.toNat y0) (IntKind.wrap IntKind.i64 (y3 + (1 : Int))))) fun r => some r) (
                none )) (
              none )) (
            none )) (
          none )) (
        Option.bind (f (IntKind.wrap IntKind.i64 (x0 + (1 : Int)), x1, x2, x3, x4)) fun r => some r)) (
      none )) (
    some (x3))
noncomputable def F354_1018 (N : Nat) : Nat → P354_1018 → Option R354_1018
  | 0, _ => none
  | k + 1, x => B354_1018 N (F354_1018 N k) x
noncomputable def C354_1018 (N : Nat) (k : Nat) : Cut := L354_1018.cut (F354_1018 N k)
theorem C354_1018_ok (N : Nat) (k : Nat) : CutAt Tryz.prog false Tryz.f354 [] 1018 (C354_1018 N k) :=
  L354_1018.loopT ownT mix (tab354_ok N) Tryz.f354 [] (cuts := [(250, C354_250 N N)]) ⟨C354_250_ok N N, trivial⟩ (by decide +kernel) (by kernel_rfl) (B354_1018 N) (F354_1018 N) (fun _ => rfl) (fun _ _ => rfl) (fun f x => by kernel_rfl) k
@[reducible] def w354 : List SP := [⟨[.tup [.sl 0, .int .i64]], [.row y0 248]⟩]
noncomputable def F354 (N : Nat) : ((List Int)) → Option (Int × (List (Int × (Int × Unit))))
  | x0 =>
  Option.bind (F370 N x0) fun y0 =>
  iteP (y0.2 != (0 : Int)) (
    some ((y0.2, []))) (
    Option.bind (F371 N x0) fun y1 =>
    Option.bind (F354_250 N N ((1 : Int), x0, y1.1, [(0 : Int), (0 : Int), (0 : Int), (0 : Int), (0 : Int), (0 : Int), (0 : Int), (0 : Int), (0 : Int), (0 : Int), (0 : Int), (0 : Int), (0 : Int), (0 : Int), (0 : Int), (0 : Int)])) fun y2 =>
    iteP (decide ((0 : Int) ≤ (↑(List.length y2.1) : Int) ∧ (↑(List.length y2.1) : Int) ≤ (↑(List.length y2.1) : Int) ∧ (↑(List.length y2.1) : Int) * (16 : Int) ≤ (140737488355328 : Int) ∧ (↑(List.length y2.1) : Int) ≤ (140737488355328 : Int))) (
      Option.bind (F354_1018 N N ((0 : Int), (↑(List.length y2.1) : Int), y2.1, List.replicate (Int.toNat (↑(List.length y2.1) : Int)) ((0 : Int), (0 : Int), ()), y2.2)) fun y3 =>
      some (((0 : Int), y3))) (
      none ))
noncomputable def T354 (N : Nat) : Pk → Tr Pk := tellS s354 w354 (F354 N)
theorem T354_ok (N : Nat) : FOK Tryz.prog (354) (T354 N) :=
  (fn_ok2 ownT mix (tab354_ok N) Tryz.func354 s354 w354 [] (cuts := [(250, C354_250 N N), (1018, C354_1018 N N)]) ⟨C354_250_ok N N, C354_1018_ok N N, trivial⟩ (fun _ => by kernel_rfl) (by decide +kernel) (F354 N) (fun x => by kernel_rfl))
@[reducible] def s387 : SP := ⟨[.int .i64, .int .i64, .int .i64], []⟩
noncomputable def tab387 (N : Nat) : List (Nat × (Pk → Tr Pk)) := []
theorem tab387_ok (N : Nat) : TabOK Tryz.prog (tab387 N) := trivial
@[reducible] def w387 : List SP := [⟨[.int .i64], []⟩]
noncomputable def F387 (N : Nat) : (Int × Int × Int) → Option (Int)
  | (x0, x1, x2) =>
  iteP (decide (x2 = (0 : Int))) (
    none ) (
    iteP (decide (x1 = (0 : Int))) (
      none ) (
      some (IntKind.wrap IntKind.i64 ((if (0 : Int) > IntKind.wrap IntKind.i64 (IntKind.wrap IntKind.i64 (Int.tdiv (IntKind.wrap IntKind.i64 (x0 - x1)) x2) + (1 : Int)) then (0 : Int) else IntKind.wrap IntKind.i64 (IntKind.wrap IntKind.i64 (Int.tdiv (IntKind.wrap IntKind.i64 (x0 - x1)) x2) + (1 : Int))) * if (1 : Int) < IntKind.wrap IntKind.i64 (Int.tdiv x0 x1) then (1 : Int) else IntKind.wrap IntKind.i64 (Int.tdiv x0 x1)))))
noncomputable def T387 (N : Nat) : Pk → Tr Pk := tellS s387 w387 (F387 N)
theorem T387_ok (N : Nat) : FOK Tryz.prog (387) (T387 N) :=
  (fn_ok2 ownT mix (tab387_ok N) Tryz.func387 s387 w387 [] (cuts := []) trivial (fun _ => by kernel_rfl) (by decide +kernel) (F387 N) (fun x => by kernel_rfl))
@[reducible] def s382 : SP := ⟨[.int .i64, .int .i64, .int .i64, .int .i64], []⟩
noncomputable def tab382 (N : Nat) : List (Nat × (Pk → Tr Pk)) := [(387, T387 N)]
theorem tab382_ok (N : Nat) : TabOK Tryz.prog (tab382 N) := ⟨T387_ok N, trivial⟩
@[reducible] def L382_58 : LD := ⟨58, [10, 14, 13, 0, 1, 2], [(.ret, [8, 9]), (.exit 0, [10, 0, 1, 2])], ⟨[.int .i64, .int .i64, .int .i64, .int .i64, .int .i64, .int .i64], []⟩, [(.exit 0, ⟨[.int .i64, .int .i64, .int .i64, .int .i64], []⟩)]⟩
abbrev P382_58 : Type := Int × Int × Int × Int × Int × Int
abbrev R382_58 : Type := Int × Int × Int × Int
noncomputable def B382_58 (N : Nat) (f : P382_58 → Option R382_58) : P382_58 → Option R382_58
  | (x0, x1, x2, x3, x4, x5) =>
  iteP (decide (x1 < x2)) (
    Option.bind (F387 N (x1, x4, x5)) fun y0 =>
    iteP (decide (y0 < (0 : Int))) (
      none ) (
      Option.bind (f (IntKind.wrap IntKind.i64 (x0 + IntKind.wrap IntKind.i64 ((1 : Int) * (2 : Int) ^ min (Int.toNat y0) (64 : Nat))), IntKind.wrap IntKind.i64 (x1 + (1 : Int)), x2, x3, x4, x5)) fun r => some r)) (
    some ((x0, x3, x4, x5)))
noncomputable def F382_58 (N : Nat) : Nat → P382_58 → Option R382_58
  | 0, _ => none
  | k + 1, x => B382_58 N (F382_58 N k) x
noncomputable def C382_58 (N : Nat) (k : Nat) : Cut := L382_58.cut (F382_58 N k)
theorem C382_58_ok (N : Nat) (k : Nat) : CutAt Tryz.prog false Tryz.f382 [] 58 (C382_58 N k) :=
  L382_58.loopT ownT mix (tab382_ok N) Tryz.f382 [] (cuts := []) trivial (by decide +kernel) (by kernel_rfl) (B382_58 N) (F382_58 N) (fun _ => rfl) (fun _ _ => rfl) (fun f x => by kernel_rfl) k
@[reducible] def w382 : List SP := [⟨[.tup [.int .i64, .int .i64]], []⟩]
noncomputable def F382 (N : Nat) : (Int × Int × Int × Int) → Option (Int × Int)
  | (x0, x1, x2, x3) =>
  Option.bind (F382_58 N N (x3, (0 : Int), x0, x0, x1, x2)) fun y0 =>
  Option.bind (F387 N (y0.2.1, y0.2.2.1, y0.2.2.2)) fun y1 =>
  some ((y0.1, y1))
noncomputable def T382 (N : Nat) : Pk → Tr Pk := tellS s382 w382 (F382 N)
theorem T382_ok (N : Nat) : FOK Tryz.prog (382) (T382 N) :=
  (fn_ok2 ownT mix (tab382_ok N) Tryz.func382 s382 w382 [] (cuts := [(58, C382_58 N N)]) ⟨C382_58_ok N N, trivial⟩ (fun _ => by kernel_rfl) (by decide +kernel) (F382 N) (fun x => by kernel_rfl))
@[reducible] def s373 : SP := ⟨[.int .i64], []⟩
noncomputable def tab373 (N : Nat) : List (Nat × (Pk → Tr Pk)) := [(382, T382 N)]
theorem tab373_ok (N : Nat) : TabOK Tryz.prog (tab373 N) := ⟨T382_ok N, trivial⟩
@[reducible] def w373 : List SP := [⟨[.tup [.int .i64, .int .i64]], []⟩]
noncomputable def F373 (N : Nat) : (Int) → Option (Int × Int)
  | x0 =>
  iteP (x0 == (285 : Int)) (
    some (((258 : Int), (0 : Int)))) (
    iteP (decide (x0 < (257 : Int))) (
      some (((0 : Int), (0 : Int)))) (
      iteP (decide (x0 > (285 : Int))) (
        some (((0 : Int), (0 : Int)))) (
        Option.bind (F382 N (IntKind.wrap IntKind.i64 (x0 - (257 : Int)), (8 : Int), (4 : Int), (3 : Int))) fun y0 =>
        some ((y0.1, y0.2)))))
noncomputable def T373 (N : Nat) : Pk → Tr Pk := tellS s373 w373 (F373 N)
theorem T373_ok (N : Nat) : FOK Tryz.prog (373) (T373 N) :=
  (fn_ok2 ownT mix (tab373_ok N) Tryz.func373 s373 w373 [] (cuts := []) trivial (fun _ => by kernel_rfl) (by decide +kernel) (F373 N) (fun x => by kernel_rfl))
@[reducible] def s372 : SP := ⟨[.int .i64, .int .i64, .int .i64, .fn 373], []⟩
noncomputable def tab372 (N : Nat) : List (Nat × (Pk → Tr Pk)) := [(373, T373 N)]
theorem tab372_ok (N : Nat) : TabOK Tryz.prog (tab372 N) := ⟨T373_ok N, trivial⟩
@[reducible] def L372_26 : LD := ⟨26, [1, 3, 11, 0], [(.ret, [8, 9, 10]), (.exit 0, [])], ⟨[.int .i64, .fn 373, .int .i64, .int .i64], []⟩, [(.ret, ⟨[.int .i64, .int .i64, .int .i64], []⟩), (.exit 0, ⟨[], []⟩)]⟩
abbrev P372_26 : Type := Int × Int × Int
abbrev R372_26 : Type := ((Int × Int × Int) ⊕ (Unit))
noncomputable def B372_26 (N : Nat) (f : P372_26 → Option R372_26) : P372_26 → Option R372_26
  | (x0, x1, x2) =>
  iteP (decide (x1 ≥ x0)) (
    Option.bind (F373 N x1) fun y0 =>
    iteP (decide (y0.1 ≤ x2)) (
      some (.inl ((x1, IntKind.wrap IntKind.i64 (x2 - y0.1), y0.2)))) (
      Option.bind (f (x0, IntKind.wrap IntKind.i64 (x1 - (1 : Int)), x2)) fun r => match r with | .inl y => some (.inl y) | .inr y => some (.inr y))) (
    some (.inr (())))
noncomputable def F372_26 (N : Nat) : Nat → P372_26 → Option R372_26
  | 0, _ => none
  | k + 1, x => B372_26 N (F372_26 N k) x
noncomputable def C372_26 (N : Nat) (k : Nat) : Cut := L372_26.cut (F372_26 N k)
theorem C372_26_ok (N : Nat) (k : Nat) : CutAt Tryz.prog false Tryz.f372 [] 26 (C372_26 N k) :=
  L372_26.loopT ownT mix (tab372_ok N) Tryz.f372 [] (cuts := []) trivial (by decide +kernel) (by kernel_rfl) (B372_26 N) (F372_26 N) (fun _ => rfl) (fun _ _ => rfl) (fun f x => by kernel_rfl) k
@[reducible] def w372 : List SP := [⟨[.tup [.int .i64, .int .i64, .int .i64]], []⟩]
noncomputable def F372 (N : Nat) : (Int × Int × Int) → Option (Int × Int × Int)
  | (x0, x1, x2) =>
  Option.bind (F372_26 N N (x1, x2, x0)) fun y0 =>
  match y0 with
  | .inl y1 =>
    some ((y1.1, y1.2.1, y1.2.2))
  | .inr y1 =>
    some (((0 : Int), (0 : Int), (0 : Int)))
noncomputable def T372 (N : Nat) : Pk → Tr Pk := tellS s372 w372 (F372 N)
theorem T372_ok (N : Nat) : FOK Tryz.prog (372) (T372 N) :=
  (fn_ok2 ownT mix (tab372_ok N) Tryz.func372 s372 w372 [] (cuts := [(26, C372_26 N N)]) ⟨C372_26_ok N N, trivial⟩ (fun _ => by kernel_rfl) (by decide +kernel) (F372 N) (fun x => by kernel_rfl))
@[reducible] def s356 : SP := ⟨[.int .i64], []⟩
noncomputable def tab356 (N : Nat) : List (Nat × (Pk → Tr Pk)) := [(372, T372 N)]
theorem tab356_ok (N : Nat) : TabOK Tryz.prog (tab356 N) := ⟨T372_ok N, trivial⟩
@[reducible] def w356 : List SP := [⟨[.tup [.int .i64, .int .i64, .int .i64]], []⟩]
noncomputable def F356 (N : Nat) : (Int) → Option (Int × Int × Int)
  | x0 =>
  iteP (decide (x0 > (258 : Int))) (
    some (((0 : Int), (0 : Int), (0 : Int)))) (
    Option.bind (F372 N (x0, (257 : Int), (285 : Int))) fun y0 =>
    some ((y0.1, y0.2.1, y0.2.2)))
noncomputable def T356 (N : Nat) : Pk → Tr Pk := tellS s356 w356 (F356 N)
theorem T356_ok (N : Nat) : FOK Tryz.prog (356) (T356 N) :=
  (fn_ok2 ownT mix (tab356_ok N) Tryz.func356 s356 w356 [] (cuts := []) trivial (fun _ => by kernel_rfl) (by decide +kernel) (F356 N) (fun x => by kernel_rfl))
@[reducible] def s374 : SP := ⟨[.int .i64], []⟩
noncomputable def tab374 (N : Nat) : List (Nat × (Pk → Tr Pk)) := [(382, T382 N)]
theorem tab374_ok (N : Nat) : TabOK Tryz.prog (tab374 N) := ⟨T382_ok N, trivial⟩
@[reducible] def w374 : List SP := [⟨[.tup [.int .i64, .int .i64]], []⟩]
noncomputable def F374 (N : Nat) : (Int) → Option (Int × Int)
  | x0 =>
  iteP (decide (x0 < (0 : Int))) (
    some (((0 : Int), (0 : Int)))) (
    iteP (decide (x0 ≥ (30 : Int))) (
      some (((0 : Int), (0 : Int)))) (
      Option.bind (F382 N (x0, (4 : Int), (2 : Int), (1 : Int))) fun y0 =>
      some ((y0.1, y0.2))))
noncomputable def T374 (N : Nat) : Pk → Tr Pk := tellS s374 w374 (F374 N)
theorem T374_ok (N : Nat) : FOK Tryz.prog (374) (T374 N) :=
  (fn_ok2 ownT mix (tab374_ok N) Tryz.func374 s374 w374 [] (cuts := []) trivial (fun _ => by kernel_rfl) (by decide +kernel) (F374 N) (fun x => by kernel_rfl))
@[reducible] def s372a : SP := ⟨[.int .i64, .int .i64, .int .i64, .fn 374], []⟩
noncomputable def tab372a (N : Nat) : List (Nat × (Pk → Tr Pk)) := [(374, T374 N)]
theorem tab372a_ok (N : Nat) : TabOK Tryz.prog (tab372a N) := ⟨T374_ok N, trivial⟩
@[reducible] def L372a_26 : LD := ⟨26, [1, 3, 11, 0], [(.ret, [8, 9, 10]), (.exit 0, [])], ⟨[.int .i64, .fn 374, .int .i64, .int .i64], []⟩, [(.ret, ⟨[.int .i64, .int .i64, .int .i64], []⟩), (.exit 0, ⟨[], []⟩)]⟩
abbrev P372a_26 : Type := Int × Int × Int
abbrev R372a_26 : Type := ((Int × Int × Int) ⊕ (Unit))
noncomputable def B372a_26 (N : Nat) (f : P372a_26 → Option R372a_26) : P372a_26 → Option R372a_26
  | (x0, x1, x2) =>
  iteP (decide (x1 ≥ x0)) (
    Option.bind (F374 N x1) fun y0 =>
    iteP (decide (y0.1 ≤ x2)) (
      some (.inl ((x1, IntKind.wrap IntKind.i64 (x2 - y0.1), y0.2)))) (
      Option.bind (f (x0, IntKind.wrap IntKind.i64 (x1 - (1 : Int)), x2)) fun r => match r with | .inl y => some (.inl y) | .inr y => some (.inr y))) (
    some (.inr (())))
noncomputable def F372a_26 (N : Nat) : Nat → P372a_26 → Option R372a_26
  | 0, _ => none
  | k + 1, x => B372a_26 N (F372a_26 N k) x
noncomputable def C372a_26 (N : Nat) (k : Nat) : Cut := L372a_26.cut (F372a_26 N k)
theorem C372a_26_ok (N : Nat) (k : Nat) : CutAt Tryz.prog false Tryz.f372 [] 26 (C372a_26 N k) :=
  L372a_26.loopT ownT mix (tab372a_ok N) Tryz.f372 [] (cuts := []) trivial (by decide +kernel) (by kernel_rfl) (B372a_26 N) (F372a_26 N) (fun _ => rfl) (fun _ _ => rfl) (fun f x => by kernel_rfl) k
@[reducible] def w372a : List SP := [⟨[.tup [.int .i64, .int .i64, .int .i64]], []⟩]
noncomputable def F372a (N : Nat) : (Int × Int × Int) → Option (Int × Int × Int)
  | (x0, x1, x2) =>
  Option.bind (F372a_26 N N (x1, x2, x0)) fun y0 =>
  match y0 with
  | .inl y1 =>
    some ((y1.1, y1.2.1, y1.2.2))
  | .inr y1 =>
    some (((0 : Int), (0 : Int), (0 : Int)))
noncomputable def T372a (N : Nat) : Pk → Tr Pk := tellS s372a w372a (F372a N)
theorem T372a_ok (N : Nat) : FOK Tryz.prog (372) (T372a N) :=
  (fn_ok2 ownT mix (tab372a_ok N) Tryz.func372 s372a w372a [] (cuts := [(26, C372a_26 N N)]) ⟨C372a_26_ok N N, trivial⟩ (fun _ => by kernel_rfl) (by decide +kernel) (F372a N) (fun x => by kernel_rfl))
@[reducible] def s357 : SP := ⟨[.int .i64], []⟩
noncomputable def tab357 (N : Nat) : List (Nat × (Pk → Tr Pk)) := [(372, T372a N)]
theorem tab357_ok (N : Nat) : TabOK Tryz.prog (tab357 N) := ⟨T372a_ok N, trivial⟩
@[reducible] def w357 : List SP := [⟨[.tup [.int .i64, .int .i64, .int .i64]], []⟩]
noncomputable def F357 (N : Nat) : (Int) → Option (Int × Int × Int)
  | x0 =>
  iteP (decide (x0 > (32768 : Int))) (
    some (((0 : Int), (0 : Int), (0 : Int)))) (
    Option.bind (F372a N (x0, (0 : Int), (29 : Int))) fun y0 =>
    some ((y0.1, y0.2.1, y0.2.2)))
noncomputable def T357 (N : Nat) : Pk → Tr Pk := tellS s357 w357 (F357 N)
theorem T357_ok (N : Nat) : FOK Tryz.prog (357) (T357 N) :=
  (fn_ok2 ownT mix (tab357_ok N) Tryz.func357 s357 w357 [] (cuts := []) trivial (fun _ => by kernel_rfl) (by decide +kernel) (F357 N) (fun x => by kernel_rfl))
@[reducible] def s338 : SP := ⟨[.ro y3], []⟩
noncomputable def tab338 (N : Nat) : List (Nat × (Pk → Tr Pk)) := [(335, T335 N), (356, T356 N), (357, T357 N)]
theorem tab338_ok (N : Nat) : TabOK Tryz.prog (tab338 N) := ⟨T335_ok N, T356_ok N, T357_ok N, trivial⟩
@[reducible] def L338_122 : LD := ⟨122, [18, 17, 16, 2, 3], [(.ret, [2, 3]), (.exit 0, [2, 3])], ⟨[.int .i64, .int .i64, .ro y3, .sl 0, .sl 1], [.row (.int .i64) 3, .row (.int .i64) 3]⟩, [(.exit 0, ⟨[.sl 0, .sl 1], [.row (.int .i64) 3, .row (.int .i64) 3]⟩)]⟩
abbrev P338_122 : Type := Int × Int × (List (Int × (Int × (Int × Unit)))) × (List Int) × (List Int)
abbrev R338_122 : Type := (List Int) × (List Int)
noncomputable def B338_122 (N : Nat) (f : P338_122 → Option R338_122) : P338_122 → Option R338_122
  | (x0, x1, x2, x3, x4) =>
  iteP (decide (x0 < x1)) (
    iteP (within x0 (List.length x2)) (
      Option.bind (x2[Int.toNat x0]?) fun y0 =>
      Option.bind (F335 N (y0.1, y0.2.1, y0.2.2.1)) fun y1 =>
      iteP (!y1) (
        Option.bind (f (IntKind.wrap IntKind.i64 (x0 + (1 : Int)), x1, x2, x3, x4)) fun r => some r) (
        iteP (y0.2.1 == (0 : Int)) (
          iteP (within y0.1 (List.length x3)) (
            Option.bind (x3[Int.toNat y0.1]?) fun y2 =>
            iteP (within y0.1 (List.length x3)) (
              Option.bind (x3[Int.toNat y0.1]?) fun y3 =>
              Option.bind (f (IntKind.wrap IntKind.i64 (x0 + (1 : Int)), x1, x2, List.set x3 (Int.toNat y0.1) (IntKind.wrap IntKind.i64 (y2 + (1 : Int))), x4)) fun r => some r) (
              none )) (
            none )) (
          Option.bind (F356 N y0.2.1) fun y4 =>
          Option.bind (F357 N y0.2.2.1) fun y5 =>
          iteP (within y4.1 (List.length x3)) (
            Option.bind (x3[Int.toNat y4.1]?) fun y6 =>
            iteP (within y4.1 (List.length x3)) (
              Option.bind (x3[Int.toNat y4.1]?) fun y7 =>
              iteP (within y5.1 (List.length x4)) (
                Option.bind (x4[Int.toNat y5.1]?) fun y8 =>
                iteP (within y5.1 (List.length x4)) (
                  Option.bind (x4[Int.toNat y5.1]?) fun y9 =>
                  Option.bind (f (IntKind.wrap IntKind.i64 (x0 + (1 : Int)), x1, x2, List.set x3 (Int.toNat y4.1) (IntKind.wrap IntKind.i64 (y6 + (1 : Int))), List.set x4 (Int.toNat y5.1) (IntKind.wrap IntKind.i64 (y8 + (1 : Int))))) fun r => some r) (
                  none )) (
                none )) (
              none )) (
            none )))) (
      none )) (
    some ((x3, x4)))
noncomputable def F338_122 (N : Nat) : Nat → P338_122 → Option R338_122
  | 0, _ => none
  | k + 1, x => B338_122 N (F338_122 N k) x
noncomputable def C338_122 (N : Nat) (k : Nat) : Cut := L338_122.cut (F338_122 N k)
theorem C338_122_ok (N : Nat) (k : Nat) : CutAt Tryz.prog false Tryz.f338 [] 122 (C338_122 N k) :=
  L338_122.loopT ownT mix (tab338_ok N) Tryz.f338 [] (cuts := []) trivial (by decide +kernel) (by kernel_rfl) (B338_122 N) (F338_122 N) (fun _ => rfl) (fun _ _ => rfl) (fun f x => by kernel_rfl) k
@[reducible] def w338 : List SP := [⟨[.tup [.sl 0, .sl 1]], [.row (.int .i64) 3, .row (.int .i64) 3]⟩]
noncomputable def F338 (N : Nat) : ((List (Int × (Int × (Int × Unit))))) → Option ((List Int) × (List Int))
  | x0 =>
  Option.bind (F338_122 N N ((0 : Int), (↑(List.length x0) : Int), x0, [(0 : Int), (0 : Int), (0 : Int), (0 : Int), (0 : Int), (0 : Int), (0 : Int), (0 : Int), (0 : Int), (0 : Int), (0 : Int), (0 : Int), (0 : Int), (0 : Int), (0 : Int), (0 : Int), (0 : Int), (0 : Int), (0 : Int), (0 : Int), (0 : Int), (0 : Int), (0 : Int), (0 : Int), (0 : Int), (0 : Int), (0 : Int), (0 : Int), (0 : Int), (0 : Int), (0 : Int), (0 : Int), (0 : Int), (0 : Int), (0 : Int), (0 : Int), (0 : Int), (0 : Int), (0 : Int), (0 : Int), (0 : Int), (0 : Int), (0 : Int), (0 : Int), (0 : Int), (0 : Int), (0 : Int), (0 : Int), (0 : Int), (0 : Int), (0 : Int), (0 : Int), (0 : Int), (0 : Int), (0 : Int), (0 : Int), (0 : Int), (0 : Int), (0 : Int), (0 : Int), (0 : Int), (0 : Int), (0 : Int), (0 : Int), (0 : Int), (0 : Int), (0 : Int), (0 : Int), (0 : Int), (0 : Int), (0 : Int), (0 : Int), (0 : Int), (0 : Int), (0 : Int), (0 : Int), (0 : Int), (0 : Int), (0 : Int), (0 : Int), (0 : Int), (0 : Int), (0 : Int), (0 : Int), (0 : Int), (0 : Int), (0 : Int), (0 : Int), (0 : Int), (0 : Int), (0 : Int), (0 : Int), (0 : Int), (0 : Int), (0 : Int), (0 : Int), (0 : Int), (0 : Int), (0 : Int), (0 : Int), (0 : Int), (0 : Int), (0 : Int), (0 : Int), (0 : Int), (0 : Int), (0 : Int), (0 : Int), (0 : Int), (0 : Int), (0 : Int), (0 : Int), (0 : Int), (0 : Int), (0 : Int), (0 : Int), (0 : Int), (0 : Int), (0 : Int), (0 : Int), (0 : Int), (0 : Int), (0 : Int), (0 : Int), (0 : Int), (0 : Int), (0 : Int), (0 : Int), (0 : Int), (0 : Int), (0 : Int), (0 : Int), (0 : Int), (0 : Int), (0 : Int), (0 : Int), (0 : Int), (0 : Int), (0 : Int), (0 : Int), (0 : Int), (0 : Int), (0 : Int), (0 : Int), (0 : Int), (0 : Int), (0 : Int), (0 : Int), (0 : Int), (0 : Int), (0 : Int), (0 : Int), (0 : Int), (0 : Int), (0 : Int), (0 : Int), (0 : Int), (0 : Int), (0 : Int), (0 : Int), (0 : Int), (0 : Int), (0 : Int), (0 : Int), (0 : Int), (0 : Int), (0 : Int), (0 : Int), (0 : Int), (0 : Int), (0 : Int), (0 : Int), (0 : Int), (0 : Int), (0 : Int), (0 : Int), (0 : Int), (0 : Int), (0 : Int), (0 : Int), (0 : Int), (0 : Int), (0 : Int), (0 : Int), (0 : Int), (0 : Int), (0 : Int), (0 : Int), (0 : Int), (0 : Int), (0 : Int), (0 : Int), (0 : Int), (0 : Int), (0 : Int), (0 : Int), (0 : Int), (0 : Int), (0 : Int), (0 : Int), (0 : Int), (0 : Int), (0 : Int), (0 : Int), (0 : Int), (0 : Int), (0 : Int), (0 : Int), (0 : Int), (0 : Int), (0 : Int), (0 : Int), (0 : Int), (0 : Int), (0 : Int), (0 : Int), (0 : Int), (0 : Int), (0 : Int), (0 : Int), (0 : Int), (0 : Int), (0 : Int), (0 : Int), (0 : Int), (0 : Int), (0 : Int), (0 : Int), (0 : Int), (0 : Int), (0 : Int), (0 : Int), (0 : Int), (0 : Int), (0 : Int), (0 : Int), (0 : Int), (0 : Int), (0 : Int), (0 : Int), (0 : Int), (0 : Int), (0 : Int), (0 : Int), (0 : Int), (0 : Int), (0 : Int), (0 : Int), (0 : Int), (0 : Int), (0 : Int), (0 : Int), (0 : Int), (0 : Int), (0 : Int), (0 : Int), (1 : Int), (0 : Int), (0 : Int), (0 : Int), (0 : Int), (0 : Int), (0 : Int), (0 : Int), (0 : Int), (0 : Int), (0 : Int), (0 : Int), (0 : Int), (0 : Int), (0 : Int), (0 : Int), (0 : Int), (0 : Int), (0 : Int), (0 : Int), (0 : Int), (0 : Int), (0 : Int), (0 : Int), (0 : Int), (0 : Int), (0 : Int), (0 : Int), (0 : Int), (0 : Int)], List.replicate (30 : Nat) (0 : Int))) fun y0 =>
  some ((y0.1, y0.2))
noncomputable def T338 (N : Nat) : Pk → Tr Pk := tellS s338 w338 (F338 N)
theorem T338_ok (N : Nat) : FOK Tryz.prog (338) (T338 N) :=
  (fn_ok2 ownT mix (tab338_ok N) Tryz.func338 s338 w338 [] (cuts := [(122, C338_122 N N)]) ⟨C338_122_ok N N, trivial⟩ (fun _ => by kernel_rfl) (by decide +kernel) (F338 N) (fun x => by kernel_rfl))
@[reducible] def s355 : SP := ⟨[.ro y0, .ro (.int .i64)], []⟩
noncomputable def tab355 (N : Nat) : List (Nat × (Pk → Tr Pk)) := []
theorem tab355_ok (N : Nat) : TabOK Tryz.prog (tab355 N) := trivial
@[reducible] def L355_26 : LD := ⟨26, [8, 7, 0, 9], [(.ret, [4]), (.exit 0, [])], ⟨[.int .i64, .ro (.int .i64), .ro y0, .int .i64], []⟩, [(.ret, ⟨[.bool], []⟩), (.exit 0, ⟨[], []⟩)]⟩
abbrev P355_26 : Type := Int × (List Int) × (List (Int × (Int × Unit))) × Int
abbrev R355_26 : Type := ((Bool) ⊕ (Unit))
noncomputable def B355_26 (N : Nat) (f : P355_26 → Option R355_26) : P355_26 → Option R355_26
  | (x0, x1, x2, x3) =>
  iteP (decide (x3 < x0)) (
    iteP (within x3 (List.length x1)) (
      Option.bind (x1[Int.toNat x3]?) fun y0 =>
      iteP (decide (y0 > (0 : Int))) (
        iteP (decide (x3 ≥ (↑(List.length x2) : Int))) (
          some (.inl (false))) (
          iteP (within x3 (List.length x2)) (
            Option.bind (x2[Int.toNat x3]?) fun y1 =>
            iteP (y1.2.1 == (0 : Int)) (
              some (.inl (false))) (
              Option.bind (f (x0, x1, x2, IntKind.wrap IntKind.i64 (x3 + (1 : Int)))) fun r => match r with | .inl y => some (.inl y) | .inr y => some (.inr y))) (
            none ))) (
        Option.bind (f (x0, x1, x2, IntKind.wrap IntKind.i64 (x3 + (1 : Int)))) fun r => match r with | .inl y => some (.inl y) | .inr y => some (.inr y))) (
      none )) (
    some (.inr (())))
noncomputable def F355_26 (N : Nat) : Nat → P355_26 → Option R355_26
  | 0, _ => none
  | k + 1, x => B355_26 N (F355_26 N k) x
noncomputable def C355_26 (N : Nat) (k : Nat) : Cut := L355_26.cut (F355_26 N k)
theorem C355_26_ok (N : Nat) (k : Nat) : CutAt Tryz.prog false Tryz.f355 [] 26 (C355_26 N k) :=
  L355_26.loopT ownT mix (tab355_ok N) Tryz.f355 [] (cuts := []) trivial (by decide +kernel) (by kernel_rfl) (B355_26 N) (F355_26 N) (fun _ => rfl) (fun _ _ => rfl) (fun f x => by kernel_rfl) k
@[reducible] def w355 : List SP := [⟨[.bool], []⟩]
noncomputable def F355 (N : Nat) : ((List (Int × (Int × Unit))) × (List Int)) → Option (Bool)
  | (x0, x1) =>
  Option.bind (F355_26 N N ((↑(List.length x1) : Int), x1, x0, (0 : Int))) fun y0 =>
  match y0 with
  | .inl y1 =>
    some (y1)
  | .inr y1 =>
    some (true)
noncomputable def T355 (N : Nat) : Pk → Tr Pk := tellS s355 w355 (F355 N)
theorem T355_ok (N : Nat) : FOK Tryz.prog (355) (T355 N) :=
  (fn_ok2 ownT mix (tab355_ok N) Tryz.func355 s355 w355 [] (cuts := [(26, C355_26 N N)]) ⟨C355_26_ok N N, trivial⟩ (fun _ => by kernel_rfl) (by decide +kernel) (F355 N) (fun x => by kernel_rfl))
@[reducible] def s337 : SP := ⟨[.adr 0 [], .ro (.int .i64), .ro (.int .i64), .ro y3], [.var 221 (.agg [.sl 1, .int .i64, .int .i64]), .row (.int .u8) 5]⟩
noncomputable def tab337 (N : Nat) : List (Nat × (Pk → Tr Pk)) := [(335, T335 N), (354, T354 N), (338, T338 N), (355, T355 N), (222, T222 N), (356, T356 N), (269, T269 N), (357, T357 N)]
theorem tab337_ok (N : Nat) : TabOK Tryz.prog (tab337 N) := ⟨T335_ok N, T354_ok N, T338_ok N, T355_ok N, T222_ok N, T356_ok N, T269_ok N, T357_ok N, trivial⟩
@[reducible] def L337_26 : LD := ⟨26, [23, 3, 0, 2, 1, 22, 24], [(.ret, [8]), (.exit 0, [1, 2, 0, 3])], ⟨[.int .i64, .ro y3, .adr 0 [], .ro (.int .i64), .ro (.int .i64), .ro y3, .int .i64], [.var 221 (.agg [.sl 1, .int .i64, .int .i64]), .row (.int .u8) 5]⟩, [(.ret, ⟨[.int .i64], [.var 221 (.agg [.sl 1, .int .i64, .int .i64]), .row (.int .u8) 5]⟩), (.exit 0, ⟨[.ro (.int .i64), .ro (.int .i64), .adr 0 [], .ro y3], [.var 221 (.agg [.sl 1, .int .i64, .int .i64]), .row (.int .u8) 5]⟩)]⟩
abbrev P337_26 : Type := Int × (List (Int × (Int × (Int × Unit)))) × (List Int) × (List Int) × (List (Int × (Int × (Int × Unit)))) × Int × Int × Int × (List Int)
abbrev R337_26 : Type := ((Int × Int × Int × (List Int)) ⊕ ((List Int) × (List Int) × (List (Int × (Int × (Int × Unit)))) × Int × Int × (List Int)))
noncomputable def B337_26 (N : Nat) (f : P337_26 → Option R337_26) : P337_26 → Option R337_26
  | (x0, x1, x2, x3, x4, x5, x6, x7, x8) =>
  iteP (decide (x5 < x0)) (
    iteP (within x5 (List.length x4)) (
      Option.bind (x4[Int.toNat x5]?) fun y0 =>
      Option.bind (F335 N (y0.1, y0.2.1, y0.2.2.1)) fun y1 =>
      iteP (!y1) (
        some (.inl (((1 : Int), x6, x7, x8)))) (
        Option.bind (f (x0, x1, x2, x3, x4, IntKind.wrap IntKind.i64 (x5 + (1 : Int)), x6, x7, x8)) fun r => match r with | .inl y => some (.inl y) | .inr y => some (.inr y))) (
      none )) (
    some (.inr ((x3, x2, x1, x6, x7, x8))))
noncomputable def F337_26 (N : Nat) : Nat → P337_26 → Option R337_26
  | 0, _ => none
  | k + 1, x => B337_26 N (F337_26 N k) x
noncomputable def C337_26 (N : Nat) (k : Nat) : Cut := L337_26.cut (F337_26 N k)
theorem C337_26_ok (N : Nat) (k : Nat) : CutAt Tryz.prog false Tryz.f337 [0] 26 (C337_26 N k) :=
  L337_26.loopT ownT mix (tab337_ok N) Tryz.f337 [0] (cuts := []) trivial (by decide +kernel) (by kernel_rfl) (B337_26 N) (F337_26 N) (fun _ => rfl) (fun _ _ => rfl) (fun f x => by kernel_rfl) k
@[reducible] def L337_1018 : LD := ⟨1018, [67, 66, 65, 13, 0, 11], [(.ret, [8]), (.exit 2, [0, 11])], ⟨[.int .i64, .int .i64, .ro y3, .sl 1, .adr 0 [], .sl 2], [.var 221 (.agg [.sl 3, .int .i64, .int .i64]), .row y0 248, .row y0 248, .row (.int .u8) 5]⟩, [(.exit 2, ⟨[.adr 0 [], .sl 1], [.var 221 (.agg [.sl 2, .int .i64, .int .i64]), .row y0 248, .row (.int .u8) 5]⟩)]⟩
abbrev P337_1018 : Type := Int × Int × (List (Int × (Int × (Int × Unit)))) × Int × Int × (List (Int × (Int × Unit))) × (List (Int × (Int × Unit))) × (List Int)
abbrev R337_1018 : Type := Int × Int × (List (Int × (Int × Unit))) × (List Int)
noncomputable def B337_1018 (N : Nat) (f : P337_1018 → Option R337_1018) : P337_1018 → Option R337_1018
  | (x0, x1, x2, x3, x4, x5, x6, x7) =>
  iteP (decide (x0 < x1)) (
    iteP (within x0 (List.length x2)) (
      Option.bind (x2[Int.toNat x0]?) fun y0 =>
      iteP (y0.2.1 == (0 : Int)) (
        iteP (within y0.1 (List.length x6)) (
          Option.bind (x6[Int.toNat y0.1]?) fun y1 =>
          Option.bind (F222 N (y1.1, y1.2.1, x3, x4, x7)) fun y2 =>
          Option.bind (f (IntKind.wrap IntKind.i64 (x0 + (1 : Int)), x1, x2, y2.1, y2.2.1, x5, x6, y2.2.2)) fun r => some r) (
          none )) (
        Option.bind (F356 N y0.2.1) fun y3 =>
        iteP (within y3.1 (List.length x6)) (
          Option.bind (x6[Int.toNat y3.1]?) fun y4 =>
          Option.bind (F222 N (y4.1, y4.2.1, x3, x4, x7)) fun y5 =>
          Option.bind (F269 N (y3.2.2, y3.2.1, y5.1, y5.2.1, y5.2.2)) fun y6 =>
          Option.bind (F357 N y0.2.2.1) fun y7 =>
          iteP (within y7.1 (List.length x5)) (
            Option.bind (x5[Int.toNat y7.1]?) fun y8 =>
            Option.bind (F222 N (y8.1, y8.2.1, y6.1, y6.2.1, y6.2.2)) fun y9 =>
            Option.bind (F269 N (y7.2.2, y7.2.1, y9.1, y9.2.1, y9.2.2)) fun y10 =>
            Option.bind (f (IntKind.wrap IntKind.i64 (x0 + (1 : Int)), x1, x2, y10.1, y10.2.1, x5, x6, y10.2.2)) fun r => some r) (
            none )) (
          none ))) (
      none )) (
    some ((x3, x4, x6, x7)))
noncomputable def F337_1018 (N : Nat) : Nat → P337_1018 → Option R337_1018
  | 0, _ => none
  | k + 1, x => B337_1018 N (F337_1018 N k) x
noncomputable def C337_1018 (N : Nat) (k : Nat) : Cut := L337_1018.cut (F337_1018 N k)
theorem C337_1018_ok (N : Nat) (k : Nat) : CutAt Tryz.prog false Tryz.f337 [0] 1018 (C337_1018 N k) :=
  L337_1018.loopT ownT mix (tab337_ok N) Tryz.f337 [0] (cuts := [(26, C337_26 N N)]) ⟨C337_26_ok N N, trivial⟩ (by decide +kernel) (by kernel_rfl) (B337_1018 N) (F337_1018 N) (fun _ => rfl) (fun _ _ => rfl) (fun f x => by kernel_rfl) k
@[reducible] def L337_127 : LD := ⟨127, [3, 13, 0, 11], [(.ret, [8]), (.normal, [8])], ⟨[.ro y3, .sl 1, .adr 0 [], .sl 2], [.var 221 (.agg [.sl 3, .int .i64, .int .i64]), .row y0 248, .row y0 248, .row (.int .u8) 5]⟩, [(.ret, ⟨[.int .i64], [.var 221 (.agg [.sl 1, .int .i64, .int .i64]), .row (.int .u8) 5]⟩)]⟩
noncomputable def F337_127 (N : Nat) : ((List (Int × (Int × (Int × Unit)))) × Int × Int × (List (Int × (Int × Unit))) × (List (Int × (Int × Unit))) × (List Int)) → Option (Int × Int × Int × (List Int))
  | (x0, x1, x2, x3, x4, x5) =>
  Option.bind (F337_1018 N N ((0 : Int), (↑(List.length x0) : Int), x0, x1, x2, x3, x4, x5)) fun y0 =>
  iteP (within (256 : Int) (List.length y0.2.2.1)) (
    Option.bind (y0.2.2.1[(256 : Nat)]?) fun y1 =>
    Option.bind (F222 N (y1.1, y1.2.1, y0.1, y0.2.1, y0.2.2.2)) fun y2 =>
    some (((0 : Int), y2.1, y2.2.1, y2.2.2))) (
    none )
noncomputable def C337_127 (N : Nat) (_ : Nat) : Cut := L337_127.cut (F337_127 N)
theorem C337_127_ok (N : Nat) (k : Nat) : CutAt Tryz.prog false Tryz.f337 [0] 127 (C337_127 N k) :=
  L337_127.pieceT ownT mix (tab337_ok N) Tryz.f337 [0] (cuts := [(26, C337_26 N N), (1018, C337_1018 N N)]) ⟨C337_26_ok N N, C337_1018_ok N N, trivial⟩ (by decide +kernel) (by kernel_rfl) (F337_127 N) (fun x => by kernel_rfl)
@[reducible] def w337 : List SP := [⟨[.int .i64], [.var 221 (.agg [.sl 1, .int .i64, .int .i64]), .row (.int .u8) 5]⟩]
noncomputable def F337 (N : Nat) : ((List Int) × (List Int) × (List (Int × (Int × (Int × Unit)))) × Int × Int × (List Int)) → Option (Int × Int × Int × (List Int))
  | (x0, x1, x2, x3, x4, x5) =>
  Option.bind (F337_26 N N ((↑(List.length x2) : Int), x2, x1, x0, x2, (0 : Int), x3, x4, x5)) fun y0 =>
  match y0 with
  | .inl y1 =>
    some ((y1.1, y1.2.1, y1.2.2.1, y1.2.2.2))
  | .inr (y1_0, y1_1, y1_2, y1_3, y1_4, y1_5) =>
    Option.bind (F354 N y1_0) fun y2 =>
    Option.bind (F354 N y1_1) fun y3 =>
    Option.bind (F338 N y1_2) fun y4 =>
    iteP (y2.1 != (0 : Int)) (
      some (((50 : Int), y1_3, y1_4, y1_5))) (
      iteP (y3.1 != (0 : Int)) (
        some (((50 : Int), y1_3, y1_4, y1_5))) (
        Option.bind (F355 N (y2.2, y4.1)) fun y5 =>
        iteP (!y5) (
          some (((50 : Int), y1_3, y1_4, y1_5))) (
          Option.bind (F355 N (y3.2, y4.2)) fun y6 =>
          iteP (!y6) (
            some (((50 : Int), y1_3, y1_4, y1_5))) (
            Option.bind (F337_127 N (y1_2, y1_3, y1_4, y3.2, y2.2, y1_5)) fun y7 =>
            some ((y7.1, y7.2.1, y7.2.2.1, y7.2.2.2))))))
noncomputable def T337 (N : Nat) : Pk → Tr Pk := tellS s337 w337 (F337 N)
theorem T337_ok (N : Nat) : FOK Tryz.prog (337) (T337 N) :=
  (fn_ok2 ownT mix (tab337_ok N) Tryz.func337 s337 w337 [0] (cuts := [(26, C337_26 N N), (1018, C337_1018 N N), (127, C337_127 N N)]) ⟨C337_26_ok N N, C337_1018_ok N N, C337_127_ok N N, trivial⟩ (fun _ => by kernel_rfl) (by decide +kernel) (F337 N) (fun x => by kernel_rfl))
@[reducible] def y4 : Ty := (.cons (.int .i64) (.cons (.sl (.int .i64)) .unit))
@[reducible] def y5 : Ty := (.sl (.cons (.int .i64) (.cons (.sl (.int .i64)) .unit)))
@[reducible] def s388 : SP := ⟨[.nilsl, .int .i64], []⟩
noncomputable def tab388 (N : Nat) : List (Nat × (Pk → Tr Pk)) := []
theorem tab388_ok (N : Nat) : TabOK Tryz.prog (tab388 N) := trivial
@[reducible] def w388 : List SP := [⟨[.slp 0 (.c 0) (.c 0)], [.row y4 391]⟩, ⟨[.sl 0], [.row y4 391]⟩]
noncomputable def F388 (N : Nat) : (Int) → Option ((((List (Int × ((List Int) × Unit)))) ⊕ ((List (Int × ((List Int) × Unit))))))
  | x0 =>
  iteP (decide (x0 < (0 : Int))) (
    none ) (
    iteP (decide (IntKind.wrap IntKind.i64 (x0 - (0 : Int)) > (0 : Int))) (
      iteP (decide ((0 : Int) < IntKind.wrap IntKind.i64 (x0 - (0 : Int)) ∧ IntKind.wrap IntKind.i64 (x0 - (0 : Int)) * (32 : Int) ≤ (140737488355328 : Int) ∧ IntKind.wrap IntKind.i64 (x0 - (0 : Int)) ≤ (140737488355328 : Int))) (
        iteP (decide ((0 : Int) ≤ (0 : Int) ∧ (0 : Int) ≤ (↑(List.length (List.replicate (Int.toNat (IntKind.wrap IntKind.i64 (x0 - (0 : Int)))) ((0 : Int), nilT (Ty.den (Ty.int IntKind.i64)), ()))) : Int))) (
          some (.inl (List.replicate (Int.toNat (IntKind.wrap IntKind.i64 (x0 - (0 : Int)))) ((0 : Int), nilT (Ty.den (Ty.int IntKind.i64)), ())))) (
          none )) (
        none )) (
      some (.inr ([]))))
noncomputable def T388 (N : Nat) : Pk → Tr Pk := postT (trimP (Ty.cons (Ty.int IntKind.i64) (Ty.cons (Ty.sl (Ty.int IntKind.i64)) (Ty.unit))) 391) (tellS s388 w388 (F388 N))
theorem T388_ok (N : Nat) : FOK Tryz.prog (388) (T388 N) :=
  postT_ok (trimP_ok _ _) (fn_ok2 ownT mix (tab388_ok N) Tryz.func388 s388 w388 [] (cuts := []) trivial (fun _ => by kernel_rfl) (by decide +kernel) (F388 N) (fun x => by kernel_rfl)) (by decide +kernel)
@[reducible] def s383 : SP := ⟨[.sl 0], [.row y5 387]⟩
noncomputable def tab383 (N : Nat) : List (Nat × (Pk → Tr Pk)) := [(388, T388 N)]
theorem tab383_ok (N : Nat) : TabOK Tryz.prog (tab383 N) := ⟨T388_ok N, trivial⟩
@[reducible] def L383_58 : LD := ⟨58, [3, 11, 10, 0, 9], [(.ret, [2]), (.exit 0, [3, 0])], ⟨[.int .i64, .int .i64, .int .i64, .sl 0, .sl 0], [.row y5 387]⟩, [(.exit 0, ⟨[.int .i64, .sl 0], [.row y5 387]⟩)]⟩
abbrev P383_58 : Type := Int × Int × Int × (List (List (Int × ((List Int) × Unit))))
abbrev R383_58 : Type := Int × (List (List (Int × ((List Int) × Unit))))
noncomputable def B383_58 (N : Nat) (f : P383_58 → Option R383_58) : P383_58 → Option R383_58
  | (x0, x1, x2, x3) =>
  iteP (decide (x1 < x2)) (
    iteP (within x1 (List.length x3)) (
      Option.bind (x3[Int.toNat x1]?) fun y0 =>
      iteP (decide (IntKind.wrap IntKind.i64 (x0 + (↑(List.length y0) : Int)) < (0 : Int))) (
        none ) (
        Option.bind (f (IntKind.wrap IntKind.i64 (x0 + (↑(List.length y0) : Int)), IntKind.wrap IntKind.i64 (x1 + (1 : Int)), x2, x3)) fun r => some r)) (
      none )) (
    some ((x0, x3)))
noncomputable def F383_58 (N : Nat) : Nat → P383_58 → Option R383_58
  | 0, _ => none
  | k + 1, x => B383_58 N (F383_58 N k) x
noncomputable def C383_58 (N : Nat) (k : Nat) : Cut := L383_58.cut (F383_58 N k)
theorem C383_58_ok (N : Nat) (k : Nat) : CutAt Tryz.prog false Tryz.f383 [] 58 (C383_58 N k) :=
  L383_58.loopT ownT mix (tab383_ok N) Tryz.f383 [] (cuts := []) trivial (by decide +kernel) (by kernel_rfl) (B383_58 N) (F383_58 N) (fun _ => rfl) (fun _ _ => rfl) (fun f x => by kernel_rfl) k
@[reducible] def L383_250 : LD := ⟨250, [6, 27, 26, 25], [(.ret, [2]), (.exit 2, [6])], ⟨[.sl 0, .int .i64, .int .i64, .sl 1], [.row y4 391, .row y5 387]⟩, [(.exit 2, ⟨[.sl 0], [.row y4 391]⟩)]⟩
abbrev P383_250 : Type := Int × Int × (List (Int × ((List Int) × Unit))) × (List (List (Int × ((List Int) × Unit))))
abbrev R383_250 : Type := (List (Int × ((List Int) × Unit)))
noncomputable def B383_250 (N : Nat) (f : P383_250 → Option R383_250) : P383_250 → Option R383_250
  | (x0, x1, x2, x3) =>
  iteP (decide (x0 < x1)) (
    iteP (within x0 (List.length x3)) (
      Option.bind (x3[Int.toNat x0]?) fun y0 =>
      iteP (decide ((List.length x2 + List.length y0) * (32 : Nat) ≤ (140737488355328 : Nat) ∧ List.length x2 + List.length y0 ≤ (140737488355328 : Nat))) (
        Option.bind (f (IntKind.wrap IntKind.i64 (x0 + (1 : Int)), x1, x2 ++ y0, x3)) fun r => some r) (
        none )) (
      none )) (
    some (x2))
noncomputable def F383_250 (N : Nat) : Nat → P383_250 → Option R383_250
  | 0, _ => none
  | k + 1, x => B383_250 N (F383_250 N k) x
noncomputable def C383_250 (N : Nat) (k : Nat) : Cut := L383_250.cut (F383_250 N k)
theorem C383_250_ok (N : Nat) (k : Nat) : CutAt Tryz.prog false Tryz.f383 [] 250 (C383_250 N k) :=
  L383_250.loopT ownT mix (tab383_ok N) Tryz.f383 [] (cuts := [(58, C383_58 N N)]) ⟨C383_58_ok N N, trivial⟩ (by decide +kernel) (by kernel_rfl) (B383_250 N) (F383_250 N) (fun _ => rfl) (fun _ _ => rfl) (fun f x => by kernel_rfl) k
@[reducible] def w383 : List SP := [⟨[.sl 0], [.row y4 391]⟩]
noncomputable def F383 (N : Nat) : ((List (List (Int × ((List Int) × Unit))))) → Option ((List (Int × ((List Int) × Unit))))
  | x0 =>
  Option.bind (F383_58 N N ((0 : Int), (0 : Int), (↑(List.length x0) : Int), x0)) fun y0 =>
  Option.bind (F388 N y0.1) fun y1 =>
  match y1 with
  | .inl y2 =>
    Option.bind (F383_250 N N ((0 : Int), (↑(List.length y0.2) : Int), [], y0.2)) fun y3 =>
    some (y3)
  | .inr y2 =>
    Option.bind (F383_250 N N ((0 : Int), (↑(List.length y0.2) : Int), y2, y0.2)) fun y4 =>
    some (y4)
noncomputable def T383 (N : Nat) : Pk → Tr Pk := tellS s383 w383 (F383 N)
theorem T383_ok (N : Nat) : FOK Tryz.prog (383) (T383 N) :=
  (fn_ok2 ownT mix (tab383_ok N) Tryz.func383 s383 w383 [] (cuts := [(58, C383_58 N N), (250, C383_250 N N)]) ⟨C383_58_ok N N, C383_250_ok N N, trivial⟩ (fun _ => by kernel_rfl) (by decide +kernel) (F383 N) (fun x => by kernel_rfl))
@[reducible] def s390 : SP := ⟨[.int .i64], []⟩
noncomputable def tab390 (N : Nat) : List (Nat × (Pk → Tr Pk)) := []
theorem tab390_ok (N : Nat) : TabOK Tryz.prog (tab390 N) := trivial
@[reducible] def w390 : List SP := [⟨[.bool], []⟩]
noncomputable def F390 (N : Nat) : (Int) → Option (Bool)
  | x0 =>
  some (x0 != x0)
noncomputable def T390 (N : Nat) : Pk → Tr Pk := tellS s390 w390 (F390 N)
theorem T390_ok (N : Nat) : FOK Tryz.prog (390) (T390 N) :=
  (fn_ok2 ownT mix (tab390_ok N) Tryz.func390 s390 w390 [] (cuts := []) trivial (fun _ => by kernel_rfl) (by decide +kernel) (F390 N) (fun x => by kernel_rfl))
@[reducible] def s386 : SP := ⟨[.int .i64, .int .i64], []⟩
noncomputable def tab386 (N : Nat) : List (Nat × (Pk → Tr Pk)) := [(390, T390 N)]
theorem tab386_ok (N : Nat) : TabOK Tryz.prog (tab386 N) := ⟨T390_ok N, trivial⟩
@[reducible] def w386 : List SP := [⟨[.int .i64], []⟩]
noncomputable def F386 (N : Nat) : (Int × Int) → Option (Int)
  | (x0, x1) =>
  Option.bind (F390 N x0) fun y0 =>
  Option.bind (F390 N x1) fun y1 =>
  iteP (y0) (
    iteP (y1) (
      some ((0 : Int))) (
      some ((-1 : Int)))) (
    iteP (y1) (
      some ((1 : Int))) (
      iteP (decide (x0 < x1)) (
        some ((-1 : Int))) (
        iteP (decide (x0 > x1)) (
          some ((1 : Int))) (
          some ((0 : Int))))))
noncomputable def T386 (N : Nat) : Pk → Tr Pk := tellS s386 w386 (F386 N)
theorem T386_ok (N : Nat) : FOK Tryz.prog (386) (T386 N) :=
  (fn_ok2 ownT mix (tab386_ok N) Tryz.func386 s386 w386 [] (cuts := []) trivial (fun _ => by kernel_rfl) (by decide +kernel) (F386 N) (fun x => by kernel_rfl))
@[reducible] def s385 : SP := ⟨[.agg [.int .i64, .ro (.int .i64)], .agg [.int .i64, .ro (.int .i64)]], []⟩
noncomputable def tab385 (N : Nat) : List (Nat × (Pk → Tr Pk)) := [(386, T386 N)]
theorem tab385_ok (N : Nat) : TabOK Tryz.prog (tab385 N) := ⟨T386_ok N, trivial⟩
@[reducible] def w385 : List SP := [⟨[.int .i64], []⟩]
noncomputable def F385 (N : Nat) : (Int × (List Int) × Int × (List Int)) → Option (Int)
  | (x0, x1, x2, x3) =>
  Option.bind (F386 N (x0, x2)) fun y0 =>
  some (y0)
noncomputable def T385 (N : Nat) : Pk → Tr Pk := tellS s385 w385 (F385 N)
theorem T385_ok (N : Nat) : FOK Tryz.prog (385) (T385 N) :=
  (fn_ok2 ownT mix (tab385_ok N) Tryz.func385 s385 w385 [] (cuts := []) trivial (fun _ => by kernel_rfl) (by decide +kernel) (F385 N) (fun x => by kernel_rfl))
@[reducible] def s391 : SP := ⟨[.slp 0 .h .h, .int .i64, .int .i64, .fn 385], [.row y4 391]⟩
noncomputable def tab391 (N : Nat) : List (Nat × (Pk → Tr Pk)) := [(385, T385 N)]
theorem tab391_ok (N : Nat) : TabOK Tryz.prog (tab391 N) := ⟨T385_ok N, trivial⟩
@[reducible] def L391_402 : LD := ⟨402, [9, 3, 1, 2, 8, 0], [(.exit 2, [8, 2, 1, 3, 0]), (.exit 1, [8, 2, 1, 3, 0])], ⟨[.int .i64, .fn 385, .int .i64, .int .i64, .int .i64, .slp 0 .h .h], [.row y4 391]⟩, [(.exit 2, ⟨[.int .i64, .int .i64, .int .i64, .fn 385, .slp 0 .h .h], [.row y4 391]⟩)]⟩
abbrev P391_402 : Type := Int × Int × Int × Int × Nat × Nat × (List (Int × ((List Int) × Unit)))
abbrev R391_402 : Type := Int × Int × Int × Nat × Nat × (List (Int × ((List Int) × Unit)))
noncomputable def B391_402 (N : Nat) (f : P391_402 → Option R391_402) : P391_402 → Option R391_402
  | (x0, x1, x2, x3, x4, x5, x6) =>
  iteP (decide (x0 > x1)) (
    iteP (within x0 x5) (
      Option.bind (x6[x4 + Int.toNat x0]?) fun y0 =>
      iteP (within (IntKind.wrap IntKind.i64 (x0 - (1 : Int))) x5) (
        Option.bind (x6[x4 + Int.toNat (IntKind.wrap IntKind.i64 (x0 - (1 : Int)))]?) fun y1 =>
        Option.bind (F385 N (y0.1, y0.2.1, y1.1, y1.2.1)) fun y2 =>
        iteP (decide (y2 < (0 : Int))) (
          iteP (within (IntKind.wrap IntKind.i64 (x0 - (1 : Int))) x5) (
            Option.bind (x6[x4 + Int.toNat (IntKind.wrap IntKind.i64 (x0 - (1 : Int)))]?) fun y3 =>
            iteP (within x0 x5) (
              Option.bind (x6[x4 + Int.toNat x0]?) fun y4 =>
              iteP (within x0 x5) (
                Option.bind (x6[x4 + Int.toNat x0]?) fun y5 =>
                iteP (within (IntKind.wrap IntKind.i64 (x0 - (1 : Int))) x5) (
                  Option.bind ((List.set x6 (x4 + Int.toNat x0) (y3.1, y3.2.1, ()))[x4 + Int.toNat (IntKind.wrap IntKind.i64 (x0 - (1 : Int)))]?) fun y6 =>
                  Option.bind (f (IntKind.wrap IntKind.i64 (x0 - (1 : Int)), x1, x2, x3, x4, x5, List.set (List.set x6 (x4 + Int.toNat x0) (y3.1, y3.2.1, ())) (x4 + Int.toNat (IntKind.wrap IntKind.i64 (x0 - (1 : Int)))) (y4.1, y4.2.1, ()))) fun r => some r) (
                  none )) (
                none )) (
              none )) (
            none )) (
          some ((x3, x2, x1, x4, x5, x6)))) (
        none )) (
      none )) (
    some ((x3, x2, x1, x4, x5, x6)))
noncomputable def F391_402 (N : Nat) : Nat → P391_402 → Option R391_402
  | 0, _ => none
  | k + 1, x => B391_402 N (F391_402 N k) x
noncomputable def C391_402 (N : Nat) (k : Nat) : Cut := L391_402.cut (F391_402 N k)
theorem C391_402_ok (N : Nat) (k : Nat) : CutAt Tryz.prog false Tryz.f391 [0] 402 (C391_402 N k) :=
  L391_402.loopT ownT mix (tab391_ok N) Tryz.f391 [0] (cuts := []) trivial (by decide +kernel) (by kernel_rfl) (B391_402 N) (F391_402 N) (fun _ => rfl) (fun _ _ => rfl) (fun f x => by kernel_rfl) k
@[reducible] def L391_6 : LD := ⟨6, [2, 1, 3, 8, 0], [(.exit 0, [])], ⟨[.int .i64, .int .i64, .fn 385, .int .i64, .slp 0 .h .h], [.row y4 391]⟩, [(.exit 0, ⟨[], [.row y4 391]⟩)]⟩
abbrev P391_6 : Type := Int × Int × Int × Nat × Nat × (List (Int × ((List Int) × Unit)))
abbrev R391_6 : Type := (List (Int × ((List Int) × Unit)))
noncomputable def B391_6 (N : Nat) (f : P391_6 → Option R391_6) : P391_6 → Option R391_6
  | (x0, x1, x2, x3, x4, x5) =>
  iteP (decide (x2 < x0)) (
    Option.bind (F391_402 N N (x2, x1, x0, x2, x3, x4, x5)) fun (y0_0, y0_1, y0_2, y0_3, y0_4, y0_5) =>
    Option.bind (f (y0_1, y0_2, IntKind.wrap IntKind.i64 (y0_0 + (1 : Int)), y0_3, y0_4, y0_5)) fun r => some r) (
    some (x5))
noncomputable def F391_6 (N : Nat) : Nat → P391_6 → Option R391_6
  | 0, _ => none
  | k + 1, x => B391_6 N (F391_6 N k) x
noncomputable def C391_6 (N : Nat) (k : Nat) : Cut := L391_6.cut (F391_6 N k)
theorem C391_6_ok (N : Nat) (k : Nat) : CutAt Tryz.prog false Tryz.f391 [0] 6 (C391_6 N k) :=
  L391_6.loopT ownT mix (tab391_ok N) Tryz.f391 [0] (cuts := [(402, C391_402 N N)]) ⟨C391_402_ok N N, trivial⟩ (by decide +kernel) (by kernel_rfl) (B391_6 N) (F391_6 N) (fun _ => rfl) (fun _ _ => rfl) (fun f x => by kernel_rfl) k
@[reducible] def w391 : List SP := [⟨[.tup []], [.row y4 391]⟩]
noncomputable def F391 (N : Nat) : (Nat × Nat × Int × Int × (List (Int × ((List Int) × Unit)))) → Option ((List (Int × ((List Int) × Unit))))
  | (x0, x1, x2, x3, x4) =>
  Option.bind (F391_6 N N (x3, x2, IntKind.wrap IntKind.i64 (x2 + (1 : Int)), x0, x1, x4)) fun y0 =>
  some (y0)
noncomputable def T391 (N : Nat) : Pk → Tr Pk := tellS s391 w391 (F391 N)
theorem T391_ok (N : Nat) : FOK Tryz.prog (391) (T391 N) :=
  (fn_ok2 ownT mix (tab391_ok N) Tryz.func391 s391 w391 [0] (cuts := [(402, C391_402 N N), (6, C391_6 N N)]) ⟨C391_402_ok N N, C391_6_ok N N, trivial⟩ (fun _ => by kernel_rfl) (by decide +kernel) (F391 N) (fun x => by kernel_rfl))
@[reducible] def s394 : SP := ⟨[.slp 0 .h .h, .int .i64, .int .i64, .int .i64, .fn 385], [.row y4 391]⟩
noncomputable def tab394 (N : Nat) : List (Nat × (Pk → Tr Pk)) := []
theorem tab394_ok (N : Nat) : TabOK Tryz.prog (tab394 N) := trivial
@[reducible] def L394_6 : LD := ⟨6, [10, 3, 2, 0, 1], [(.exit 0, [])], ⟨[.int .i64, .int .i64, .int .i64, .slp 0 .h .h, .int .i64], [.row y4 391]⟩, [(.exit 0, ⟨[], [.row y4 391]⟩)]⟩
abbrev P394_6 : Type := Int × Int × Int × Nat × Nat × Int × (List (Int × ((List Int) × Unit)))
abbrev R394_6 : Type := (List (Int × ((List Int) × Unit)))
noncomputable def B394_6 (N : Nat) (f : P394_6 → Option R394_6) : P394_6 → Option R394_6
  | (x0, x1, x2, x3, x4, x5, x6) =>
  iteP (decide (x0 < x1)) (
    iteP (within (IntKind.wrap IntKind.i64 (x2 + x0)) x4) (
      Option.bind (x6[x3 + Int.toNat (IntKind.wrap IntKind.i64 (x2 + x0))]?) fun y0 =>
      iteP (within (IntKind.wrap IntKind.i64 (x5 + x0)) x4) (
        Option.bind (x6[x3 + Int.toNat (IntKind.wrap IntKind.i64 (x5 + x0))]?) fun y1 =>
        iteP (within (IntKind.wrap IntKind.i64 (x5 + x0)) x4) (
          Option.bind (x6[x3 + Int.toNat (IntKind.wrap IntKind.i64 (x5 + x0))]?) fun y2 =>
          iteP (within (IntKind.wrap IntKind.i64 (x2 + x0)) x4) (
            Option.bind ((List.set x6 (x3 + Int.toNat (IntKind.wrap IntKind.i64 (x5 + x0))) (y0.1, y0.2.1, ()))[x3 + Int.toNat (IntKind.wrap IntKind.i64 (x2 + x0))]?) fun y3 =>
            Option.bind (f (IntKind.wrap IntKind.i64 (x0 + (1 : Int)), x1, x2, x3, x4, x5, List.set (List.set x6 (x3 + Int.toNat (IntKind.wrap IntKind.i64 (x5 + x0))) (y0.1, y0.2.1, ())) (x3 + Int.toNat (IntKind.wrap IntKind.i64 (x2 + x0))) (y1.1, y1.2.1, ()))) fun r => some r) (
            none )) (
          none )) (
        none )) (
      none )) (
    some (x6))
noncomputable def F394_6 (N : Nat) : Nat → P394_6 → Option R394_6
  | 0, _ => none
  | k + 1, x => B394_6 N (F394_6 N k) x
noncomputable def C394_6 (N : Nat) (k : Nat) : Cut := L394_6.cut (F394_6 N k)
theorem C394_6_ok (N : Nat) (k : Nat) : CutAt Tryz.prog false Tryz.f394 [0] 6 (C394_6 N k) :=
  L394_6.loopT ownT mix (tab394_ok N) Tryz.f394 [0] (cuts := []) trivial (by decide +kernel) (by kernel_rfl) (B394_6 N) (F394_6 N) (fun _ => rfl) (fun _ _ => rfl) (fun f x => by kernel_rfl) k
@[reducible] def w394 : List SP := [⟨[.tup []], [.row y4 391]⟩]
noncomputable def F394 (N : Nat) : (Nat × Nat × Int × Int × Int × (List (Int × ((List Int) × Unit)))) → Option ((List (Int × ((List Int) × Unit))))
  | (x0, x1, x2, x3, x4, x5) =>
  Option.bind (F394_6 N N ((0 : Int), x4, x3, x0, x1, x2, x5)) fun y0 =>
  some (y0)
noncomputable def T394 (N : Nat) : Pk → Tr Pk := tellS s394 w394 (F394 N)
theorem T394_ok (N : Nat) : FOK Tryz.prog (394) (T394 N) :=
  (fn_ok2 ownT mix (tab394_ok N) Tryz.func394 s394 w394 [0] (cuts := [(6, C394_6 N N)]) ⟨C394_6_ok N N, trivial⟩ (fun _ => by kernel_rfl) (by decide +kernel) (F394 N) (fun x => by kernel_rfl))
@[reducible] def s393 : SP := ⟨[.slp 0 .h .h, .int .i64, .int .i64, .int .i64, .fn 385], [.row y4 391]⟩
noncomputable def tab393 (N : Nat) : List (Nat × (Pk → Tr Pk)) := [(394, T394 N)]
theorem tab393_ok (N : Nat) : TabOK Tryz.prog (tab393 N) := ⟨T394_ok N, trivial⟩
@[reducible] def L393_28 : LD := ⟨28, [10, 0, 2, 4, 11], [(.exit 0, [0, 2, 10, 4])], ⟨[.int .i64, .slp 0 .h .h, .int .i64, .fn 385, .int .i64], [.row y4 391]⟩, [(.exit 0, ⟨[.slp 0 .h .h, .int .i64, .int .i64, .fn 385], [.row y4 391]⟩)]⟩
abbrev P393_28 : Type := Int × Nat × Nat × Int × Int × (List (Int × ((List Int) × Unit)))
abbrev R393_28 : Type := Nat × Nat × Int × Int × (List (Int × ((List Int) × Unit)))
noncomputable def B393_28 (N : Nat) (f : P393_28 → Option R393_28) : P393_28 → Option R393_28
  | (x0, x1, x2, x3, x4, x5) =>
  iteP (x0 != x4) (
    iteP (decide (x0 > x4)) (
      Option.bind (F394 N (x1, x2, IntKind.wrap IntKind.i64 (x3 - x0), x3, x4, x5)) fun y0 =>
      Option.bind (f (IntKind.wrap IntKind.i64 (x0 - x4), x1, x2, x3, x4, y0)) fun r => some r) (
      Option.bind (F394 N (x1, x2, IntKind.wrap IntKind.i64 (x3 - x0), IntKind.wrap IntKind.i64 (IntKind.wrap IntKind.i64 (x3 + x4) - x0), x0, x5)) fun y1 =>
      Option.bind (f (x0, x1, x2, x3, IntKind.wrap IntKind.i64 (x4 - x0), y1)) fun r => some r)) (
    some ((x1, x2, x3, x0, x5)))
noncomputable def F393_28 (N : Nat) : Nat → P393_28 → Option R393_28
  | 0, _ => none
  | k + 1, x => B393_28 N (F393_28 N k) x
noncomputable def C393_28 (N : Nat) (k : Nat) : Cut := L393_28.cut (F393_28 N k)
theorem C393_28_ok (N : Nat) (k : Nat) : CutAt Tryz.prog false Tryz.f393 [0] 28 (C393_28 N k) :=
  L393_28.loopT ownT mix (tab393_ok N) Tryz.f393 [0] (cuts := []) trivial (by decide +kernel) (by kernel_rfl) (B393_28 N) (F393_28 N) (fun _ => rfl) (fun _ _ => rfl) (fun f x => by kernel_rfl) k
@[reducible] def w393 : List SP := [⟨[.tup []], [.row y4 391]⟩]
noncomputable def F393 (N : Nat) : (Nat × Nat × Int × Int × Int × (List (Int × ((List Int) × Unit)))) → Option ((List (Int × ((List Int) × Unit))))
  | (x0, x1, x2, x3, x4, x5) =>
  Option.bind (F393_28 N N (IntKind.wrap IntKind.i64 (x3 - x2), x0, x1, x3, IntKind.wrap IntKind.i64 (x4 - x3), x5)) fun y0 =>
  Option.bind (F394 N (y0.1, y0.2.1, IntKind.wrap IntKind.i64 (y0.2.2.1 - y0.2.2.2.1), y0.2.2.1, y0.2.2.2.1, y0.2.2.2.2)) fun y1 =>
  some (y1)
noncomputable def T393 (N : Nat) : Pk → Tr Pk := tellS s393 w393 (F393 N)
theorem T393_ok (N : Nat) : FOK Tryz.prog (393) (T393 N) :=
  (fn_ok2 ownT mix (tab393_ok N) Tryz.func393 s393 w393 [0] (cuts := [(28, C393_28 N N)]) ⟨C393_28_ok N N, trivial⟩ (fun _ => by kernel_rfl) (by decide +kernel) (F393 N) (fun x => by kernel_rfl))
@[reducible] def s392 : SP := ⟨[.slp 0 .h .h, .int .i64, .int .i64, .int .i64, .fn 385], [.row y4 391]⟩
@[reducible] def w392 : List SP := [⟨[.tup []], [.row (.cons (.int .i64) (.cons (.sl (.int .i64)) .unit)) 391]⟩]
noncomputable def tab392 (N : Nat) (G : (Nat × Nat × Int × Int × Int × (List (Int × ((List Int) × Unit)))) → Option ((List (Int × ((List Int) × Unit))))) : List (Nat × (Pk → Tr Pk)) := [(392, tellS s392 w392 G), (385, T385 N), (393, T393 N)]
theorem tab392_ok (N : Nat) (G : (Nat × Nat × Int × Int × Int × (List (Int × ((List Int) × Unit)))) → Option ((List (Int × ((List Int) × Unit))))) (hG : FOK Tryz.prog 392 (tellS s392 w392 G)) : TabOK Tryz.prog (tab392 N G) := ⟨hG, T385_ok N, T393_ok N, trivial⟩
@[reducible] def L392_172 : LD := ⟨172, [10, 11, 4, 0, 1], [(.exit 0, [1, 10, 0])], ⟨[.int .i64, .int .i64, .fn 385, .slp 0 .h .h, .int .i64], [.row y4 391]⟩, [(.exit 0, ⟨[.int .i64, .int .i64, .slp 0 .h .h], [.row y4 391]⟩)]⟩
abbrev P392_172 : Type := Int × Int × Nat × Nat × Int × (List (Int × ((List Int) × Unit)))
abbrev R392_172 : Type := Int × Int × Nat × Nat × (List (Int × ((List Int) × Unit)))
noncomputable def B392_172 (N : Nat) (G : (Nat × Nat × Int × Int × Int × (List (Int × ((List Int) × Unit)))) → Option ((List (Int × ((List Int) × Unit))))) (f : P392_172 → Option R392_172) : P392_172 → Option R392_172
  | (x0, x1, x2, x3, x4, x5) =>
  iteP (decide (x0 < x1)) (
    iteP (within (IntKind.wrap IntKind.i64 (Int.fdiv (IntKind.wrap IntKind.u64 (IntKind.wrap IntKind.i64 (x0 + x1))) (2 : Int))) x3) (
      Option.bind (x5[x2 + Int.toNat (IntKind.wrap IntKind.i64 (Int.fdiv (IntKind.wrap IntKind.u64 (IntKind.wrap IntKind.i64 (x0 + x1))) (2 : Int)))]?) fun y0 =>
      iteP (within x4 x3) (
        Option.bind (x5[x2 + Int.toNat x4]?) fun y1 =>
        Option.bind (F385 N (y0.1, y0.2.1, y1.1, y1.2.1)) fun y2 =>
        iteP (decide (y2 < (0 : Int))) (
          Option.bind (f (IntKind.wrap IntKind.i64 (IntKind.wrap IntKind.i64 (Int.fdiv (IntKind.wrap IntKind.u64 (IntKind.wrap IntKind.i64 (x0 + x1))) (2 : Int)) + (1 : Int)), x1, x2, x3, x4, x5)) fun r => some r) (
          Option.bind (f (x0, IntKind.wrap IntKind.i64 (Int.fdiv (IntKind.wrap IntKind.u64 (IntKind.wrap IntKind.i64 (x0 + x1))) (2 : Int)), x2, x3, x4, x5)) fun r => some r)) (
        none )) (
      none )) (
    some ((x4, x0, x2, x3, x5)))
noncomputable def F392_172 (N : Nat) (G : (Nat × Nat × Int × Int × Int × (List (Int × ((List Int) × Unit)))) → Option ((List (Int × ((List Int) × Unit))))) : Nat → P392_172 → Option R392_172
  | 0, _ => none
  | k + 1, x => B392_172 N G (F392_172 N G k) x
noncomputable def C392_172 (N : Nat) (G : (Nat × Nat × Int × Int × Int × (List (Int × ((List Int) × Unit)))) → Option ((List (Int × ((List Int) × Unit))))) (k : Nat) : Cut := L392_172.cut (F392_172 N G k)
theorem C392_172_ok (N : Nat) (G : (Nat × Nat × Int × Int × Int × (List (Int × ((List Int) × Unit)))) → Option ((List (Int × ((List Int) × Unit))))) (hG : FOK Tryz.prog 392 (tellS s392 w392 G)) (k : Nat) : CutAt Tryz.prog false Tryz.f392 [0] 172 (C392_172 N G k) :=
  L392_172.loopT ownT mix (tab392_ok N G hG) Tryz.f392 [0] (cuts := []) trivial (by decide +kernel) (by kernel_rfl) (B392_172 N G) (F392_172 N G) (fun _ => rfl) (fun _ _ => rfl) (fun f x => by kernel_rfl) k
@[reducible] def L392_698 : LD := ⟨698, [13, 10, 0], [(.exit 2, [])], ⟨[.int .i64, .int .i64, .slp 0 .h .h], [.row y4 391]⟩, [(.exit 2, ⟨[], [.row y4 391]⟩)]⟩
abbrev P392_698 : Type := Int × Int × Nat × Nat × (List (Int × ((List Int) × Unit)))
abbrev R392_698 : Type := (List (Int × ((List Int) × Unit)))
noncomputable def B392_698 (N : Nat) (G : (Nat × Nat × Int × Int × Int × (List (Int × ((List Int) × Unit)))) → Option ((List (Int × ((List Int) × Unit))))) (f : P392_698 → Option R392_698) : P392_698 → Option R392_698
  | (x0, x1, x2, x3, x4) =>
  iteP (decide (x0 < IntKind.wrap IntKind.i64 (x1 - (1 : Int)))) (
    iteP (within (IntKind.wrap IntKind.i64 (x0 + (1 : Int))) x3) (
      Option.bind (x4[x2 + Int.toNat (IntKind.wrap IntKind.i64 (x0 + (1 : Int)))]?) fun y0 =>
      iteP (within x0 x3) (
        Option.bind (x4[x2 + Int.toNat x0]?) fun y1 =>
        iteP (within x0 x3) (
          Option.bind (x4[x2 + Int.toNat x0]?) fun y2 =>
          iteP (within (IntKind.wrap IntKind.i64 (x0 + (1 : Int))) x3) (
            Option.bind ((List.set x4 (x2 + Int.toNat x0) (y0.1, y0.2.1, ()))[x2 + Int.toNat (IntKind.wrap IntKind.i64 (x0 + (1 : Int)))]?) fun y3 =>
            Option.bind (f (IntKind.wrap IntKind.i64 (x0 + (1 : Int)), x1, x2, x3, List.set (List.set x4 (x2 + Int.toNat x0) (y0.1, y0.2.1, ())) (x2 + Int.toNat (IntKind.wrap IntKind.i64 (x0 + (1 : Int)))) (y1.1, y1.2.1, ()))) fun r => some r) (
            none )) (
          none )) (
        none )) (
      none )) (
    some (x4))
noncomputable def F392_698 (N : Nat) (G : (Nat × Nat × Int × Int × Int × (List (Int × ((List Int) × Unit)))) → Option ((List (Int × ((List Int) × Unit))))) : Nat → P392_698 → Option R392_698
  | 0, _ => none
  | k + 1, x => B392_698 N G (F392_698 N G k) x
noncomputable def C392_698 (N : Nat) (G : (Nat × Nat × Int × Int × Int × (List (Int × ((List Int) × Unit)))) → Option ((List (Int × ((List Int) × Unit))))) (k : Nat) : Cut := L392_698.cut (F392_698 N G k)
theorem C392_698_ok (N : Nat) (G : (Nat × Nat × Int × Int × Int × (List (Int × ((List Int) × Unit)))) → Option ((List (Int × ((List Int) × Unit))))) (hG : FOK Tryz.prog 392 (tellS s392 w392 G)) (k : Nat) : CutAt Tryz.prog false Tryz.f392 [0] 698 (C392_698 N G k) :=
  L392_698.loopT ownT mix (tab392_ok N G hG) Tryz.f392 [0] (cuts := [(172, C392_172 N G N)]) ⟨C392_172_ok N G hG N, trivial⟩ (by decide +kernel) (by kernel_rfl) (B392_698 N G) (F392_698 N G) (fun _ => rfl) (fun _ _ => rfl) (fun f x => by kernel_rfl) k
@[reducible] def L392_428 : LD := ⟨428, [14, 15, 4, 2, 0], [(.exit 4, [2, 14, 0])], ⟨[.int .i64, .int .i64, .fn 385, .int .i64, .slp 0 .h .h], [.row y4 391]⟩, [(.exit 4, ⟨[.int .i64, .int .i64, .slp 0 .h .h], [.row y4 391]⟩)]⟩
abbrev P392_428 : Type := Int × Int × Int × Nat × Nat × (List (Int × ((List Int) × Unit)))
abbrev R392_428 : Type := Int × Int × Nat × Nat × (List (Int × ((List Int) × Unit)))
noncomputable def B392_428 (N : Nat) (G : (Nat × Nat × Int × Int × Int × (List (Int × ((List Int) × Unit)))) → Option ((List (Int × ((List Int) × Unit))))) (f : P392_428 → Option R392_428) : P392_428 → Option R392_428
  | (x0, x1, x2, x3, x4, x5) =>
  iteP (decide (x0 < x1)) (
    iteP (within x2 x4) (
      Option.bind (x5[x3 + Int.toNat x2]?) fun y0 =>
      iteP (within (IntKind.wrap IntKind.i64 (Int.fdiv (IntKind.wrap IntKind.u64 (IntKind.wrap IntKind.i64 (x0 + x1))) (2 : Int))) x4) (
        Option.bind (x5[x3 + Int.toNat (IntKind.wrap IntKind.i64 (Int.fdiv (IntKind.wrap IntKind.u64 (IntKind.wrap IntKind.i64 (x0 + x1))) (2 : Int)))]?) fun y1 =>
        Option.bind (F385 N (y0.1, y0.2.1, y1.1, y1.2.1)) fun y2 =>
        iteP (!decide (y2 < (0 : Int))) (
          Option.bind (f (IntKind.wrap IntKind.i64 (IntKind.wrap IntKind.i64 (Int.fdiv (IntKind.wrap IntKind.u64 (IntKind.wrap IntKind.i64 (x0 + x1))) (2 : Int)) + (1 : Int)), x1, x2, x3, x4, x5)) fun r => some r) (
          Option.bind (f (x0, IntKind.wrap IntKind.i64 (Int.fdiv (IntKind.wrap IntKind.u64 (IntKind.wrap IntKind.i64 (x0 + x1))) (2 : Int)), x2, x3, x4, x5)) fun r => some r)) (
        none )) (
      none )) (
    some ((x2, x0, x3, x4, x5)))
noncomputable def F392_428 (N : Nat) (G : (Nat × Nat × Int × Int × Int × (List (Int × ((List Int) × Unit)))) → Option ((List (Int × ((List Int) × Unit))))) : Nat → P392_428 → Option R392_428
  | 0, _ => none
  | k + 1, x => B392_428 N G (F392_428 N G k) x
noncomputable def C392_428 (N : Nat) (G : (Nat × Nat × Int × Int × Int × (List (Int × ((List Int) × Unit)))) → Option ((List (Int × ((List Int) × Unit))))) (k : Nat) : Cut := L392_428.cut (F392_428 N G k)
theorem C392_428_ok (N : Nat) (G : (Nat × Nat × Int × Int × Int × (List (Int × ((List Int) × Unit)))) → Option ((List (Int × ((List Int) × Unit))))) (hG : FOK Tryz.prog 392 (tellS s392 w392 G)) (k : Nat) : CutAt Tryz.prog false Tryz.f392 [0] 428 (C392_428 N G k) :=
  L392_428.loopT ownT mix (tab392_ok N G hG) Tryz.f392 [0] (cuts := [(172, C392_172 N G N), (698, C392_698 N G N)]) ⟨C392_172_ok N G hG N, C392_698_ok N G hG N, trivial⟩ (by decide +kernel) (by kernel_rfl) (B392_428 N G) (F392_428 N G) (fun _ => rfl) (fun _ _ => rfl) (fun f x => by kernel_rfl) k
@[reducible] def L392_1722 : LD := ⟨1722, [17, 14, 0], [(.exit 6, [])], ⟨[.int .i64, .int .i64, .slp 0 .h .h], [.row y4 391]⟩, [(.exit 6, ⟨[], [.row y4 391]⟩)]⟩
abbrev P392_1722 : Type := Int × Int × Nat × Nat × (List (Int × ((List Int) × Unit)))
abbrev R392_1722 : Type := (List (Int × ((List Int) × Unit)))
noncomputable def B392_1722 (N : Nat) (G : (Nat × Nat × Int × Int × Int × (List (Int × ((List Int) × Unit)))) → Option ((List (Int × ((List Int) × Unit))))) (f : P392_1722 → Option R392_1722) : P392_1722 → Option R392_1722
  | (x0, x1, x2, x3, x4) =>
  iteP (decide (x0 > x1)) (
    iteP (within (IntKind.wrap IntKind.i64 (x0 - (1 : Int))) x3) (
      Option.bind (x4[x2 + Int.toNat (IntKind.wrap IntKind.i64 (x0 - (1 : Int)))]?) fun y0 =>
      iteP (within x0 x3) (
        Option.bind (x4[x2 + Int.toNat x0]?) fun y1 =>
        iteP (within x0 x3) (
          Option.bind (x4[x2 + Int.toNat x0]?) fun y2 =>
          iteP (within (IntKind.wrap IntKind.i64 (x0 - (1 : Int))) x3) (
            Option.bind ((List.set x4 (x2 + Int.toNat x0) (y0.1, y0.2.1, ()))[x2 + Int.toNat (IntKind.wrap IntKind.i64 (x0 - (1 : Int)))]?) fun y3 =>
            Option.bind (f (IntKind.wrap IntKind.i64 (x0 - (1 : Int)), x1, x2, x3, List.set (List.set x4 (x2 + Int.toNat x0) (y0.1, y0.2.1, ())) (x2 + Int.toNat (IntKind.wrap IntKind.i64 (x0 - (1 : Int)))) (y1.1, y1.2.1, ()))) fun r => some r) (
            none )) (
          none )) (
        none )) (
      none )) (
    some (x4))
noncomputable def F392_1722 (N : Nat) (G : (Nat × Nat × Int × Int × Int × (List (Int × ((List Int) × Unit)))) → Option ((List (Int × ((List Int) × Unit))))) : Nat → P392_1722 → Option R392_1722
  | 0, _ => none
  | k + 1, x => B392_1722 N G (F392_1722 N G k) x
noncomputable def C392_1722 (N : Nat) (G : (Nat × Nat × Int × Int × Int × (List (Int × ((List Int) × Unit)))) → Option ((List (Int × ((List Int) × Unit))))) (k : Nat) : Cut := L392_1722.cut (F392_1722 N G k)
theorem C392_1722_ok (N : Nat) (G : (Nat × Nat × Int × Int × Int × (List (Int × ((List Int) × Unit)))) → Option ((List (Int × ((List Int) × Unit))))) (hG : FOK Tryz.prog 392 (tellS s392 w392 G)) (k : Nat) : CutAt Tryz.prog false Tryz.f392 [0] 1722 (C392_1722 N G k) :=
  L392_1722.loopT ownT mix (tab392_ok N G hG) Tryz.f392 [0] (cuts := [(172, C392_172 N G N), (698, C392_698 N G N), (428, C392_428 N G N)]) ⟨C392_172_ok N G hG N, C392_698_ok N G hG N, C392_428_ok N G hG N, trivial⟩ (by decide +kernel) (by kernel_rfl) (B392_1722 N G) (F392_1722 N G) (fun _ => rfl) (fun _ _ => rfl) (fun f x => by kernel_rfl) k
@[reducible] def L392_1020 : LD := ⟨1020, [20, 3, 18, 1, 2, 19, 21, 4, 22, 0], [(.exit 8, [19, 2, 1, 20, 0, 18, 3, 4])], ⟨[.int .i64, .int .i64, .int .i64, .int .i64, .int .i64, .int .i64, .int .i64, .fn 385, .int .i64, .slp 0 .h .h], [.row y4 391]⟩, [(.exit 8, ⟨[.int .i64, .int .i64, .int .i64, .int .i64, .slp 0 .h .h, .int .i64, .int .i64, .fn 385], [.row y4 391]⟩)]⟩
abbrev P392_1020 : Type := Int × Int × Int × Int × Int × Int × Int × Int × Nat × Nat × (List (Int × ((List Int) × Unit)))
abbrev R392_1020 : Type := Int × Int × Int × Int × Nat × Nat × Int × Int × (List (Int × ((List Int) × Unit)))
noncomputable def B392_1020 (N : Nat) (G : (Nat × Nat × Int × Int × Int × (List (Int × ((List Int) × Unit)))) → Option ((List (Int × ((List Int) × Unit))))) (f : P392_1020 → Option R392_1020) : P392_1020 → Option R392_1020
  | (x0, x1, x2, x3, x4, x5, x6, x7, x8, x9, x10) =>
  iteP (decide (x0 < x6)) (
    iteP (within (IntKind.wrap IntKind.i64 (x7 - IntKind.wrap IntKind.i64 (Int.fdiv (IntKind.wrap IntKind.u64 (IntKind.wrap IntKind.i64 (x0 + x6))) (2 : Int)))) x9) (
      Option.bind (x10[x8 + Int.toNat (IntKind.wrap IntKind.i64 (x7 - IntKind.wrap IntKind.i64 (Int.fdiv (IntKind.wrap IntKind.u64 (IntKind.wrap IntKind.i64 (x0 + x6))) (2 : Int))))]?) fun y0 =>
      iteP (within (IntKind.wrap IntKind.i64 (Int.fdiv (IntKind.wrap IntKind.u64 (IntKind.wrap IntKind.i64 (x0 + x6))) (2 : Int))) x9) (
        Option.bind (x10[x8 + Int.toNat (IntKind.wrap IntKind.i64 (Int.fdiv (IntKind.wrap IntKind.u64 (IntKind.wrap IntKind.i64 (x0 + x6))) (2 : Int)))]?) fun y1 =>
        Option.bind (F385 N (y0.1, y0.2.1, y1.1, y1.2.1)) fun y2 =>
        iteP (!decide (y2 < (0 : Int))) (
          Option.bind (f (IntKind.wrap IntKind.i64 (IntKind.wrap IntKind.i64 (Int.fdiv (IntKind.wrap IntKind.u64 (IntKind.wrap IntKind.i64 (x0 + x6))) (2 : Int)) + (1 : Int)), x1, x2, x3, x4, x5, x6, x7, x8, x9, x10)) fun r => some r) (
          Option.bind (f (x0, x1, x2, x3, x4, x5, IntKind.wrap IntKind.i64 (Int.fdiv (IntKind.wrap IntKind.u64 (IntKind.wrap IntKind.i64 (x0 + x6))) (2 : Int)), x7, x8, x9, x10)) fun r => some r)) (
        none )) (
      none )) (
    some ((x5, x4, x3, x0, x8, x9, x2, x1, x10)))
noncomputable def F392_1020 (N : Nat) (G : (Nat × Nat × Int × Int × Int × (List (Int × ((List Int) × Unit)))) → Option ((List (Int × ((List Int) × Unit))))) : Nat → P392_1020 → Option R392_1020
  | 0, _ => none
  | k + 1, x => B392_1020 N G (F392_1020 N G k) x
noncomputable def C392_1020 (N : Nat) (G : (Nat × Nat × Int × Int × Int × (List (Int × ((List Int) × Unit)))) → Option ((List (Int × ((List Int) × Unit))))) (k : Nat) : Cut := L392_1020.cut (F392_1020 N G k)
theorem C392_1020_ok (N : Nat) (G : (Nat × Nat × Int × Int × Int × (List (Int × ((List Int) × Unit)))) → Option ((List (Int × ((List Int) × Unit))))) (hG : FOK Tryz.prog 392 (tellS s392 w392 G)) (k : Nat) : CutAt Tryz.prog false Tryz.f392 [0] 1020 (C392_1020 N G k) :=
  L392_1020.loopT ownT mix (tab392_ok N G hG) Tryz.f392 [0] (cuts := [(172, C392_172 N G N), (698, C392_698 N G N), (428, C392_428 N G N), (1722, C392_1722 N G N)]) ⟨C392_172_ok N G hG N, C392_698_ok N G hG N, C392_428_ok N G hG N, C392_1722_ok N G hG N, trivial⟩ (by decide +kernel) (by kernel_rfl) (B392_1020 N G) (F392_1020 N G) (fun _ => rfl) (fun _ _ => rfl) (fun f x => by kernel_rfl) k
@[reducible] def L392_4095 : LD := ⟨4095, [0, 18, 24, 3, 4], [(.normal, [])], ⟨[.slp 0 .h .h, .int .i64, .int .i64, .int .i64, .fn 385], [.row y4 391]⟩, [(.normal, ⟨[], [.row y4 391]⟩)]⟩
noncomputable def F392_4095 (N : Nat) (G : (Nat × Nat × Int × Int × Int × (List (Int × ((List Int) × Unit)))) → Option ((List (Int × ((List Int) × Unit))))) : (Nat × Nat × Int × Int × Int × (List (Int × ((List Int) × Unit)))) → Option ((List (Int × ((List Int) × Unit))))
  | (x0, x1, x2, x3, x4, x5) =>
  iteP (decide (x2 < x3)) (
    iteP (decide (x3 < x4)) (
      Option.bind (G (x0, x1, x2, x3, x4, x5)) fun y0 =>
      some (y0)) (
      some (x5))) (
    some (x5))
noncomputable def C392_4095 (N : Nat) (G : (Nat × Nat × Int × Int × Int × (List (Int × ((List Int) × Unit)))) → Option ((List (Int × ((List Int) × Unit))))) (_ : Nat) : Cut := L392_4095.cut (F392_4095 N G)
theorem C392_4095_ok (N : Nat) (G : (Nat × Nat × Int × Int × Int × (List (Int × ((List Int) × Unit)))) → Option ((List (Int × ((List Int) × Unit))))) (hG : FOK Tryz.prog 392 (tellS s392 w392 G)) (k : Nat) : CutAt Tryz.prog false Tryz.f392 [0] 4095 (C392_4095 N G k) :=
  L392_4095.pieceT ownT mix (tab392_ok N G hG) Tryz.f392 [0] (cuts := [(172, C392_172 N G N), (698, C392_698 N G N), (428, C392_428 N G N), (1722, C392_1722 N G N), (1020, C392_1020 N G N)]) ⟨C392_172_ok N G hG N, C392_698_ok N G hG N, C392_428_ok N G hG N, C392_1722_ok N G hG N, C392_1020_ok N G hG N, trivial⟩ (by decide +kernel) (by kernel_rfl) (F392_4095 N G) (fun x => by kernel_rfl)
@[reducible] def L392_2047 : LD := ⟨2047, [1, 20, 0, 18, 24, 3, 4], [(.normal, [])], ⟨[.int .i64, .int .i64, .slp 0 .h .h, .int .i64, .int .i64, .int .i64, .fn 385], [.row y4 391]⟩, [(.normal, ⟨[], [.row y4 391]⟩)]⟩
noncomputable def F392_2047 (N : Nat) (G : (Nat × Nat × Int × Int × Int × (List (Int × ((List Int) × Unit)))) → Option ((List (Int × ((List Int) × Unit))))) : (Int × Int × Nat × Nat × Int × Int × Int × (List (Int × ((List Int) × Unit)))) → Option ((List (Int × ((List Int) × Unit))))
  | (x0, x1, x2, x3, x4, x5, x6, x7) =>
  iteP (decide (x0 < x1)) (
    iteP (decide (x1 < x4)) (
      Option.bind (G (x2, x3, x0, x1, x4, x7)) fun y0 =>
      Option.bind (F392_4095 N G (x2, x3, x4, x5, x6, y0)) fun y1 =>
      some (y1)) (
      Option.bind (F392_4095 N G (x2, x3, x4, x5, x6, x7)) fun y2 =>
      some (y2))) (
    Option.bind (F392_4095 N G (x2, x3, x4, x5, x6, x7)) fun y3 =>
    some (y3))
noncomputable def C392_2047 (N : Nat) (G : (Nat × Nat × Int × Int × Int × (List (Int × ((List Int) × Unit)))) → Option ((List (Int × ((List Int) × Unit))))) (_ : Nat) : Cut := L392_2047.cut (F392_2047 N G)
theorem C392_2047_ok (N : Nat) (G : (Nat × Nat × Int × Int × Int × (List (Int × ((List Int) × Unit)))) → Option ((List (Int × ((List Int) × Unit))))) (hG : FOK Tryz.prog 392 (tellS s392 w392 G)) (k : Nat) : CutAt Tryz.prog false Tryz.f392 [0] 2047 (C392_2047 N G k) :=
  L392_2047.pieceT ownT mix (tab392_ok N G hG) Tryz.f392 [0] (cuts := [(172, C392_172 N G N), (698, C392_698 N G N), (428, C392_428 N G N), (1722, C392_1722 N G N), (1020, C392_1020 N G N), (4095, C392_4095 N G N)]) ⟨C392_172_ok N G hG N, C392_698_ok N G hG N, C392_428_ok N G hG N, C392_1722_ok N G hG N, C392_1020_ok N G hG N, C392_4095_ok N G hG N, trivial⟩ (by decide +kernel) (by kernel_rfl) (F392_2047 N G) (fun x => by kernel_rfl)
@[reducible] def L392_127 : LD := ⟨127, [20, 3, 18, 1, 2, 19, 21, 4, 0], [(.normal, [])], ⟨[.int .i64, .int .i64, .int .i64, .int .i64, .int .i64, .int .i64, .int .i64, .fn 385, .slp 0 .h .h], [.row y4 391]⟩, [(.normal, ⟨[], [.row y4 391]⟩)]⟩
noncomputable def F392_127 (N : Nat) (G : (Nat × Nat × Int × Int × Int × (List (Int × ((List Int) × Unit)))) → Option ((List (Int × ((List Int) × Unit))))) : (Int × Int × Int × Int × Int × Int × Int × Nat × Nat × (List (Int × ((List Int) × Unit)))) → Option ((List (Int × ((List Int) × Unit))))
  | (x0, x1, x2, x3, x4, x5, x6, x7, x8, x9) =>
  Option.bind (F392_1020 N G N (x0, x1, x2, x3, x4, x5, x6, IntKind.wrap IntKind.i64 (x5 - (1 : Int)), x7, x8, x9)) fun (y0_0, y0_1, y0_2, y0_3, y0_4, y0_5, y0_6, y0_7, y0_8) =>
  iteP (decide (y0_3 < y0_1)) (
    iteP (decide (y0_1 < IntKind.wrap IntKind.i64 (y0_0 - y0_3))) (
      Option.bind (F393 N (y0_4, y0_5, y0_3, y0_1, IntKind.wrap IntKind.i64 (y0_0 - y0_3), y0_8)) fun y1 =>
      Option.bind (F392_2047 N G (y0_2, y0_3, y0_4, y0_5, y0_6, IntKind.wrap IntKind.i64 (y0_0 - y0_3), y0_7, y1)) fun y2 =>
      some (y2)) (
      Option.bind (F392_2047 N G (y0_2, y0_3, y0_4, y0_5, y0_6, IntKind.wrap IntKind.i64 (y0_0 - y0_3), y0_7, y0_8)) fun y3 =>
      some (y3))) (
    Option.bind (F392_2047 N G (y0_2, y0_3, y0_4, y0_5, y0_6, IntKind.wrap IntKind.i64 (y0_0 - y0_3), y0_7, y0_8)) fun y4 =>
    some (y4))
noncomputable def C392_127 (N : Nat) (G : (Nat × Nat × Int × Int × Int × (List (Int × ((List Int) × Unit)))) → Option ((List (Int × ((List Int) × Unit))))) (_ : Nat) : Cut := L392_127.cut (F392_127 N G)
theorem C392_127_ok (N : Nat) (G : (Nat × Nat × Int × Int × Int × (List (Int × ((List Int) × Unit)))) → Option ((List (Int × ((List Int) × Unit))))) (hG : FOK Tryz.prog 392 (tellS s392 w392 G)) (k : Nat) : CutAt Tryz.prog false Tryz.f392 [0] 127 (C392_127 N G k) :=
  L392_127.pieceT ownT mix (tab392_ok N G hG) Tryz.f392 [0] (cuts := [(172, C392_172 N G N), (698, C392_698 N G N), (428, C392_428 N G N), (1722, C392_1722 N G N), (1020, C392_1020 N G N), (4095, C392_4095 N G N), (2047, C392_2047 N G N)]) ⟨C392_172_ok N G hG N, C392_698_ok N G hG N, C392_428_ok N G hG N, C392_1722_ok N G hG N, C392_1020_ok N G hG N, C392_4095_ok N G hG N, C392_2047_ok N G hG N, trivial⟩ (by decide +kernel) (by kernel_rfl) (F392_127 N G) (fun x => by kernel_rfl)
noncomputable def F392g (N : Nat) (G : (Nat × Nat × Int × Int × Int × (List (Int × ((List Int) × Unit)))) → Option ((List (Int × ((List Int) × Unit))))) : (Nat × Nat × Int × Int × Int × (List (Int × ((List Int) × Unit)))) → Option ((List (Int × ((List Int) × Unit))))
  | (x0, x1, x2, x3, x4, x5) =>
  iteP (IntKind.wrap IntKind.i64 (x3 - x2) == (1 : Int)) (
    Option.bind (F392_172 N G N (x3, x4, x0, x1, x2, x5)) fun y0 =>
    Option.bind (F392_698 N G N (y0.1, y0.2.1, y0.2.2.1, y0.2.2.2.1, y0.2.2.2.2)) fun y1 =>
    some (y1)) (
    iteP (IntKind.wrap IntKind.i64 (x4 - x3) == (1 : Int)) (
      Option.bind (F392_428 N G N (x2, x3, x3, x0, x1, x5)) fun y2 =>
      Option.bind (F392_1722 N G N (y2.1, y2.2.1, y2.2.2.1, y2.2.2.2.1, y2.2.2.2.2)) fun y3 =>
      some (y3)) (
      iteP (decide (x3 > IntKind.wrap IntKind.i64 (Int.fdiv (IntKind.wrap IntKind.u64 (IntKind.wrap IntKind.i64 (x2 + x4))) (2 : Int)))) (
        Option.bind (F392_127 N G (IntKind.wrap IntKind.i64 (IntKind.wrap IntKind.i64 (IntKind.wrap IntKind.i64 (Int.fdiv (IntKind.wrap IntKind.u64 (IntKind.wrap IntKind.i64 (x2 + x4))) (2 : Int)) + x3) - x4), x4, IntKind.wrap IntKind.i64 (Int.fdiv (IntKind.wrap IntKind.u64 (IntKind.wrap IntKind.i64 (x2 + x4))) (2 : Int)), x2, x3, IntKind.wrap IntKind.i64 (IntKind.wrap IntKind.i64 (Int.fdiv (IntKind.wrap IntKind.u64 (IntKind.wrap IntKind.i64 (x2 + x4))) (2 : Int)) + x3), IntKind.wrap IntKind.i64 (Int.fdiv (IntKind.wrap IntKind.u64 (IntKind.wrap IntKind.i64 (x2 + x4))) (2 : Int)), x0, x1, x5)) fun y4 =>
        some (y4)) (
        Option.bind (F392_127 N G (x2, x4, IntKind.wrap IntKind.i64 (Int.fdiv (IntKind.wrap IntKind.u64 (IntKind.wrap IntKind.i64 (x2 + x4))) (2 : Int)), x2, x3, IntKind.wrap IntKind.i64 (IntKind.wrap IntKind.i64 (Int.fdiv (IntKind.wrap IntKind.u64 (IntKind.wrap IntKind.i64 (x2 + x4))) (2 : Int)) + x3), x3, x0, x1, x5)) fun y5 =>
        some (y5))))
noncomputable def F392k (N : Nat) : Nat → (Nat × Nat × Int × Int × Int × (List (Int × ((List Int) × Unit)))) → Option ((List (Int × ((List Int) × Unit))))
  | 0, _ => none
  | k + 1, x => F392g N (F392k N k) x
noncomputable def F392 (N : Nat) : (Nat × Nat × Int × Int × Int × (List (Int × ((List Int) × Unit)))) → Option ((List (Int × ((List Int) × Unit)))) := F392k N N
noncomputable def T392 (N : Nat) : Pk → Tr Pk := tellS s392 w392 (F392 N)
theorem T392_rec (N : Nat) : ∀ k, FOK Tryz.prog 392 (tellS s392 w392 (F392k N k))
  | 0 => tell_none fun _ => rfl
  | k + 1 => fn_ok2 ownT mix (tab392_ok N (F392k N k) (T392_rec N k)) Tryz.func392 s392 w392 [0] (cuts := [(172, C392_172 N (F392k N k) N), (698, C392_698 N (F392k N k) N), (428, C392_428 N (F392k N k) N), (1722, C392_1722 N (F392k N k) N), (1020, C392_1020 N (F392k N k) N), (4095, C392_4095 N (F392k N k) N), (2047, C392_2047 N (F392k N k) N), (127, C392_127 N (F392k N k) N)]) ⟨C392_172_ok N (F392k N k) (T392_rec N k) N, C392_698_ok N (F392k N k) (T392_rec N k) N, C392_428_ok N (F392k N k) (T392_rec N k) N, C392_1722_ok N (F392k N k) (T392_rec N k) N, C392_1020_ok N (F392k N k) (T392_rec N k) N, C392_4095_ok N (F392k N k) (T392_rec N k) N, C392_2047_ok N (F392k N k) (T392_rec N k) N, C392_127_ok N (F392k N k) (T392_rec N k) N, trivial⟩ (fun _ => by kernel_rfl) (by decide +kernel) (F392k N (k + 1)) (fun x => by kernel_rfl)
theorem T392_ok (N : Nat) : FOK Tryz.prog (392) (T392 N) :=
  (T392_rec N N)
@[reducible] def s389 : SP := ⟨[.slp 0 .h .h, .int .i64, .fn 385], [.row y4 391]⟩
noncomputable def tab389 (N : Nat) : List (Nat × (Pk → Tr Pk)) := [(391, T391 N), (392, T392 N)]
theorem tab389_ok (N : Nat) : TabOK Tryz.prog (tab389 N) := ⟨T391_ok N, T392_ok N, trivial⟩
@[reducible] def L389_28 : LD := ⟨28, [7, 8, 1, 0, 2, 6], [(.exit 0, [7, 1, 0, 2, 6])], ⟨[.int .i64, .int .i64, .int .i64, .slp 0 .h .h, .fn 385, .int .i64], [.row y4 391]⟩, [(.exit 0, ⟨[.int .i64, .int .i64, .slp 0 .h .h, .fn 385, .int .i64], [.row y4 391]⟩)]⟩
abbrev P389_28 : Type := Int × Int × Int × Nat × Nat × Int × (List (Int × ((List Int) × Unit)))
abbrev R389_28 : Type := Int × Int × Nat × Nat × Int × (List (Int × ((List Int) × Unit)))
noncomputable def B389_28 (N : Nat) (f : P389_28 → Option R389_28) : P389_28 → Option R389_28
  | (x0, x1, x2, x3, x4, x5, x6) =>
  iteP (decide (x1 ≤ x2)) (
    Option.bind (F391 N (x3, x4, x0, x1, x6)) fun y0 =>
    Option.bind (f (x1, IntKind.wrap IntKind.i64 (x1 + x5), x2, x3, x4, x5, y0)) fun r => some r) (
    some ((x0, x2, x3, x4, x5, x6)))
noncomputable def F389_28 (N : Nat) : Nat → P389_28 → Option R389_28
  | 0, _ => none
  | k + 1, x => B389_28 N (F389_28 N k) x
noncomputable def C389_28 (N : Nat) (k : Nat) : Cut := L389_28.cut (F389_28 N k)
theorem C389_28_ok (N : Nat) (k : Nat) : CutAt Tryz.prog false Tryz.f389 [0] 28 (C389_28 N k) :=
  L389_28.loopT ownT mix (tab389_ok N) Tryz.f389 [0] (cuts := []) trivial (by decide +kernel) (by kernel_rfl) (B389_28 N) (F389_28 N) (fun _ => rfl) (fun _ _ => rfl) (fun f x => by kernel_rfl) k
@[reducible] def L389_3988 : LD := ⟨3988, [7, 8, 1, 0, 2, 6], [(.exit 4, [7, 6, 1, 0, 2]), (.exit 3, [1, 0, 2, 6])], ⟨[.int .i64, .int .i64, .int .i64, .slp 0 .h .h, .fn 385, .int .i64], [.row y4 391]⟩, [(.exit 4, ⟨[.int .i64, .int .i64, .int .i64, .slp 0 .h .h, .fn 385], [.row y4 391]⟩)]⟩
abbrev P389_3988 : Type := Int × Int × Int × Nat × Nat × Int × (List (Int × ((List Int) × Unit)))
abbrev R389_3988 : Type := Int × Int × Int × Nat × Nat × (List (Int × ((List Int) × Unit)))
noncomputable def B389_3988 (N : Nat) (f : P389_3988 → Option R389_3988) : P389_3988 → Option R389_3988
  | (x0, x1, x2, x3, x4, x5, x6) =>
  iteP (decide (x1 ≤ x2)) (
    Option.bind (F392 N (x3, x4, x0, IntKind.wrap IntKind.i64 (x0 + x5), x1, x6)) fun y0 =>
    Option.bind (f (x1, IntKind.wrap IntKind.i64 (x1 + IntKind.wrap IntKind.i64 ((2 : Int) * x5)), x2, x3, x4, x5, y0)) fun r => some r) (
    some ((x0, x5, x2, x3, x4, x6)))
noncomputable def F389_3988 (N : Nat) : Nat → P389_3988 → Option R389_3988
  | 0, _ => none
  | k + 1, x => B389_3988 N (F389_3988 N k) x
noncomputable def C389_3988 (N : Nat) (k : Nat) : Cut := L389_3988.cut (F389_3988 N k)
theorem C389_3988_ok (N : Nat) (k : Nat) : CutAt Tryz.prog false Tryz.f389 [0] 3988 (C389_3988 N k) :=
  L389_3988.loopT ownT mix (tab389_ok N) Tryz.f389 [0] (cuts := [(28, C389_28 N N)]) ⟨C389_28_ok N N, trivial⟩ (by decide +kernel) (by kernel_rfl) (B389_3988 N) (F389_3988 N) (fun _ => rfl) (fun _ _ => rfl) (fun f x => by kernel_rfl) k
@[reducible] def L389_62 : LD := ⟨62, [1, 0, 2, 6], [(.exit 2, [])], ⟨[.int .i64, .slp 0 .h .h, .fn 385, .int .i64], [.row y4 391]⟩, [(.exit 2, ⟨[], [.row y4 391]⟩)]⟩
abbrev P389_62 : Type := Int × Nat × Nat × Int × (List (Int × ((List Int) × Unit)))
abbrev R389_62 : Type := (List (Int × ((List Int) × Unit)))
noncomputable def B389_62 (N : Nat) (f : P389_62 → Option R389_62) : P389_62 → Option R389_62
  | (x0, x1, x2, x3, x4) =>
  iteP (decide (x3 < x0)) (
    Option.bind (F389_3988 N N ((0 : Int), IntKind.wrap IntKind.i64 ((2 : Int) * x3), x0, x1, x2, x3, x4)) fun (y0_0, y0_1, y0_2, y0_3, y0_4, y0_5) =>
    iteP (decide (IntKind.wrap IntKind.i64 (y0_0 + y0_1) < y0_2)) (
      Option.bind (F392 N (y0_3, y0_4, y0_0, IntKind.wrap IntKind.i64 (y0_0 + y0_1), y0_2, y0_5)) fun y1 =>
      Option.bind (f (y0_2, y0_3, y0_4, IntKind.wrap IntKind.i64 (y0_1 * (2 : Int)), y1)) fun r => some r) (
      Option.bind (f (y0_2, y0_3, y0_4, IntKind.wrap IntKind.i64 (y0_1 * (2 : Int)), y0_5)) fun r => some r)) (
    some (x4))
noncomputable def F389_62 (N : Nat) : Nat → P389_62 → Option R389_62
  | 0, _ => none
  | k + 1, x => B389_62 N (F389_62 N k) x
noncomputable def C389_62 (N : Nat) (k : Nat) : Cut := L389_62.cut (F389_62 N k)
theorem C389_62_ok (N : Nat) (k : Nat) : CutAt Tryz.prog false Tryz.f389 [0] 62 (C389_62 N k) :=
  L389_62.loopT ownT mix (tab389_ok N) Tryz.f389 [0] (cuts := [(28, C389_28 N N), (3988, C389_3988 N N)]) ⟨C389_28_ok N N, C389_3988_ok N N, trivial⟩ (by decide +kernel) (by kernel_rfl) (B389_62 N) (F389_62 N) (fun _ => rfl) (fun _ _ => rfl) (fun f x => by kernel_rfl) k
@[reducible] def w389 : List SP := [⟨[.tup []], [.row y4 391]⟩]
noncomputable def F389 (N : Nat) : (Nat × Nat × Int × (List (Int × ((List Int) × Unit)))) → Option ((List (Int × ((List Int) × Unit))))
  | (x0, x1, x2, x3) =>
  Option.bind (F389_28 N N ((0 : Int), (20 : Int), x2, x0, x1, (20 : Int), x3)) fun (y0_0, y0_1, y0_2, y0_3, y0_4, y0_5) =>
  Option.bind (F391 N (y0_2, y0_3, y0_0, y0_1, y0_5)) fun y1 =>
  Option.bind (F389_62 N N (y0_1, y0_2, y0_3, y0_4, y1)) fun y2 =>
  some (y2)
noncomputable def T389 (N : Nat) : Pk → Tr Pk := tellS s389 w389 (F389 N)
theorem T389_ok (N : Nat) : FOK Tryz.prog (389) (T389 N) :=
  (fn_ok2 ownT mix (tab389_ok N) Tryz.func389 s389 w389 [0] (cuts := [(28, C389_28 N N), (3988, C389_3988 N N), (62, C389_62 N N)]) ⟨C389_28_ok N N, C389_3988_ok N N, C389_62_ok N N, trivial⟩ (fun _ => by kernel_rfl) (by decide +kernel) (F389 N) (fun x => by kernel_rfl))
@[reducible] def s384 : SP := ⟨[.slp 0 .h .h, .fn 385], [.row y4 391]⟩
noncomputable def tab384 (N : Nat) : List (Nat × (Pk → Tr Pk)) := [(389, T389 N)]
theorem tab384_ok (N : Nat) : TabOK Tryz.prog (tab384 N) := ⟨T389_ok N, trivial⟩
@[reducible] def w384 : List SP := [⟨[.tup []], [.row y4 391]⟩]
noncomputable def F384 (N : Nat) : (Nat × Nat × (List (Int × ((List Int) × Unit)))) → Option ((List (Int × ((List Int) × Unit))))
  | (x0, x1, x2) =>
  Option.bind (F389 N (x0, x1, (↑x1 : Int), x2)) fun y0 =>
  some (y0)
noncomputable def T384 (N : Nat) : Pk → Tr Pk := tellS s384 w384 (F384 N)
theorem T384_ok (N : Nat) : FOK Tryz.prog (384) (T384 N) :=
  (fn_ok2 ownT mix (tab384_ok N) Tryz.func384 s384 w384 [0] (cuts := []) trivial (fun _ => by kernel_rfl) (by decide +kernel) (F384 N) (fun x => by kernel_rfl))
@[reducible] def s376 : SP := ⟨[.ro y4, .ro y4], []⟩
noncomputable def tab376 (N : Nat) : List (Nat × (Pk → Tr Pk)) := [(383, T383 N), (384, T384 N)]
theorem tab376_ok (N : Nat) : TabOK Tryz.prog (tab376 N) := ⟨T383_ok N, T384_ok N, trivial⟩
@[reducible] def w376 : List SP := [⟨[.sl 0], [.row y4 391]⟩]
noncomputable def F376 (N : Nat) : ((List (Int × ((List Int) × Unit))) × (List (Int × ((List Int) × Unit)))) → Option ((List (Int × ((List Int) × Unit))))
  | (x0, x1) =>
  Option.bind (F383 N [x0, x1]) fun y0 =>
  Option.bind (F384 N ((0 : Nat), List.length y0, y0)) fun y1 =>
  some (y1)
noncomputable def T376 (N : Nat) : Pk → Tr Pk := postT frzP (tellS s376 w376 (F376 N))
theorem T376_ok (N : Nat) : FOK Tryz.prog (376) (T376 N) :=
  postT_ok frzP_ok (fn_ok2 ownT mix (tab376_ok N) Tryz.func376 s376 w376 [] (cuts := []) trivial (fun _ => by kernel_rfl) (by decide +kernel) (F376 N) (fun x => by kernel_rfl)) (by decide +kernel)
@[reducible] def s375 : SP := ⟨[.ro (.int .i64)], []⟩
noncomputable def tab375 (N : Nat) : List (Nat × (Pk → Tr Pk)) := [(376, T376 N)]
theorem tab375_ok (N : Nat) : TabOK Tryz.prog (tab375 N) := ⟨T376_ok N, trivial⟩
@[reducible] def L375_58 : LD := ⟨58, [8, 7, 9, 4], [(.ret, [2, 3]), (.exit 0, [4])], ⟨[.int .i64, .ro (.int .i64), .int .i64, .sl 0], [.row y4 391]⟩, [(.ret, ⟨[.sl 0, .int .i64], [.row y4 391]⟩), (.exit 0, ⟨[.sl 0], [.row y4 391]⟩)]⟩
abbrev P375_58 : Type := Int × (List Int) × Int × (List (Int × ((List Int) × Unit)))
abbrev R375_58 : Type := ((Int × (List (Int × ((List Int) × Unit)))) ⊕ ((List (Int × ((List Int) × Unit)))))
noncomputable def B375_58 (N : Nat) (f : P375_58 → Option R375_58) : P375_58 → Option R375_58
  | (x0, x1, x2, x3) =>
  iteP (decide (x2 < x0)) (
    iteP (within x2 (List.length x1)) (
      Option.bind (x1[Int.toNat x2]?) fun y0 =>
      iteP (decide (y0 < (0 : Int))) (
        some (.inl (((1 : Int), [])))) (
        iteP (decide (y0 > (1073741824 : Int))) (
          some (.inl (((1 : Int), [])))) (
          iteP (decide (y0 > (0 : Int))) (
            iteP (decide ((List.length x3 + List.length [(y0, [x2], ())]) * (32 : Nat) ≤ (140737488355328 : Nat) ∧ List.length x3 + List.length [(y0, [x2], ())] ≤ (140737488355328 : Nat))) (
              Option.bind (f (x0, x1, IntKind.wrap IntKind.i64 (x2 + (1 : Int)), x3 ++ [(y0, [x2], ())])) fun r => match r with | .inl y => some (.inl y) | .inr y => some (.inr y)) (
              none )) (
            Option.bind (f (x0, x1, IntKind.wrap IntKind.i64 (x2 + (1 : Int)), x3)) fun r => match r with | .inl y => some (.inl y) | .inr y => some (.inr y))))) (
      none )) (
    some (.inr (x3)))
noncomputable def F375_58 (N : Nat) : Nat → P375_58 → Option R375_58
  | 0, _ => none
  | k + 1, x => B375_58 N (F375_58 N k) x
noncomputable def C375_58 (N : Nat) (k : Nat) : Cut := L375_58.cut (F375_58 N k)
theorem C375_58_ok (N : Nat) (k : Nat) : CutAt Tryz.prog false Tryz.f375 [] 58 (C375_58 N k) :=
  L375_58.loopT ownT mix (tab375_ok N) Tryz.f375 [] (cuts := []) trivial (by decide +kernel) (by kernel_rfl) (B375_58 N) (F375_58 N) (fun _ => rfl) (fun _ _ => rfl) (fun f x => by kernel_rfl) k
@[reducible] def w375 : List SP := [⟨[.tup [.sl 0, .int .i64]], [.row y4 391]⟩, ⟨[.tup [.ro y4, .int .i64]], []⟩]
noncomputable def F375 (N : Nat) : ((List Int)) → Option (((Int × (List (Int × ((List Int) × Unit)))) ⊕ ((List (Int × ((List Int) × Unit))) × Int)))
  | x0 =>
  Option.bind (F375_58 N N ((↑(List.length x0) : Int), x0, (0 : Int), [])) fun y0 =>
  match y0 with
  | .inl y1 =>
    some (.inl ((y1.1, y1.2)))
  | .inr y1 =>
    Option.bind (F376 N (y1, [])) fun y2 =>
    some (.inr ((y2, (0 : Int))))
noncomputable def T375 (N : Nat) : Pk → Tr Pk := postT frzP (tellS s375 w375 (F375 N))
theorem T375_ok (N : Nat) : FOK Tryz.prog (375) (T375 N) :=
  postT_ok frzP_ok (fn_ok2 ownT mix (tab375_ok N) Tryz.func375 s375 w375 [] (cuts := [(58, C375_58 N N)]) ⟨C375_58_ok N N, trivial⟩ (fun _ => by kernel_rfl) (by decide +kernel) (F375 N) (fun x => by kernel_rfl)) (by decide +kernel)
@[reducible] def s379 : SP := ⟨[.nilsl, .int .i64], []⟩
noncomputable def tab379 (N : Nat) : List (Nat × (Pk → Tr Pk)) := []
theorem tab379_ok (N : Nat) : TabOK Tryz.prog (tab379 N) := trivial
@[reducible] def w379 : List SP := [⟨[.slp 0 (.c 0) (.c 0)], [.row (.int .i64) 3]⟩, ⟨[.sl 0], [.row (.int .i64) 3]⟩]
noncomputable def F379 (N : Nat) : (Int) → Option ((((List Int)) ⊕ ((List Int))))
  | x0 =>
  iteP (decide (x0 < (0 : Int))) (
    none ) (
    iteP (decide (IntKind.wrap IntKind.i64 (x0 - (0 : Int)) > (0 : Int))) (
      iteP (decide ((0 : Int) < IntKind.wrap IntKind.i64 (x0 - (0 : Int)) ∧ IntKind.wrap IntKind.i64 (x0 - (0 : Int)) * (8 : Int) ≤ (140737488355328 : Int) ∧ IntKind.wrap IntKind.i64 (x0 - (0 : Int)) ≤ (140737488355328 : Int))) (
        iteP (decide ((0 : Int) ≤ (0 : Int) ∧ (0 : Int) ≤ (↑(List.length (List.replicate (Int.toNat (IntKind.wrap IntKind.i64 (x0 - (0 : Int)))) (0 : Int))) : Int))) (
          some (.inl (List.replicate (Int.toNat (IntKind.wrap IntKind.i64 (x0 - (0 : Int)))) (0 : Int)))) (
          none )) (
        none )) (
      some (.inr ([]))))
noncomputable def T379 (N : Nat) : Pk → Tr Pk := postT (trimP (Ty.int IntKind.i64) 3) (tellS s379 w379 (F379 N))
theorem T379_ok (N : Nat) : FOK Tryz.prog (379) (T379 N) :=
  postT_ok (trimP_ok _ _) (fn_ok2 ownT mix (tab379_ok N) Tryz.func379 s379 w379 [] (cuts := []) trivial (fun _ => by kernel_rfl) (by decide +kernel) (F379 N) (fun x => by kernel_rfl)) (by decide +kernel)
@[reducible] def s361 : SP := ⟨[.ro (.sl (.int .i64))], []⟩
noncomputable def tab361 (N : Nat) : List (Nat × (Pk → Tr Pk)) := [(379, T379 N)]
theorem tab361_ok (N : Nat) : TabOK Tryz.prog (tab361 N) := ⟨T379_ok N, trivial⟩
@[reducible] def L361_58 : LD := ⟨58, [3, 11, 10, 0, 9], [(.ret, [2]), (.exit 0, [3, 0])], ⟨[.int .i64, .int .i64, .int .i64, .ro (.sl (.int .i64)), .ro (.sl (.int .i64))], []⟩, [(.exit 0, ⟨[.int .i64, .ro (.sl (.int .i64))], []⟩)]⟩
abbrev P361_58 : Type := Int × Int × Int × (List (List Int)) × (List (List Int))
abbrev R361_58 : Type := Int × (List (List Int))
noncomputable def B361_58 (N : Nat) (f : P361_58 → Option R361_58) : P361_58 → Option R361_58
  | (x0, x1, x2, x3, x4) =>
  iteP (decide (x1 < x2)) (
    iteP (within x1 (List.length x4)) (
      Option.bind (x4[Int.toNat x1]?) fun y0 =>
      iteP (decide (IntKind.wrap IntKind.i64 (x0 + (↑(List.length y0) : Int)) < (0 : Int))) (
        none ) (
        Option.bind (f (IntKind.wrap IntKind.i64 (x0 + (↑(List.length y0) : Int)), IntKind.wrap IntKind.i64 (x1 + (1 : Int)), x2, x3, x4)) fun r => some r)) (
      none )) (
    some ((x0, x3)))
noncomputable def F361_58 (N : Nat) : Nat → P361_58 → Option R361_58
  | 0, _ => none
  | k + 1, x => B361_58 N (F361_58 N k) x
noncomputable def C361_58 (N : Nat) (k : Nat) : Cut := L361_58.cut (F361_58 N k)
theorem C361_58_ok (N : Nat) (k : Nat) : CutAt Tryz.prog false Tryz.f361 [] 58 (C361_58 N k) :=
  L361_58.loopT ownT mix (tab361_ok N) Tryz.f361 [] (cuts := []) trivial (by decide +kernel) (by kernel_rfl) (B361_58 N) (F361_58 N) (fun _ => rfl) (fun _ _ => rfl) (fun f x => by kernel_rfl) k
@[reducible] def L361_250 : LD := ⟨250, [6, 27, 26, 25], [(.ret, [2]), (.exit 2, [6])], ⟨[.sl 0, .int .i64, .int .i64, .ro (.sl (.int .i64))], [.row (.int .i64) 3]⟩, [(.exit 2, ⟨[.sl 0], [.row (.int .i64) 3]⟩)]⟩
abbrev P361_250 : Type := Int × Int × (List (List Int)) × (List Int)
abbrev R361_250 : Type := (List Int)
noncomputable def B361_250 (N : Nat) (f : P361_250 → Option R361_250) : P361_250 → Option R361_250
  | (x0, x1, x2, x3) =>
  iteP (decide (x0 < x1)) (
    iteP (within x0 (List.length x2)) (
      Option.bind (x2[Int.toNat x0]?) fun y0 =>
      iteP (decide ((List.length x3 + List.length y0) * (8 : Nat) ≤ (140737488355328 : Nat) ∧ List.length x3 + List.length y0 ≤ (140737488355328 : Nat))) (
        Option.bind (f (IntKind.wrap IntKind.i64 (x0 + (1 : Int)), x1, x2, x3 ++ y0)) fun r => some r) (
        none )) (
      none )) (
    some (x3))
noncomputable def F361_250 (N : Nat) : Nat → P361_250 → Option R361_250
  | 0, _ => none
  | k + 1, x => B361_250 N (F361_250 N k) x
noncomputable def C361_250 (N : Nat) (k : Nat) : Cut := L361_250.cut (F361_250 N k)
theorem C361_250_ok (N : Nat) (k : Nat) : CutAt Tryz.prog false Tryz.f361 [] 250 (C361_250 N k) :=
  L361_250.loopT ownT mix (tab361_ok N) Tryz.f361 [] (cuts := [(58, C361_58 N N)]) ⟨C361_58_ok N N, trivial⟩ (by decide +kernel) (by kernel_rfl) (B361_250 N) (F361_250 N) (fun _ => rfl) (fun _ _ => rfl) (fun f x => by kernel_rfl) k
@[reducible] def w361 : List SP := [⟨[.sl 0], [.row (.int .i64) 3]⟩]
noncomputable def F361 (N : Nat) : ((List (List Int))) → Option ((List Int))
  | x0 =>
  Option.bind (F361_58 N N ((0 : Int), (0 : Int), (↑(List.length x0) : Int), x0, x0)) fun y0 =>
  Option.bind (F379 N y0.1) fun y1 =>
  match y1 with
  | .inl y2 =>
    Option.bind (F361_250 N N ((0 : Int), (↑(List.length y0.2) : Int), y0.2, [])) fun y3 =>
    some (y3)
  | .inr y2 =>
    Option.bind (F361_250 N N ((0 : Int), (↑(List.length y0.2) : Int), y0.2, y2)) fun y4 =>
    some (y4)
noncomputable def T361 (N : Nat) : Pk → Tr Pk := tellS s361 w361 (F361 N)
theorem T361_ok (N : Nat) : FOK Tryz.prog (361) (T361 N) :=
  (fn_ok2 ownT mix (tab361_ok N) Tryz.func361 s361 w361 [] (cuts := [(58, C361_58 N N), (250, C361_250 N N)]) ⟨C361_58_ok N N, C361_250_ok N N, trivial⟩ (fun _ => by kernel_rfl) (by decide +kernel) (F361 N) (fun x => by kernel_rfl))
@[reducible] def s377 : SP := ⟨[.ro y4], []⟩
noncomputable def tab377 (N : Nat) : List (Nat × (Pk → Tr Pk)) := [(361, T361 N)]
theorem tab377_ok (N : Nat) : TabOK Tryz.prog (tab377 N) := ⟨T361_ok N, trivial⟩
@[reducible] def L377_58 : LD := ⟨58, [3, 4, 0], [(.ret, [2]), (.exit 0, [3])], ⟨[.sl 0, .int .i64, .ro y4], [.row y4 391]⟩, [(.exit 0, ⟨[.sl 0], [.row y4 391]⟩)]⟩
abbrev P377_58 : Type := Int × (List (Int × ((List Int) × Unit))) × (List (Int × ((List Int) × Unit)))
abbrev R377_58 : Type := (List (Int × ((List Int) × Unit)))
noncomputable def B377_58 (N : Nat) (f : P377_58 → Option R377_58) : P377_58 → Option R377_58
  | (x0, x1, x2) =>
  iteP (decide (IntKind.wrap IntKind.i64 (x0 + (1 : Int)) < (↑(List.length x1) : Int))) (
    iteP (within x0 (List.length x1)) (
      Option.bind (x1[Int.toNat x0]?) fun y0 =>
      iteP (within (IntKind.wrap IntKind.i64 (x0 + (1 : Int))) (List.length x1)) (
        Option.bind (x1[Int.toNat (IntKind.wrap IntKind.i64 (x0 + (1 : Int)))]?) fun y1 =>
        iteP (within x0 (List.length x1)) (
          Option.bind (x1[Int.toNat x0]?) fun y2 =>
          iteP (within (IntKind.wrap IntKind.i64 (x0 + (1 : Int))) (List.length x1)) (
            Option.bind (x1[Int.toNat (IntKind.wrap IntKind.i64 (x0 + (1 : Int)))]?) fun y3 =>
            Option.bind (F361 N [y2.2.1, y3.2.1]) fun y4 =>
            iteP (decide ((List.length x2 + List.length [(IntKind.wrap IntKind.i64 (y0.1 + y1.1), y4, ())]) * (32 : Nat) ≤ (140737488355328 : Nat) ∧ List.length x2 + List.length [(IntKind.wrap IntKind.i64 (y0.1 + y1.1), y4, ())] ≤ (140737488355328 : Nat))) (
              Option.bind (f (IntKind.wrap IntKind.i64 (x0 + (2 : Int)), x1, x2 ++ [(IntKind.wrap IntKind.i64 (y0.1 + y1.1), y4, ())])) fun r => some r) (
              none )) (
            none )) (
          none )) (
        none )) (
      none )) (
    some (x2))
noncomputable def F377_58 (N : Nat) : Nat → P377_58 → Option R377_58
  | 0, _ => none
  | k + 1, x => B377_58 N (F377_58 N k) x
noncomputable def C377_58 (N : Nat) (k : Nat) : Cut := L377_58.cut (F377_58 N k)
theorem C377_58_ok (N : Nat) (k : Nat) : CutAt Tryz.prog false Tryz.f377 [] 58 (C377_58 N k) :=
  L377_58.loopT ownT mix (tab377_ok N) Tryz.f377 [] (cuts := []) trivial (by decide +kernel) (by kernel_rfl) (B377_58 N) (F377_58 N) (fun _ => rfl) (fun _ _ => rfl) (fun f x => by kernel_rfl) k
@[reducible] def w377 : List SP := [⟨[.sl 0], [.row y4 391]⟩]
noncomputable def F377 (N : Nat) : ((List (Int × ((List Int) × Unit)))) → Option ((List (Int × ((List Int) × Unit))))
  | x0 =>
  Option.bind (F377_58 N N ((0 : Int), x0, [])) fun y0 =>
  some (y0)
noncomputable def T377 (N : Nat) : Pk → Tr Pk := postT frzP (tellS s377 w377 (F377 N))
theorem T377_ok (N : Nat) : FOK Tryz.prog (377) (T377 N) :=
  postT_ok frzP_ok (fn_ok2 ownT mix (tab377_ok N) Tryz.func377 s377 w377 [] (cuts := [(58, C377_58 N N)]) ⟨C377_58_ok N N, trivial⟩ (fun _ => by kernel_rfl) (by decide +kernel) (F377 N) (fun x => by kernel_rfl)) (by decide +kernel)
@[reducible] def s358 : SP := ⟨[.ro (.int .i64), .int .i64], []⟩
noncomputable def tab358 (N : Nat) : List (Nat × (Pk → Tr Pk)) := [(375, T375 N), (377, T377 N), (376, T376 N)]
theorem tab358_ok (N : Nat) : TabOK Tryz.prog (tab358 N) := ⟨T375_ok N, T377_ok N, T376_ok N, trivial⟩
@[reducible] def L358_4090 : LD := ⟨4090, [9, 61, 60, 8, 6], [(.ret, [4, 5]), (.exit 1, [9, 6, 8])], ⟨[.ro y4, .int .i64, .int .i64, .sl 0, .ro y4], [.row (.int .i64) 3]⟩, [(.exit 1, ⟨[.ro y4, .ro y4, .sl 0], [.row (.int .i64) 3]⟩)]⟩
abbrev P358_4090 : Type := (List (Int × ((List Int) × Unit))) × Int × Int × (List (Int × ((List Int) × Unit))) × (List Int)
abbrev R358_4090 : Type := (List (Int × ((List Int) × Unit))) × (List (Int × ((List Int) × Unit))) × (List Int)
noncomputable def B358_4090 (N : Nat) (f : P358_4090 → Option R358_4090) : P358_4090 → Option R358_4090
  | (x0, x1, x2, x3, x4) =>
  iteP (decide (x1 < x2)) (
    Option.bind (F377 N x0) fun y0 =>
    Option.bind (F376 N (x3, y0)) fun y1 =>
    Option.bind (f (y1, IntKind.wrap IntKind.i64 (x1 + (1 : Int)), x2, x3, x4)) fun r => some r) (
    some ((x0, x3, x4)))
noncomputable def F358_4090 (N : Nat) : Nat → P358_4090 → Option R358_4090
  | 0, _ => none
  | k + 1, x => B358_4090 N (F358_4090 N k) x
noncomputable def C358_4090 (N : Nat) (k : Nat) : Cut := L358_4090.cut (F358_4090 N k)
theorem C358_4090_ok (N : Nat) (k : Nat) : CutAt Tryz.prog false Tryz.f358 [] 4090 (C358_4090 N k) :=
  L358_4090.loopT ownT mix (tab358_ok N) Tryz.f358 [] (cuts := []) trivial (by decide +kernel) (by kernel_rfl) (B358_4090 N) (F358_4090 N) (fun _ => rfl) (fun _ _ => rfl) (fun f x => by kernel_rfl) k
@[reducible] def L358_2095718 : LD := ⟨2095718, [82, 81, 73, 74, 75, 80, 8], [(.ret, [4, 5]), (.exit 5, [75, 74, 73, 8]), (.exit 4, [75, 74, 73, 8]), (.exit 3, [8])], ⟨[.int .i64, .int .i64, .ro y4, .int .i64, .int .i64, .ro (.int .i64), .sl 0], [.row (.int .i64) 3]⟩, [(.exit 5, ⟨[.int .i64, .int .i64, .ro y4, .sl 0], [.row (.int .i64) 3]⟩)]⟩
abbrev P358_2095718 : Type := Int × Int × (List (Int × ((List Int) × Unit))) × Int × Int × (List Int) × (List Int)
abbrev R358_2095718 : Type := Int × Int × (List (Int × ((List Int) × Unit))) × (List Int)
noncomputable def B358_2095718 (N : Nat) (f : P358_2095718 → Option R358_2095718) : P358_2095718 → Option R358_2095718
  | (x0, x1, x2, x3, x4, x5, x6) =>
  iteP (decide (x0 < x1)) (
    iteP (within x0 (List.length x5)) (
      Option.bind (x5[Int.toNat x0]?) fun y0 =>
      iteP (within y0 (List.length x6)) (
        Option.bind (x6[Int.toNat y0]?) fun y1 =>
        iteP (within y0 (List.length x6)) (
          Option.bind (x6[Int.toNat y0]?) fun y2 =>
          Option.bind (f (IntKind.wrap IntKind.i64 (x0 + (1 : Int)), x1, x2, x3, x4, x5, List.set x6 (Int.toNat y0) (IntKind.wrap IntKind.i64 (y1 + (1 : Int))))) fun r => some r) (
          none )) (
        none )) (
      none )) (
    some ((x4, x3, x2, x6)))
noncomputable def F358_2095718 (N : Nat) : Nat → P358_2095718 → Option R358_2095718
  | 0, _ => none
  | k + 1, x => B358_2095718 N (F358_2095718 N k) x
noncomputable def C358_2095718 (N : Nat) (k : Nat) : Cut := L358_2095718.cut (F358_2095718 N k)
theorem C358_2095718_ok (N : Nat) (k : Nat) : CutAt Tryz.prog false Tryz.f358 [] 2095718 (C358_2095718 N k) :=
  L358_2095718.loopT ownT mix (tab358_ok N) Tryz.f358 [] (cuts := [(4090, C358_4090 N N)]) ⟨C358_4090_ok N N, trivial⟩ (by decide +kernel) (by kernel_rfl) (B358_2095718 N) (F358_2095718 N) (fun _ => rfl) (fun _ _ => rfl) (fun f x => by kernel_rfl) k
@[reducible] def L358_8186 : LD := ⟨8186, [74, 73, 75, 8], [(.ret, [4, 5]), (.exit 3, [8])], ⟨[.int .i64, .ro y4, .int .i64, .sl 0], [.row (.int .i64) 3]⟩, [(.exit 3, ⟨[.sl 0], [.row (.int .i64) 3]⟩)]⟩
abbrev P358_8186 : Type := Int × (List (Int × ((List Int) × Unit))) × Int × (List Int)
abbrev R358_8186 : Type := (List Int)
noncomputable def B358_8186 (N : Nat) (f : P358_8186 → Option R358_8186) : P358_8186 → Option R358_8186
  | (x0, x1, x2, x3) =>
  iteP (decide (x2 < x0)) (
    iteP (within x2 (List.length x1)) (
      Option.bind (x1[Int.toNat x2]?) fun y0 =>
      Option.bind (F358_2095718 N N ((0 : Int), (↑(List.length y0.2.1) : Int), x1, x0, x2, y0.2.1, x3)) fun y1 =>
      Option.bind (f (y1.2.1, y1.2.2.1, IntKind.wrap IntKind.i64 (y1.1 + (1 : Int)), y1.2.2.2)) fun r => some r) (
      none )) (
    some (x3))
noncomputable def F358_8186 (N : Nat) : Nat → P358_8186 → Option R358_8186
  | 0, _ => none
  | k + 1, x => B358_8186 N (F358_8186 N k) x
noncomputable def C358_8186 (N : Nat) (k : Nat) : Cut := L358_8186.cut (F358_8186 N k)
theorem C358_8186_ok (N : Nat) (k : Nat) : CutAt Tryz.prog false Tryz.f358 [] 8186 (C358_8186 N k) :=
  L358_8186.loopT ownT mix (tab358_ok N) Tryz.f358 [] (cuts := [(4090, C358_4090 N N), (2095718, C358_2095718 N N)]) ⟨C358_4090_ok N N, C358_2095718_ok N N, trivial⟩ (by decide +kernel) (by kernel_rfl) (B358_8186 N) (F358_8186 N) (fun _ => rfl) (fun _ _ => rfl) (fun f x => by kernel_rfl) k
@[reducible] def L358_7 : LD := ⟨7, [0, 1], [(.ret, [4, 5]), (.normal, [4, 5])], ⟨[.ro (.int .i64), .int .i64], []⟩, [(.ret, ⟨[.sl 0, .int .i64], [.row (.int .i64) 3]⟩)]⟩
noncomputable def F358_7 (N : Nat) : ((List Int) × Int) → Option (Int × (List Int))
  | (x0, x1) =>
  Option.bind (F375 N x0) fun y0 =>
  match y0 with
  | .inl y1 =>
    iteP (y1.1 != (0 : Int)) (
      some ((y1.1, []))) (
      iteP (decide (x1 < (0 : Int))) (
        none ) (
        iteP (decide ((↑(List.length y1.2) : Int) > IntKind.wrap IntKind.i64 ((1 : Int) * (2 : Int) ^ min (Int.toNat x1) (64 : Nat)))) (
          some (((50 : Int), []))) (
          iteP (decide ((0 : Int) ≤ (↑(List.length x0) : Int) ∧ (↑(List.length x0) : Int) ≤ (↑(List.length x0) : Int) ∧ (↑(List.length x0) : Int) * (8 : Int) ≤ (140737488355328 : Int) ∧ (↑(List.length x0) : Int) ≤ (140737488355328 : Int))) (
            iteP ((↑(List.length y1.2) : Int) == (1 : Int)) (
              iteP (within (0 : Int) (List.length y1.2)) (
                Option.bind (y1.2[(0 : Nat)]?) fun y2 =>
                iteP (within (0 : Int) (List.length y2.2.1)) (
                  Option.bind (y2.2.1[(0 : Nat)]?) fun y3 =>
                  iteP (within y3 (List.length (List.replicate (Int.toNat (↑(List.length x0) : Int)) (0 : Int)))) (
                    Option.bind ((List.replicate (Int.toNat (↑(List.length x0) : Int)) (0 : Int))[Int.toNat y3]?) fun y4 =>
                    iteP (decide ((↑(List.length y1.2) : Int) < (2 : Int))) (
                      some (((0 : Int), List.set (List.replicate (Int.toNat (↑(List.length x0) : Int)) (0 : Int)) (Int.toNat y3) (1 : Int)))) (
                      Option.bind (F358_4090 N N (y1.2, (0 : Int), IntKind.wrap IntKind.i64 (x1 - (1 : Int)), y1.2, List.set (List.replicate (Int.toNat (↑(List.length x0) : Int)) (0 : Int)) (Int.toNat y3) (1 : Int))) fun y5 =>
                      iteP (decide ((0 : Int) ≤ IntKind.wrap IntKind.i64 (IntKind.wrap IntKind.i64 ((2 : Int) * (↑(List.length y5.2.1) : Int)) - (2 : Int)) ∧ IntKind.wrap IntKind.i64 (IntKind.wrap IntKind.i64 ((2 : Int) * (↑(List.length y5.2.1) : Int)) - (2 : Int)) ≤ (↑(List.length y5.1) : Int))) (
                        Option.bind (F358_8186 N N ((↑(List.length (List.take (Int.toNat (IntKind.wrap IntKind.i64 (IntKind.wrap IntKind.i64 ((2 : Int) * (↑(List.length y5.2.1) : Int)) - (2 : Int))) - (0 : Nat)) (List.drop (0 : Nat) y5.1))) : Int), List.take (Int.toNat (IntKind.wrap IntKind.i64 (IntKind.wrap IntKind.i64 ((2 : Int) * (↑(List.length y5.2.1) : Int)) - (2 : Int))) - (0 : Nat)) (List.drop (0 : Nat) y5.1), (0 : Int), y5.2.2)) fun y6 =>
                        some (((0 : Int), y6))) (
                        none ))) (
                    none )) (
                  none )) (
                none )) (
              iteP (decide ((↑(List.length y1.2) : Int) < (2 : Int))) (
                some (((0 : Int), List.replicate (Int.toNat (↑(List.length x0) : Int)) (0 : Int)))) (
                Option.bind (F358_4090 N N (y1.2, (0 : Int), IntKind.wrap IntKind.i64 (x1 - (1 : Int)), y1.2, List.replicate (Int.toNat (↑(List.length x0) : Int)) (0 : Int))) fun y7 =>
                iteP (decide ((0 : Int) ≤ IntKind.wrap IntKind.i64 (IntKind.wrap IntKind.i64 ((2 : Int) * (↑(List.length y7.2.1) : Int)) - (2 : Int)) ∧ IntKind.wrap IntKind.i64 (IntKind.wrap IntKind.i64 ((2 : Int) * (↑(List.length y7.2.1) : Int)) - (2 : Int)) ≤ (↑(List.length y7.1) : Int))) (
                  Option.bind (F358_8186 N N ((↑(List.length (List.take (Int.toNat (IntKind.wrap IntKind.i64 (IntKind.wrap IntKind.i64 ((2 : Int) * (↑(List.length y7.2.1) : Int)) - (2 : Int))) - (0 : Nat)) (List.drop (0 : Nat) y7.1))) : Int), List.take (Int.toNat (IntKind.wrap IntKind.i64 (IntKind.wrap IntKind.i64 ((2 : Int) * (↑(List.length y7.2.1) : Int)) - (2 : Int))) - (0 : Nat)) (List.drop (0 : Nat) y7.1), (0 : Int), y7.2.2)) fun y8 =>
                  some (((0 : Int), y8))) (
                  none )))) (
            none ))))
  | .inr y1 =>
    iteP (y1.2 != (0 : Int)) (
      some ((y1.2, []))) (
      iteP (decide (x1 < (0 : Int))) (
        none ) (
        iteP (decide ((↑(List.length y1.1) : Int) > IntKind.wrap IntKind.i64 ((1 : Int) * (2 : Int) ^ min (Int.toNat x1) (64 : Nat)))) (
          some (((50 : Int), []))) (
          iteP (decide ((0 : Int) ≤ (↑(List.length x0) : Int) ∧ (↑(List.length x0) : Int) ≤ (↑(List.length x0) : Int) ∧ (↑(List.length x0) : Int) * (8 : Int) ≤ (140737488355328 : Int) ∧ (↑(List.length x0) : Int) ≤ (140737488355328 : Int))) (
            iteP ((↑(List.length y1.1) : Int) == (1 : Int)) (
              iteP (within (0 : Int) (List.length y1.1)) (
                Option.bind (y1.1[(0 : Nat)]?) fun y9 =>
                iteP (within (0 : Int) (List.length y9.2.1)) (
                  Option.bind (y9.2.1[(0 : Nat)]?) fun y10 =>
                  iteP (within y10 (List.length (List.replicate (Int.toNat (↑(List.length x0) : Int)) (0 : Int)))) (
                    Option.bind ((List.replicate (Int.toNat (↑(List.length x0) : Int)) (0 : Int))[Int.toNat y10]?) fun y11 =>
                    iteP (decide ((↑(List.length y1.1) : Int) < (2 : Int))) (
                      some (((0 : Int), List.set (List.replicate (Int.toNat (↑(List.length x0) : Int)) (0 : Int)) (Int.toNat y10) (1 : Int)))) (
                      Option.bind (F358_4090 N N (y1.1, (0 : Int), IntKind.wrap IntKind.i64 (x1 - (1 : Int)), y1.1, List.set (List.replicate (Int.toNat (↑(List.length x0) : Int)) (0 : Int)) (Int.toNat y10) (1 : Int))) fun y12 =>
                      iteP (decide ((0 : Int) ≤ IntKind.wrap IntKind.i64 (IntKind.wrap IntKind.i64 ((2 : Int) * (↑(List.length y12.2.1) : Int)) - (2 : Int)) ∧ IntKind.wrap IntKind.i64 (IntKind.wrap IntKind.i64 ((2 : Int) * (↑(List.length y12.2.1) : Int)) - (2 : Int)) ≤ (↑(List.length y12.1) : Int))) (
                        Option.bind (F358_8186 N N ((↑(List.length (List.take (Int.toNat (IntKind.wrap IntKind.i64 (IntKind.wrap IntKind.i64 ((2 : Int) * (↑(List.length y12.2.1) : Int)) - (2 : Int))) - (0 : Nat)) (List.drop (0 : Nat) y12.1))) : Int), List.take (Int.toNat (IntKind.wrap IntKind.i64 (IntKind.wrap IntKind.i64 ((2 : Int) * (↑(List.length y12.2.1) : Int)) - (2 : Int))) - (0 : Nat)) (List.drop (0 : Nat) y12.1), (0 : Int), y12.2.2)) fun y13 =>
                        some (((0 : Int), y13))) (
                        none ))) (
                    none )) (
                  none )) (
                none )) (
              iteP (decide ((↑(List.length y1.1) : Int) < (2 : Int))) (
                some (((0 : Int), List.replicate (Int.toNat (↑(List.length x0) : Int)) (0 : Int)))) (
                Option.bind (F358_4090 N N (y1.1, (0 : Int), IntKind.wrap IntKind.i64 (x1 - (1 : Int)), y1.1, List.replicate (Int.toNat (↑(List.length x0) : Int)) (0 : Int))) fun y14 =>
                iteP (decide ((0 : Int) ≤ IntKind.wrap IntKind.i64 (IntKind.wrap IntKind.i64 ((2 : Int) * (↑(List.length y14.2.1) : Int)) - (2 : Int)) ∧ IntKind.wrap IntKind.i64 (IntKind.wrap IntKind.i64 ((2 : Int) * (↑(List.length y14.2.1) : Int)) - (2 : Int)) ≤ (↑(List.length y14.1) : Int))) (
                  Option.bind (F358_8186 N N ((↑(List.length (List.take (Int.toNat (IntKind.wrap IntKind.i64 (IntKind.wrap IntKind.i64 ((2 : Int) * (↑(List.length y14.2.1) : Int)) - (2 : Int))) - (0 : Nat)) (List.drop (0 : Nat) y14.1))) : Int), List.take (Int.toNat (IntKind.wrap IntKind.i64 (IntKind.wrap IntKind.i64 ((2 : Int) * (↑(List.length y14.2.1) : Int)) - (2 : Int))) - (0 : Nat)) (List.drop (0 : Nat) y14.1), (0 : Int), y14.2.2)) fun y15 =>
                  some (((0 : Int), y15))) (
                  none )))) (
            none ))))
noncomputable def C358_7 (N : Nat) (_ : Nat) : Cut := L358_7.cut (F358_7 N)
theorem C358_7_ok (N : Nat) (k : Nat) : CutAt Tryz.prog false Tryz.f358 [] 7 (C358_7 N k) :=
  L358_7.pieceT ownT mix (tab358_ok N) Tryz.f358 [] (cuts := [(4090, C358_4090 N N), (2095718, C358_2095718 N N), (8186, C358_8186 N N)]) ⟨C358_4090_ok N N, C358_2095718_ok N N, C358_8186_ok N N, trivial⟩ (by decide +kernel) (by kernel_rfl) (F358_7 N) (fun x => by kernel_rfl)
@[reducible] def w358 : List SP := [⟨[.tup [.sl 0, .int .i64]], [.row (.int .i64) 3]⟩]
noncomputable def F358 (N : Nat) : ((List Int) × Int) → Option (Int × (List Int))
  | (x0, x1) =>
  iteP (decide ((↑(List.length x0) : Int) > (320 : Int))) (
    some (((1 : Int), []))) (
    iteP (decide (x1 < (1 : Int))) (
      some (((1 : Int), []))) (
      iteP (decide (x1 > (15 : Int))) (
        some (((1 : Int), []))) (
        Option.bind (F358_7 N (x0, x1)) fun y0 =>
        some ((y0.1, y0.2)))))
noncomputable def T358 (N : Nat) : Pk → Tr Pk := tellS s358 w358 (F358 N)
theorem T358_ok (N : Nat) : FOK Tryz.prog (358) (T358 N) :=
  (fn_ok2 ownT mix (tab358_ok N) Tryz.func358 s358 w358 [] (cuts := [(4090, C358_4090 N N), (2095718, C358_2095718 N N), (8186, C358_8186 N N), (7, C358_7 N N)]) ⟨C358_4090_ok N N, C358_2095718_ok N N, C358_8186_ok N N, C358_7_ok N N, trivial⟩ (fun _ => by kernel_rfl) (by decide +kernel) (F358 N) (fun x => by kernel_rfl))
@[reducible] def s340 : SP := ⟨[.ro (.int .i64)], []⟩
noncomputable def tab340 (N : Nat) : List (Nat × (Pk → Tr Pk)) := [(358, T358 N)]
theorem tab340_ok (N : Nat) : TabOK Tryz.prog (tab340 N) := ⟨T358_ok N, trivial⟩
@[reducible] def w340 : List SP := [⟨[.sl 0], [.row (.int .i64) 3]⟩]
noncomputable def F340 (N : Nat) : ((List Int)) → Option ((List Int))
  | x0 =>
  Option.bind (F358 N (x0, (15 : Int))) fun y0 =>
  some y0.2
noncomputable def T340 (N : Nat) : Pk → Tr Pk := tellS s340 w340 (F340 N)
theorem T340_ok (N : Nat) : FOK Tryz.prog (340) (T340 N) :=
  (fn_ok2 ownT mix (tab340_ok N) Tryz.func340 s340 w340 [] (cuts := []) trivial (fun _ => by kernel_rfl) (by decide +kernel) (F340 N) (fun x => by kernel_rfl))
@[reducible] def s339 : SP := ⟨[.ro (.int .i64), .int .i64], []⟩
noncomputable def tab339 (N : Nat) : List (Nat × (Pk → Tr Pk)) := []
theorem tab339_ok (N : Nat) : TabOK Tryz.prog (tab339 N) := trivial
@[reducible] def L339_28 : LD := ⟨28, [5, 1, 0], [(.ret, [4]), (.exit 0, [0, 5])], ⟨[.int .i64, .int .i64, .ro (.int .i64)], []⟩, [(.exit 0, ⟨[.ro (.int .i64), .int .i64], []⟩)]⟩
abbrev P339_28 : Type := Int × Int × (List Int)
abbrev R339_28 : Type := (List Int) × Int
noncomputable def B339_28 (N : Nat) (f : P339_28 → Option R339_28) : P339_28 → Option R339_28
  | (x0, x1, x2) =>
  iteP (decide (x0 > x1)) (
    iteP (within (IntKind.wrap IntKind.i64 (x0 - (1 : Int))) (List.length x2)) (
      Option.bind (x2[Int.toNat (IntKind.wrap IntKind.i64 (x0 - (1 : Int)))]?) fun y0 =>
      iteP (y0 == (0 : Int)) (
        Option.bind (f (IntKind.wrap IntKind.i64 (x0 - (1 : Int)), x1, x2)) fun r => some r) (
        some ((x2, x0)))) (
      none )) (
    some ((x2, x0)))
noncomputable def F339_28 (N : Nat) : Nat → P339_28 → Option R339_28
  | 0, _ => none
  | k + 1, x => B339_28 N (F339_28 N k) x
noncomputable def C339_28 (N : Nat) (k : Nat) : Cut := L339_28.cut (F339_28 N k)
theorem C339_28_ok (N : Nat) (k : Nat) : CutAt Tryz.prog false Tryz.f339 [] 28 (C339_28 N k) :=
  L339_28.loopT ownT mix (tab339_ok N) Tryz.f339 [] (cuts := []) trivial (by decide +kernel) (by kernel_rfl) (B339_28 N) (F339_28 N) (fun _ => rfl) (fun _ _ => rfl) (fun f x => by kernel_rfl) k
@[reducible] def w339 : List SP := [⟨[.ro (.int .i64)], []⟩]
noncomputable def F339 (N : Nat) : ((List Int) × Int) → Option ((List Int))
  | (x0, x1) =>
  Option.bind (F339_28 N N ((↑(List.length x0) : Int), x1, x0)) fun y0 =>
  iteP (decide ((0 : Int) ≤ y0.2 ∧ y0.2 ≤ (↑(List.length y0.1) : Int))) (
    some (List.take (Int.toNat y0.2 - (0 : Nat)) (List.drop (0 : Nat) y0.1))) (
    none )
noncomputable def T339 (N : Nat) : Pk → Tr Pk := tellS s339 w339 (F339 N)
theorem T339_ok (N : Nat) : FOK Tryz.prog (339) (T339 N) :=
  (fn_ok2 ownT mix (tab339_ok N) Tryz.func339 s339 w339 [] (cuts := [(28, C339_28 N N)]) ⟨C339_28_ok N N, trivial⟩ (fun _ => by kernel_rfl) (by decide +kernel) (F339 N) (fun x => by kernel_rfl))
@[reducible] def s359 : SP := ⟨[.int .i64], []⟩
noncomputable def tab359 (N : Nat) : List (Nat × (Pk → Tr Pk)) := []
theorem tab359_ok (N : Nat) : TabOK Tryz.prog (tab359 N) := trivial
@[reducible] def w359 : List SP := [⟨[.bool], []⟩]
noncomputable def F359 (N : Nat) : (Int) → Option (Bool)
  | x0 =>
  iteP (decide (x0 < (0 : Int))) (
    some (true)) (
    some (decide (x0 > (15 : Int))))
noncomputable def T359 (N : Nat) : Pk → Tr Pk := tellS s359 w359 (F359 N)
theorem T359_ok (N : Nat) : FOK Tryz.prog (359) (T359 N) :=
  (fn_ok2 ownT mix (tab359_ok N) Tryz.func359 s359 w359 [] (cuts := []) trivial (fun _ => by kernel_rfl) (by decide +kernel) (F359 N) (fun x => by kernel_rfl))
@[reducible] def s109 : SP := ⟨[.ro (.int .i64), .fn 359], []⟩
noncomputable def tab109 (N : Nat) : List (Nat × (Pk → Tr Pk)) := [(359, T359 N)]
theorem tab109_ok (N : Nat) : TabOK Tryz.prog (tab109 N) := ⟨T359_ok N, trivial⟩
@[reducible] def L109_26 : LD := ⟨26, [7, 1, 0, 8], [(.ret, [4]), (.exit 0, [])], ⟨[.int .i64, .fn 359, .ro (.int .i64), .int .i64], []⟩, [(.ret, ⟨[.int .i64], []⟩), (.exit 0, ⟨[], []⟩)]⟩
abbrev P109_26 : Type := Int × (List Int) × Int
abbrev R109_26 : Type := ((Int) ⊕ (Unit))
noncomputable def B109_26 (N : Nat) (f : P109_26 → Option R109_26) : P109_26 → Option R109_26
  | (x0, x1, x2) =>
  iteP (decide (x2 < x0)) (
    iteP (within x2 (List.length x1)) (
      Option.bind (x1[Int.toNat x2]?) fun y0 =>
      Option.bind (F359 N y0) fun y1 =>
      iteP (y1) (
        some (.inl (x2))) (
        Option.bind (f (x0, x1, IntKind.wrap IntKind.i64 (x2 + (1 : Int)))) fun r => match r with | .inl y => some (.inl y) | .inr y => some (.inr y))) (
      none )) (
    some (.inr (())))
noncomputable def F109_26 (N : Nat) : Nat → P109_26 → Option R109_26
  | 0, _ => none
  | k + 1, x => B109_26 N (F109_26 N k) x
noncomputable def C109_26 (N : Nat) (k : Nat) : Cut := L109_26.cut (F109_26 N k)
theorem C109_26_ok (N : Nat) (k : Nat) : CutAt Tryz.prog false Tryz.f109 [] 26 (C109_26 N k) :=
  L109_26.loopT ownT mix (tab109_ok N) Tryz.f109 [] (cuts := []) trivial (by decide +kernel) (by kernel_rfl) (B109_26 N) (F109_26 N) (fun _ => rfl) (fun _ _ => rfl) (fun f x => by kernel_rfl) k
@[reducible] def w109 : List SP := [⟨[.int .i64], []⟩]
noncomputable def F109 (N : Nat) : ((List Int)) → Option (Int)
  | x0 =>
  Option.bind (F109_26 N N ((↑(List.length x0) : Int), x0, (0 : Int))) fun y0 =>
  match y0 with
  | .inl y1 =>
    some (y1)
  | .inr y1 =>
    some ((-1 : Int))
noncomputable def T109 (N : Nat) : Pk → Tr Pk := tellS s109 w109 (F109 N)
theorem T109_ok (N : Nat) : FOK Tryz.prog (109) (T109 N) :=
  (fn_ok2 ownT mix (tab109_ok N) Tryz.func109 s109 w109 [] (cuts := [(26, C109_26 N N)]) ⟨C109_26_ok N N, trivial⟩ (fun _ => by kernel_rfl) (by decide +kernel) (F109 N) (fun x => by kernel_rfl))
@[reducible] def s77 : SP := ⟨[.ro (.int .i64), .fn 359], []⟩
noncomputable def tab77 (N : Nat) : List (Nat × (Pk → Tr Pk)) := [(109, T109 N)]
theorem tab77_ok (N : Nat) : TabOK Tryz.prog (tab77 N) := ⟨T109_ok N, trivial⟩
@[reducible] def w77 : List SP := [⟨[.bool], []⟩]
noncomputable def F77 (N : Nat) : ((List Int)) → Option (Bool)
  | x0 =>
  Option.bind (F109 N x0) fun y0 =>
  some (decide (y0 ≥ (0 : Int)))
noncomputable def T77 (N : Nat) : Pk → Tr Pk := tellS s77 w77 (F77 N)
theorem T77_ok (N : Nat) : FOK Tryz.prog (77) (T77 N) :=
  (fn_ok2 ownT mix (tab77_ok N) Tryz.func77 s77 w77 [] (cuts := []) trivial (fun _ => by kernel_rfl) (by decide +kernel) (F77 N) (fun x => by kernel_rfl))
@[reducible] def s378 : SP := ⟨[.ro (.int .i64), .int .i64, .int .i64], []⟩
noncomputable def tab378 (N : Nat) : List (Nat × (Pk → Tr Pk)) := []
theorem tab378_ok (N : Nat) : TabOK Tryz.prog (tab378 N) := trivial
@[reducible] def L378_28 : LD := ⟨28, [7, 2, 0, 1], [(.ret, [6]), (.exit 0, [7])], ⟨[.int .i64, .int .i64, .ro (.int .i64), .int .i64], []⟩, [(.exit 0, ⟨[.int .i64], []⟩)]⟩
abbrev P378_28 : Type := Int × Int × (List Int) × Int
abbrev R378_28 : Type := Int
noncomputable def B378_28 (N : Nat) (f : P378_28 → Option R378_28) : P378_28 → Option R378_28
  | (x0, x1, x2, x3) =>
  iteP (decide (x0 < x1)) (
    iteP (decide (IntKind.wrap IntKind.i64 (x3 + x0) < (↑(List.length x2) : Int))) (
      iteP (within (IntKind.wrap IntKind.i64 (x3 + x0)) (List.length x2)) (
        Option.bind (x2[Int.toNat (IntKind.wrap IntKind.i64 (x3 + x0))]?) fun y0 =>
        iteP (within x3 (List.length x2)) (
          Option.bind (x2[Int.toNat x3]?) fun y1 =>
          iteP (y0 == y1) (
            Option.bind (f (IntKind.wrap IntKind.i64 (x0 + (1 : Int)), x1, x2, x3)) fun r => some r) (
            some (x0))) (
          none )) (
        none )) (
      some (x0))) (
    some (x0))
noncomputable def F378_28 (N : Nat) : Nat → P378_28 → Option R378_28
  | 0, _ => none
  | k + 1, x => B378_28 N (F378_28 N k) x
noncomputable def C378_28 (N : Nat) (k : Nat) : Cut := L378_28.cut (F378_28 N k)
theorem C378_28_ok (N : Nat) (k : Nat) : CutAt Tryz.prog false Tryz.f378 [] 28 (C378_28 N k) :=
  L378_28.loopT ownT mix (tab378_ok N) Tryz.f378 [] (cuts := []) trivial (by decide +kernel) (by kernel_rfl) (B378_28 N) (F378_28 N) (fun _ => rfl) (fun _ _ => rfl) (fun f x => by kernel_rfl) k
@[reducible] def w378 : List SP := [⟨[.int .i64], []⟩]
noncomputable def F378 (N : Nat) : ((List Int) × Int × Int) → Option (Int)
  | (x0, x1, x2) =>
  Option.bind (F378_28 N N ((1 : Int), x2, x0, x1)) fun y0 =>
  some (y0)
noncomputable def T378 (N : Nat) : Pk → Tr Pk := tellS s378 w378 (F378 N)
theorem T378_ok (N : Nat) : FOK Tryz.prog (378) (T378 N) :=
  (fn_ok2 ownT mix (tab378_ok N) Tryz.func378 s378 w378 [] (cuts := [(28, C378_28 N N)]) ⟨C378_28_ok N N, trivial⟩ (fun _ => by kernel_rfl) (by decide +kernel) (F378 N) (fun x => by kernel_rfl))
@[reducible] def s360 : SP := ⟨[.ro (.int .i64)], []⟩
noncomputable def tab360 (N : Nat) : List (Nat × (Pk → Tr Pk)) := [(378, T378 N)]
theorem tab360_ok (N : Nat) : TabOK Tryz.prog (tab360 N) := ⟨T378_ok N, trivial⟩
@[reducible] def L360_29863 : LD := ⟨29863, [37, 3, 4, 5, 0], [(.ret, [2]), (.exit 2, [4, 5, 3, 0]), (.exit 1, [3, 4, 0]), (.exit 0, [3]), (.normal, [4, 5, 3, 0])], ⟨[.bool, .sl 0, .int .i64, .int .i64, .ro (.int .i64)], [.row y3 373]⟩, [(.normal, ⟨[.int .i64, .int .i64, .sl 0, .ro (.int .i64)], [.row y3 373]⟩)]⟩
noncomputable def F360_29863 (N : Nat) : (Bool × Int × Int × (List Int) × (List (Int × (Int × (Int × Unit))))) → Option (Int × Int × (List Int) × (List (Int × (Int × (Int × Unit)))))
  | (x0, x1, x2, x3, x4) =>
  iteP (x0) (
    iteP (decide ((List.length x4 + List.length [((17 : Int), (3 : Int), IntKind.wrap IntKind.i64 (x2 - (3 : Int)), ())]) * (24 : Nat) ≤ (140737488355328 : Nat) ∧ List.length x4 + List.length [((17 : Int), (3 : Int), IntKind.wrap IntKind.i64 (x2 - (3 : Int)), ())] ≤ (140737488355328 : Nat))) (
      some ((x1, x2, x3, x4 ++ [((17 : Int), (3 : Int), IntKind.wrap IntKind.i64 (x2 - (3 : Int)), ())]))) (
      none )) (
    iteP (decide (x1 > (0 : Int))) (
      iteP (within x1 (List.length x3)) (
        Option.bind (x3[Int.toNat x1]?) fun y0 =>
        iteP (within (IntKind.wrap IntKind.i64 (x1 - (1 : Int))) (List.length x3)) (
          Option.bind (x3[Int.toNat (IntKind.wrap IntKind.i64 (x1 - (1 : Int)))]?) fun y1 =>
          iteP (y0 == y1) (
            iteP (decide (x2 > (2 : Int))) (
              iteP (decide ((List.length x4 + List.length [((16 : Int), (2 : Int), IntKind.wrap IntKind.i64 ((if (6 : Int) < x2 then (6 : Int) else x2) - (3 : Int)), ())]) * (24 : Nat) ≤ (140737488355328 : Nat) ∧ List.length x4 + List.length [((16 : Int), (2 : Int), IntKind.wrap IntKind.i64 ((if (6 : Int) < x2 then (6 : Int) else x2) - (3 : Int)), ())] ≤ (140737488355328 : Nat))) (
                some ((x1, if (6 : Int) < x2 then (6 : Int) else x2, x3, x4 ++ [((16 : Int), (2 : Int), IntKind.wrap IntKind.i64 ((if (6 : Int) < x2 then (6 : Int) else x2) - (3 : Int)), ())]))) (
                none )) (
              iteP (within x1 (List.length x3)) (
                Option.bind (x3[Int.toNat x1]?) fun y2 =>
                iteP (decide ((List.length x4 + List.length [(y2, (0 : Int), (0 : Int), ())]) * (24 : Nat) ≤ (140737488355328 : Nat) ∧ List.length x4 + List.length [(y2, (0 : Int), (0 : Int), ())] ≤ (140737488355328 : Nat))) (
                  some ((x1, (1 : Int), x3, x4 ++ [(y2, (0 : Int), (0 : Int), ())]))) (
                  none )) (
                none ))) (
            iteP (within x1 (List.length x3)) (
              Option.bind (x3[Int.toNat x1]?) fun y3 =>
              iteP (decide ((List.length x4 + List.length [(y3, (0 : Int), (0 : Int), ())]) * (24 : Nat) ≤ (140737488355328 : Nat) ∧ List.length x4 + List.length [(y3, (0 : Int), (0 : Int), ())] ≤ (140737488355328 : Nat))) (
                some ((x1, (1 : Int), x3, x4 ++ [(y3, (0 : Int), (0 : Int), ())]))) (
                none )) (
              none ))) (
          none )) (
        none )) (
      iteP (within x1 (List.length x3)) (
        Option.bind (x3[Int.toNat x1]?) fun y4 =>
        iteP (decide ((List.length x4 + List.length [(y4, (0 : Int), (0 : Int), ())]) * (24 : Nat) ≤ (140737488355328 : Nat) ∧ List.length x4 + List.length [(y4, (0 : Int), (0 : Int), ())] ≤ (140737488355328 : Nat))) (
          some ((x1, (1 : Int), x3, x4 ++ [(y4, (0 : Int), (0 : Int), ())]))) (
          none )) (
        none )))
noncomputable def C360_29863 (N : Nat) (_ : Nat) : Cut := L360_29863.cut (F360_29863 N)
theorem C360_29863_ok (N : Nat) (k : Nat) : CutAt Tryz.prog false Tryz.f360 [] 29863 (C360_29863 N k) :=
  L360_29863.pieceT ownT mix (tab360_ok N) Tryz.f360 [] (cuts := []) trivial (by decide +kernel) (by kernel_rfl) (F360_29863 N) (fun x => by kernel_rfl)
@[reducible] def L360_7465 : LD := ⟨7465, [21, 3, 4, 5, 0], [(.ret, [2]), (.exit 2, [4, 5, 3, 0]), (.exit 1, [3, 4, 0]), (.exit 0, [3]), (.normal, [4, 5, 3, 0])], ⟨[.bool, .sl 0, .int .i64, .int .i64, .ro (.int .i64)], [.row y3 373]⟩, [(.normal, ⟨[.int .i64, .int .i64, .sl 0, .ro (.int .i64)], [.row y3 373]⟩)]⟩
noncomputable def F360_7465 (N : Nat) : (Bool × Int × Int × (List Int) × (List (Int × (Int × (Int × Unit))))) → Option (Int × Int × (List Int) × (List (Int × (Int × (Int × Unit)))))
  | (x0, x1, x2, x3, x4) =>
  iteP (x0) (
    iteP (decide ((List.length x4 + List.length [((18 : Int), (7 : Int), IntKind.wrap IntKind.i64 (x2 - (11 : Int)), ())]) * (24 : Nat) ≤ (140737488355328 : Nat) ∧ List.length x4 + List.length [((18 : Int), (7 : Int), IntKind.wrap IntKind.i64 (x2 - (11 : Int)), ())] ≤ (140737488355328 : Nat))) (
      some ((x1, x2, x3, x4 ++ [((18 : Int), (7 : Int), IntKind.wrap IntKind.i64 (x2 - (11 : Int)), ())]))) (
      none )) (
    iteP (within x1 (List.length x3)) (
      Option.bind (x3[Int.toNat x1]?) fun y0 =>
      iteP (y0 == (0 : Int)) (
        Option.bind (F360_29863 N (decide (x2 > (2 : Int)), x1, x2, x3, x4)) fun y1 =>
        some ((y1.1, y1.2.1, y1.2.2.1, y1.2.2.2))) (
        Option.bind (F360_29863 N (false, x1, x2, x3, x4)) fun y2 =>
        some ((y2.1, y2.2.1, y2.2.2.1, y2.2.2.2)))) (
      none ))
noncomputable def C360_7465 (N : Nat) (_ : Nat) : Cut := L360_7465.cut (F360_7465 N)
theorem C360_7465_ok (N : Nat) (k : Nat) : CutAt Tryz.prog false Tryz.f360 [] 7465 (C360_7465 N k) :=
  L360_7465.pieceT ownT mix (tab360_ok N) Tryz.f360 [] (cuts := [(29863, C360_29863 N N)]) ⟨C360_29863_ok N N, trivial⟩ (by decide +kernel) (by kernel_rfl) (F360_7465 N) (fun x => by kernel_rfl)
@[reducible] def L360_58 : LD := ⟨58, [3, 4, 0], [(.ret, [2]), (.exit 0, [3])], ⟨[.sl 0, .int .i64, .ro (.int .i64)], [.row y3 373]⟩, [(.exit 0, ⟨[.sl 0], [.row y3 373]⟩)]⟩
abbrev P360_58 : Type := Int × (List Int) × (List (Int × (Int × (Int × Unit))))
abbrev R360_58 : Type := (List (Int × (Int × (Int × Unit))))
noncomputable def B360_58 (N : Nat) (f : P360_58 → Option R360_58) : P360_58 → Option R360_58
  | (x0, x1, x2) =>
  iteP (decide (x0 < (↑(List.length x1) : Int))) (
    Option.bind (F378 N (x1, x0, (138 : Int))) fun y0 =>
    iteP (within x0 (List.length x1)) (
      Option.bind (x1[Int.toNat x0]?) fun y1 =>
      iteP (y1 == (0 : Int)) (
        Option.bind (F360_7465 N (decide (y0 > (10 : Int)), x0, y0, x1, x2)) fun y2 =>
        Option.bind (f (IntKind.wrap IntKind.i64 (y2.1 + y2.2.1), y2.2.2.1, y2.2.2.2)) fun r => some r) (
        Option.bind (F360_7465 N (false, x0, y0, x1, x2)) fun y3 =>
        Option.bind (f (IntKind.wrap IntKind.i64 (y3.1 + y3.2.1), y3.2.2.1, y3.2.2.2)) fun r => some r)) (
      none )) (
    some (x2))
noncomputable def F360_58 (N : Nat) : Nat → P360_58 → Option R360_58
  | 0, _ => none
  | k + 1, x => B360_58 N (F360_58 N k) x
noncomputable def C360_58 (N : Nat) (k : Nat) : Cut := L360_58.cut (F360_58 N k)
theorem C360_58_ok (N : Nat) (k : Nat) : CutAt Tryz.prog false Tryz.f360 [] 58 (C360_58 N k) :=
  L360_58.loopT ownT mix (tab360_ok N) Tryz.f360 [] (cuts := [(29863, C360_29863 N N), (7465, C360_7465 N N)]) ⟨C360_29863_ok N N, C360_7465_ok N N, trivial⟩ (by decide +kernel) (by kernel_rfl) (B360_58 N) (F360_58 N) (fun _ => rfl) (fun _ _ => rfl) (fun f x => by kernel_rfl) k
@[reducible] def w360 : List SP := [⟨[.sl 0], [.row y3 373]⟩]
noncomputable def F360 (N : Nat) : ((List Int)) → Option ((List (Int × (Int × (Int × Unit)))))
  | x0 =>
  Option.bind (F360_58 N N ((0 : Int), x0, [])) fun y0 =>
  some (y0)
noncomputable def T360 (N : Nat) : Pk → Tr Pk := tellS s360 w360 (F360 N)
theorem T360_ok (N : Nat) : FOK Tryz.prog (360) (T360 N) :=
  (fn_ok2 ownT mix (tab360_ok N) Tryz.func360 s360 w360 [] (cuts := [(29863, C360_29863 N N), (7465, C360_7465 N N), (58, C360_58 N N)]) ⟨C360_29863_ok N N, C360_7465_ok N N, C360_58_ok N N, trivial⟩ (fun _ => by kernel_rfl) (by decide +kernel) (F360 N) (fun x => by kernel_rfl))
@[reducible] def s362 : SP := ⟨[], []⟩
noncomputable def tab362 (N : Nat) : List (Nat × (Pk → Tr Pk)) := []
theorem tab362_ok (N : Nat) : TabOK Tryz.prog (tab362 N) := trivial
@[reducible] def L362_58 : LD := ⟨58, [1, 2], [(.ret, [0]), (.exit 0, [1])], ⟨[.sl 0, .int .i64], [.row (.int .i64) 3]⟩, [(.exit 0, ⟨[.sl 0], [.row (.int .i64) 3]⟩)]⟩
abbrev P362_58 : Type := Int × (List Int)
abbrev R362_58 : Type := (List Int)
noncomputable def B362_58 (N : Nat) (f : P362_58 → Option R362_58) : P362_58 → Option R362_58
  | (x0, x1) =>
  iteP (decide (x0 < (8 : Int))) (
    iteP (decide ((List.length x1 + List.length [IntKind.wrap IntKind.i64 ((7 : Int) + x0), IntKind.wrap IntKind.i64 ((8 : Int) - x0)]) * (8 : Nat) ≤ (140737488355328 : Nat) ∧ List.length x1 + List.length [IntKind.wrap IntKind.i64 ((7 : Int) + x0), IntKind.wrap IntKind.i64 ((8 : Int) - x0)] ≤ (140737488355328 : Nat))) (
      Option.bind (f (IntKind.wrap IntKind.i64 (x0 + (1 : Int)), x1 ++ [IntKind.wrap IntKind.i64 ((7 : Int) + x0), IntKind.wrap IntKind.i64 ((8 : Int) - x0)])) fun r => some r) (
      none )) (
    some (x1))
noncomputable def F362_58 (N : Nat) : Nat → P362_58 → Option R362_58
  | 0, _ => none
  | k + 1, x => B362_58 N (F362_58 N k) x
noncomputable def C362_58 (N : Nat) (k : Nat) : Cut := L362_58.cut (F362_58 N k)
theorem C362_58_ok (N : Nat) (k : Nat) : CutAt Tryz.prog false Tryz.f362 [] 58 (C362_58 N k) :=
  L362_58.loopT ownT mix (tab362_ok N) Tryz.f362 [] (cuts := []) trivial (by decide +kernel) (by kernel_rfl) (B362_58 N) (F362_58 N) (fun _ => rfl) (fun _ _ => rfl) (fun f x => by kernel_rfl) k
@[reducible] def w362 : List SP := [⟨[.sl 0], [.row (.int .i64) 3]⟩]
noncomputable def F362 (N : Nat) : (Unit) → Option ((List Int))
  | () =>
  Option.bind (F362_58 N N ((1 : Int), [(16 : Int), (17 : Int), (18 : Int), (0 : Int)])) fun y0 =>
  iteP (decide ((List.length y0 + (1 : Nat)) * (8 : Nat) ≤ (140737488355328 : Nat) ∧ List.length y0 + (1 : Nat) ≤ (140737488355328 : Nat))) (
    some (y0 ++ [(15 : Int)])) (
    none )
noncomputable def T362 (N : Nat) : Pk → Tr Pk := tellS s362 w362 (F362 N)
theorem T362_ok (N : Nat) : FOK Tryz.prog (362) (T362 N) :=
  (fn_ok2 ownT mix (tab362_ok N) Tryz.func362 s362 w362 [] (cuts := [(58, C362_58 N N)]) ⟨C362_58_ok N N, trivial⟩ (fun _ => by kernel_rfl) (by decide +kernel) (F362 N) (fun x => by kernel_rfl))
@[reducible] def s341 : SP := ⟨[.adr 0 [], .ro (.int .i64), .ro (.int .i64)], [.var 221 (.agg [.sl 1, .int .i64, .int .i64]), .row (.int .u8) 5]⟩
noncomputable def tab341 (N : Nat) : List (Nat × (Pk → Tr Pk)) := [(77, T77 N), (361, T361 N), (360, T360 N), (358, T358 N), (354, T354 N), (362, T362 N), (269, T269 N), (222, T222 N)]
theorem tab341_ok (N : Nat) : TabOK Tryz.prog (tab341 N) := ⟨T77_ok N, T361_ok N, T360_ok N, T358_ok N, T354_ok N, T362_ok N, T269_ok N, T222_ok N, trivial⟩
@[reducible] def L341_506 : LD := ⟨506, [58, 57, 1, 2, 8, 0, 56, 9], [(.ret, [6]), (.exit 0, [9, 0, 8, 2, 1])], ⟨[.int .i64, .int .i64, .ro (.int .i64), .ro (.int .i64), .sl 1, .adr 0 [], .sl 1, .sl 2], [.var 221 (.agg [.sl 3, .int .i64, .int .i64]), .row y3 373, .row (.int .i64) 3, .row (.int .u8) 5]⟩, [(.exit 0, ⟨[.sl 1, .adr 0 [], .sl 2, .ro (.int .i64), .ro (.int .i64)], [.var 221 (.agg [.sl 3, .int .i64, .int .i64]), .row (.int .i64) 3, .row y3 373, .row (.int .u8) 5]⟩)]⟩
abbrev P341_506 : Type := Int × Int × (List Int) × (List Int) × Int × Int × (List (Int × (Int × (Int × Unit)))) × (List Int) × (List Int)
abbrev R341_506 : Type := (List Int) × (List Int) × Int × Int × (List Int) × (List (Int × (Int × (Int × Unit)))) × (List Int)
noncomputable def B341_506 (N : Nat) (f : P341_506 → Option R341_506) : P341_506 → Option R341_506
  | (x0, x1, x2, x3, x4, x5, x6, x7, x8) =>
  iteP (decide (x0 < x1)) (
    iteP (within x0 (List.length x6)) (
      Option.bind (x6[Int.toNat x0]?) fun y0 =>
      iteP (within y0.1 (List.length x7)) (
        Option.bind (x7[Int.toNat y0.1]?) fun y1 =>
        iteP (within y0.1 (List.length x7)) (
          Option.bind (x7[Int.toNat y0.1]?) fun y2 =>
          Option.bind (f (IntKind.wrap IntKind.i64 (x0 + (1 : Int)), x1, x2, x3, x4, x5, x6, List.set x7 (Int.toNat y0.1) (IntKind.wrap IntKind.i64 (y1 + (1 : Int))), x8)) fun r => some r) (
          none )) (
        none )) (
      none )) (
    some ((x3, x2, x4, x5, x7, x6, x8)))
noncomputable def F341_506 (N : Nat) : Nat → P341_506 → Option R341_506
  | 0, _ => none
  | k + 1, x => B341_506 N (F341_506 N k) x
noncomputable def C341_506 (N : Nat) (k : Nat) : Cut := L341_506.cut (F341_506 N k)
theorem C341_506_ok (N : Nat) (k : Nat) : CutAt Tryz.prog false Tryz.f341 [0] 506 (C341_506 N k) :=
  L341_506.loopT ownT mix (tab341_ok N) Tryz.f341 [0] (cuts := []) trivial (by decide +kernel) (by kernel_rfl) (B341_506 N) (F341_506 N) (fun _ => rfl) (fun _ _ => rfl) (fun f x => by kernel_rfl) k
@[reducible] def L341_8188 : LD := ⟨8188, [17, 12, 0, 8, 14, 16, 2, 1], [(.ret, [6]), (.exit 2, [1, 2, 16, 17, 14, 8, 0, 12])], ⟨[.int .i64, .sl 1, .adr 0 [], .sl 2, .sl 3, .sl 4, .ro (.int .i64), .ro (.int .i64)], [.var 221 (.agg [.sl 5, .int .i64, .int .i64]), .row (.int .i64) 3, .row y3 373, .row y0 248, .row (.int .i64) 3, .row (.int .u8) 5]⟩, [(.exit 2, ⟨[.ro (.int .i64), .ro (.int .i64), .sl 1, .int .i64, .sl 2, .sl 3, .adr 0 [], .sl 4], [.var 221 (.agg [.sl 5, .int .i64, .int .i64]), .row (.int .i64) 3, .row y0 248, .row y3 373, .row (.int .i64) 3, .row (.int .u8) 5]⟩)]⟩
abbrev P341_8188 : Type := Int × (List Int) × (List Int) × Int × Int × (List Int) × (List (Int × (Int × (Int × Unit)))) × (List (Int × (Int × Unit))) × (List Int) × (List Int)
abbrev R341_8188 : Type := (List Int) × (List Int) × Int × Int × Int × (List Int) × (List (Int × (Int × Unit))) × (List (Int × (Int × (Int × Unit)))) × (List Int) × (List Int)
noncomputable def B341_8188 (N : Nat) (f : P341_8188 → Option R341_8188) : P341_8188 → Option R341_8188
  | (x0, x1, x2, x3, x4, x5, x6, x7, x8, x9) =>
  iteP (decide (x0 > (4 : Int))) (
    iteP (within (IntKind.wrap IntKind.i64 (x0 - (1 : Int))) (List.length x8)) (
      Option.bind (x8[Int.toNat (IntKind.wrap IntKind.i64 (x0 - (1 : Int)))]?) fun y0 =>
      iteP (within y0 (List.length x5)) (
        Option.bind (x5[Int.toNat y0]?) fun y1 =>
        iteP (y1 == (0 : Int)) (
          Option.bind (f (IntKind.wrap IntKind.i64 (x0 - (1 : Int)), x1, x2, x3, x4, x5, x6, x7, x8, x9)) fun r => some r) (
          some ((x2, x1, x0, x3, x4, x8, x7, x6, x5, x9)))) (
        none )) (
      none )) (
    some ((x2, x1, x0, x3, x4, x8, x7, x6, x5, x9)))
noncomputable def F341_8188 (N : Nat) : Nat → P341_8188 → Option R341_8188
  | 0, _ => none
  | k + 1, x => B341_8188 N (F341_8188 N k) x
noncomputable def C341_8188 (N : Nat) (k : Nat) : Cut := L341_8188.cut (F341_8188 N k)
theorem C341_8188_ok (N : Nat) (k : Nat) : CutAt Tryz.prog false Tryz.f341 [0] 8188 (C341_8188 N k) :=
  L341_8188.loopT ownT mix (tab341_ok N) Tryz.f341 [0] (cuts := [(506, C341_506 N N)]) ⟨C341_506_ok N N, trivial⟩ (by decide +kernel) (by kernel_rfl) (B341_8188 N) (F341_8188 N) (fun _ => rfl) (fun _ _ => rfl) (fun f x => by kernel_rfl) k
@[reducible] def L341_262138 : LD := ⟨262138, [116, 115, 14, 8, 114, 0, 12], [(.ret, [6]), (.exit 4, [8, 14, 0])], ⟨[.int .i64, .int .i64, .sl 1, .sl 2, .slp 3 (.c 0) .h, .adr 0 [], .sl 4], [.var 221 (.agg [.sl 5, .int .i64, .int .i64]), .row y0 248, .row y3 373, .row (.int .i64) 3, .row (.int .i64) 3, .row (.int .u8) 5]⟩, [(.exit 4, ⟨[.sl 1, .sl 2, .adr 0 []], [.var 221 (.agg [.sl 3, .int .i64, .int .i64]), .row y3 373, .row y0 248, .row (.int .u8) 5]⟩)]⟩
abbrev P341_262138 : Type := Int × Int × Nat × Int × Int × (List (Int × (Int × Unit))) × (List (Int × (Int × (Int × Unit)))) × (List Int) × (List Int) × (List Int)
abbrev R341_262138 : Type := Int × Int × (List (Int × (Int × (Int × Unit)))) × (List (Int × (Int × Unit))) × (List Int)
noncomputable def B341_262138 (N : Nat) (f : P341_262138 → Option R341_262138) : P341_262138 → Option R341_262138
  | (x0, x1, x2, x3, x4, x5, x6, x7, x8, x9) =>
  iteP (decide (x0 < x1)) (
    iteP (within x0 x2) (
      Option.bind (x7[(0 : Nat) + Int.toNat x0]?) fun y0 =>
      iteP (within y0 (List.length x8)) (
        Option.bind (x8[Int.toNat y0]?) fun y1 =>
        Option.bind (F269 N ((3 : Int), y1, x3, x4, x9)) fun y2 =>
        Option.bind (f (IntKind.wrap IntKind.i64 (x0 + (1 : Int)), x1, x2, y2.1, y2.2.1, x5, x6, x7, x8, y2.2.2)) fun r => some r) (
        none )) (
      none )) (
    some ((x3, x4, x6, x5, x9)))
noncomputable def F341_262138 (N : Nat) : Nat → P341_262138 → Option R341_262138
  | 0, _ => none
  | k + 1, x => B341_262138 N (F341_262138 N k) x
noncomputable def C341_262138 (N : Nat) (k : Nat) : Cut := L341_262138.cut (F341_262138 N k)
theorem C341_262138_ok (N : Nat) (k : Nat) : CutAt Tryz.prog false Tryz.f341 [0] 262138 (C341_262138 N k) :=
  L341_262138.loopT ownT mix (tab341_ok N) Tryz.f341 [0] (cuts := [(506, C341_506 N N), (8188, C341_8188 N N)]) ⟨C341_506_ok N N, C341_8188_ok N N, trivial⟩ (by decide +kernel) (by kernel_rfl) (B341_262138 N) (F341_262138 N) (fun _ => rfl) (fun _ _ => rfl) (fun f x => by kernel_rfl) k
@[reducible] def L341_524282 : LD := ⟨524282, [129, 128, 127, 14, 0], [(.ret, [6]), (.exit 6, [])], ⟨[.int .i64, .int .i64, .sl 1, .sl 2, .adr 0 []], [.var 221 (.agg [.sl 3, .int .i64, .int .i64]), .row y3 373, .row y0 248, .row (.int .u8) 5]⟩, [(.exit 6, ⟨[], [.var 221 (.agg [.sl 1, .int .i64, .int .i64]), .row (.int .u8) 5]⟩)]⟩
abbrev P341_524282 : Type := Int × Int × Int × Int × (List (Int × (Int × (Int × Unit)))) × (List (Int × (Int × Unit))) × (List Int)
abbrev R341_524282 : Type := Int × Int × (List Int)
noncomputable def B341_524282 (N : Nat) (f : P341_524282 → Option R341_524282) : P341_524282 → Option R341_524282
  | (x0, x1, x2, x3, x4, x5, x6) =>
  iteP (decide (x0 < x1)) (
    iteP (within x0 (List.length x4)) (
      Option.bind (x4[Int.toNat x0]?) fun y0 =>
      iteP (within y0.1 (List.length x5)) (
        Option.bind (x5[Int.toNat y0.1]?) fun y1 =>
        Option.bind (F222 N (y1.1, y1.2.1, x2, x3, x6)) fun y2 =>
        Option.bind (F269 N (y0.2.1, y0.2.2.1, y2.1, y2.2.1, y2.2.2)) fun y3 =>
        Option.bind (f (IntKind.wrap IntKind.i64 (x0 + (1 : Int)), x1, y3.1, y3.2.1, x4, x5, y3.2.2)) fun r => some r) (
        none )) (
      none )) (
    some ((x2, x3, x6)))
noncomputable def F341_524282 (N : Nat) : Nat → P341_524282 → Option R341_524282
  | 0, _ => none
  | k + 1, x => B341_524282 N (F341_524282 N k) x
noncomputable def C341_524282 (N : Nat) (k : Nat) : Cut := L341_524282.cut (F341_524282 N k)
theorem C341_524282_ok (N : Nat) (k : Nat) : CutAt Tryz.prog false Tryz.f341 [0] 524282 (C341_524282 N k) :=
  L341_524282.loopT ownT mix (tab341_ok N) Tryz.f341 [0] (cuts := [(506, C341_506 N N), (8188, C341_8188 N N), (262138, C341_262138 N N)]) ⟨C341_506_ok N N, C341_8188_ok N N, C341_262138_ok N N, trivial⟩ (by decide +kernel) (by kernel_rfl) (B341_524282 N) (F341_524282 N) (fun _ => rfl) (fun _ _ => rfl) (fun f x => by kernel_rfl) k
@[reducible] def L341_15 : LD := ⟨15, [1, 2, 0], [(.ret, [6]), (.normal, [6])], ⟨[.ro (.int .i64), .ro (.int .i64), .adr 0 []], [.var 221 (.agg [.sl 1, .int .i64, .int .i64]), .row (.int .u8) 5]⟩, [(.ret, ⟨[.int .i64], [.var 221 (.agg [.sl 1, .int .i64, .int .i64]), .row (.int .u8) 5]⟩)]⟩
noncomputable def F341_15 (N : Nat) : ((List Int) × (List Int) × Int × Int × (List Int)) → Option (Int × Int × Int × (List Int))
  | (x0, x1, x2, x3, x4) =>
  Option.bind (F361 N [x0, x1]) fun y0 =>
  Option.bind (F360 N y0) fun y1 =>
  Option.bind (F341_506 N N ((0 : Int), (↑(List.length y1) : Int), x0, x1, x2, x3, y1, List.replicate (19 : Nat) (0 : Int), x4)) fun (y2_0, y2_1, y2_2, y2_3, y2_4, y2_5, y2_6) =>
  Option.bind (F358 N (y2_4, (7 : Int))) fun y3 =>
  Option.bind (F354 N y3.2) fun y4 =>
  Option.bind (F362 N ()) fun y5 =>
  Option.bind (F341_8188 N N ((↑(List.length y5) : Int), y2_0, y2_1, y2_2, y2_3, y3.2, y2_5, y4.2, y5, y2_6)) fun (y6_0, y6_1, y6_2, y6_3, y6_4, y6_5, y6_6, y6_7, y6_8, y6_9) =>
  Option.bind (F269 N ((5 : Int), IntKind.wrap IntKind.i64 ((↑(List.length y6_0) : Int) - (257 : Int)), y6_3, y6_4, y6_9)) fun y7 =>
  Option.bind (F269 N ((5 : Int), IntKind.wrap IntKind.i64 ((↑(List.length y6_1) : Int) - (1 : Int)), y7.1, y7.2.1, y7.2.2)) fun y8 =>
  Option.bind (F269 N ((4 : Int), IntKind.wrap IntKind.i64 (y6_2 - (4 : Int)), y8.1, y8.2.1, y8.2.2)) fun y9 =>
  iteP (decide ((0 : Int) ≤ y6_2 ∧ y6_2 ≤ (↑(List.length y6_5) : Int))) (
    Option.bind (F341_262138 N N ((0 : Int), (↑(Int.toNat y6_2 - (0 : Nat)) : Int), Int.toNat y6_2 - (0 : Nat), y9.1, y9.2.1, y6_6, y6_7, y6_5, y6_8, y9.2.2)) fun y10 =>
    Option.bind (F341_524282 N N ((0 : Int), (↑(List.length y10.2.2.1) : Int), y10.1, y10.2.1, y10.2.2.1, y10.2.2.2.1, y10.2.2.2.2)) fun y11 =>
    some (((0 : Int), y11.1, y11.2.1, y11.2.2))) (
    none )
noncomputable def C341_15 (N : Nat) (_ : Nat) : Cut := L341_15.cut (F341_15 N)
theorem C341_15_ok (N : Nat) (k : Nat) : CutAt Tryz.prog false Tryz.f341 [0] 15 (C341_15 N k) :=
  L341_15.pieceT ownT mix (tab341_ok N) Tryz.f341 [0] (cuts := [(506, C341_506 N N), (8188, C341_8188 N N), (262138, C341_262138 N N), (524282, C341_524282 N N)]) ⟨C341_506_ok N N, C341_8188_ok N N, C341_262138_ok N N, C341_524282_ok N N, trivial⟩ (by decide +kernel) (by kernel_rfl) (F341_15 N) (fun x => by kernel_rfl)
@[reducible] def w341 : List SP := [⟨[.int .i64], [.var 221 (.agg [.sl 1, .int .i64, .int .i64]), .row (.int .u8) 5]⟩]
noncomputable def F341 (N : Nat) : ((List Int) × (List Int) × Int × Int × (List Int)) → Option (Int × Int × Int × (List Int))
  | (x0, x1, x2, x3, x4) =>
  iteP (decide ((↑(List.length x0) : Int) < (257 : Int))) (
    some (((1 : Int), x2, x3, x4))) (
    iteP (decide ((↑(List.length x0) : Int) > (286 : Int))) (
      some (((1 : Int), x2, x3, x4))) (
      iteP (decide ((↑(List.length x1) : Int) < (1 : Int))) (
        some (((1 : Int), x2, x3, x4))) (
        iteP (decide ((↑(List.length x1) : Int) > (30 : Int))) (
          some (((1 : Int), x2, x3, x4))) (
          Option.bind (F77 N x0) fun y0 =>
          iteP (y0) (
            some (((1 : Int), x2, x3, x4))) (
            Option.bind (F77 N x1) fun y1 =>
            iteP (y1) (
              some (((1 : Int), x2, x3, x4))) (
              Option.bind (F341_15 N (x0, x1, x2, x3, x4)) fun y2 =>
              some ((y2.1, y2.2.1, y2.2.2.1, y2.2.2.2))))))))
noncomputable def T341 (N : Nat) : Pk → Tr Pk := tellS s341 w341 (F341 N)
theorem T341_ok (N : Nat) : FOK Tryz.prog (341) (T341 N) :=
  (fn_ok2 ownT mix (tab341_ok N) Tryz.func341 s341 w341 [0] (cuts := [(506, C341_506 N N), (8188, C341_8188 N N), (262138, C341_262138 N N), (524282, C341_524282 N N), (15, C341_15 N N)]) ⟨C341_506_ok N N, C341_8188_ok N N, C341_262138_ok N N, C341_524282_ok N N, C341_15_ok N N, trivial⟩ (fun _ => by kernel_rfl) (by decide +kernel) (F341 N) (fun x => by kernel_rfl))
@[reducible] def s323 : SP := ⟨[.adr 0 [], .ro y3, .bool, .bool], [.var 221 (.agg [.sl 1, .int .i64, .int .i64]), .row (.int .u8) 5]⟩
noncomputable def tab323 (N : Nat) : List (Nat × (Pk → Tr Pk)) := [(335, T335 N), (271, T271 N), (336, T336 N), (337, T337 N), (338, T338 N), (340, T340 N), (339, T339 N), (341, T341 N)]
theorem tab323_ok (N : Nat) : TabOK Tryz.prog (tab323 N) := ⟨T335_ok N, T271_ok N, T336_ok N, T337_ok N, T338_ok N, T340_ok N, T339_ok N, T341_ok N, trivial⟩
@[reducible] def L323_26 : LD := ⟨26, [19, 1, 0, 3, 2, 18, 20], [(.ret, [8]), (.exit 0, [2, 3, 0, 1])], ⟨[.int .i64, .ro y3, .adr 0 [], .bool, .bool, .ro y3, .int .i64], [.var 221 (.agg [.sl 1, .int .i64, .int .i64]), .row (.int .u8) 5]⟩, [(.ret, ⟨[.int .i64], [.var 221 (.agg [.sl 1, .int .i64, .int .i64]), .row (.int .u8) 5]⟩), (.exit 0, ⟨[.bool, .bool, .adr 0 [], .ro y3], [.var 221 (.agg [.sl 1, .int .i64, .int .i64]), .row (.int .u8) 5]⟩)]⟩
abbrev P323_26 : Type := Int × (List (Int × (Int × (Int × Unit)))) × Bool × Bool × (List (Int × (Int × (Int × Unit)))) × Int × Int × Int × (List Int)
abbrev R323_26 : Type := ((Int × Int × Int × (List Int)) ⊕ (Bool × Bool × (List (Int × (Int × (Int × Unit)))) × Int × Int × (List Int)))
noncomputable def B323_26 (N : Nat) (f : P323_26 → Option R323_26) : P323_26 → Option R323_26
  | (x0, x1, x2, x3, x4, x5, x6, x7, x8) =>
  iteP (decide (x5 < x0)) (
    iteP (within x5 (List.length x4)) (
      Option.bind (x4[Int.toNat x5]?) fun y0 =>
      Option.bind (F335 N (y0.1, y0.2.1, y0.2.2.1)) fun y1 =>
      iteP (!y1) (
        some (.inl (((1 : Int), x6, x7, x8)))) (
        Option.bind (f (x0, x1, x2, x3, x4, IntKind.wrap IntKind.i64 (x5 + (1 : Int)), x6, x7, x8)) fun r => match r with | .inl y => some (.inl y) | .inr y => some (.inr y))) (
      none )) (
    some (.inr ((x3, x2, x1, x6, x7, x8))))
noncomputable def F323_26 (N : Nat) : Nat → P323_26 → Option R323_26
  | 0, _ => none
  | k + 1, x => B323_26 N (F323_26 N k) x
noncomputable def C323_26 (N : Nat) (k : Nat) : Cut := L323_26.cut (F323_26 N k)
theorem C323_26_ok (N : Nat) (k : Nat) : CutAt Tryz.prog false Tryz.f323 [0] 26 (C323_26 N k) :=
  L323_26.loopT ownT mix (tab323_ok N) Tryz.f323 [0] (cuts := []) trivial (by decide +kernel) (by kernel_rfl) (B323_26 N) (F323_26 N) (fun _ => rfl) (fun _ _ => rfl) (fun f x => by kernel_rfl) k
@[reducible] def w323 : List SP := [⟨[.int .i64], [.var 221 (.agg [.sl 1, .int .i64, .int .i64]), .row (.int .u8) 5]⟩]
noncomputable def F323 (N : Nat) : ((List (Int × (Int × (Int × Unit)))) × Bool × Bool × Int × Int × (List Int)) → Option (Int × Int × Int × (List Int))
  | (x0, x1, x2, x3, x4, x5) =>
  Option.bind (F323_26 N N ((↑(List.length x0) : Int), x0, x2, x1, x0, (0 : Int), x3, x4, x5)) fun y0 =>
  match y0 with
  | .inl y1 =>
    some ((y1.1, y1.2.1, y1.2.2.1, y1.2.2.2))
  | .inr (y1_0, y1_1, y1_2, y1_3, y1_4, y1_5) =>
    iteP (!y1_0) (
      Option.bind (F271 N (y1_1, (1 : Int), y1_3, y1_4, y1_5)) fun y2 =>
      Option.bind (F336 N ()) fun y3 =>
      Option.bind (F337 N (y3.1, y3.2, y1_2, y2.1, y2.2.1, y2.2.2)) fun y4 =>
      some ((y4.1, y4.2.1, y4.2.2.1, y4.2.2.2))) (
      Option.bind (F338 N y1_2) fun y5 =>
      Option.bind (F340 N y5.1) fun y6 =>
      Option.bind (F339 N (y6, (257 : Int))) fun y7 =>
      Option.bind (F340 N y5.2) fun y8 =>
      Option.bind (F339 N (y8, (1 : Int))) fun y9 =>
      Option.bind (F271 N (y1_1, (2 : Int), y1_3, y1_4, y1_5)) fun y10 =>
      Option.bind (F341 N (y7, y9, y10.1, y10.2.1, y10.2.2)) fun y11 =>
      iteP (y11.1 != (0 : Int)) (
        some ((y11.1, y11.2.1, y11.2.2.1, y11.2.2.2))) (
        Option.bind (F337 N (y7, y9, y1_2, y11.2.1, y11.2.2.1, y11.2.2.2)) fun y12 =>
        some ((y12.1, y12.2.1, y12.2.2.1, y12.2.2.2))))
noncomputable def T323 (N : Nat) : Pk → Tr Pk := tellS s323 w323 (F323 N)
theorem T323_ok (N : Nat) : FOK Tryz.prog (323) (T323 N) :=
  (fn_ok2 ownT mix (tab323_ok N) Tryz.func323 s323 w323 [0] (cuts := [(26, C323_26 N N)]) ⟨C323_26_ok N N, trivial⟩ (fun _ => by kernel_rfl) (by decide +kernel) (F323 N) (fun x => by kernel_rfl))
@[reducible] def s322 : SP := ⟨[.adr 0 [], .adr 1 [], .adr 2 [], .adr 3 []], [.var 221 (.agg [.sl 4, .int .i64, .int .i64]), .var 278 (.ro y3), .var 4 (.bool), .var 4 (.bool), .row (.int .u8) 5]⟩
noncomputable def tab322 (N : Nat) : List (Nat × (Pk → Tr Pk)) := [(323, T323 N)]
theorem tab322_ok (N : Nat) : TabOK Tryz.prog (tab322 N) := ⟨T323_ok N, trivial⟩
@[reducible] def w322 : List SP := [⟨[.tup []], [.var 221 (.agg [.sl 4, .int .i64, .int .i64]), .var 278 (.ro y3), .var 4 (.bool), .var 4 (.bool), .row (.int .u8) 5]⟩]
noncomputable def F322 (N : Nat) : (Int × Int × (List (Int × (Int × (Int × Unit)))) × Bool × Bool × (List Int)) → Option (Int × Int × (List (Int × (Int × (Int × Unit)))) × Bool × Bool × (List Int))
  | (x0, x1, x2, x3, x4, x5) =>
  Option.bind (F323 N (x2, x3, x4, x0, x1, x5)) fun y0 =>
  some ((y0.2.1, y0.2.2.1, x2, x3, x4, y0.2.2.2))
noncomputable def T322 (N : Nat) : Pk → Tr Pk := tellS s322 w322 (F322 N)
theorem T322_ok (N : Nat) : FOK Tryz.prog (322) (T322 N) :=
  (fn_ok2 ownT mix (tab322_ok N) Tryz.func322 s322 w322 [0, 1, 2, 3] (cuts := []) trivial (fun _ => by kernel_rfl) (by decide +kernel) (F322 N) (fun x => by kernel_rfl))
@[reducible] def s324 : SP := ⟨[.radr y2 [.i 0 3]], []⟩
noncomputable def tab324 (N : Nat) : List (Nat × (Pk → Tr Pk)) := []
theorem tab324_ok (N : Nat) : TabOK Tryz.prog (tab324 N) := trivial
@[reducible] def w324 : List SP := [⟨[.int .i64], []⟩]
noncomputable def F324 (N : Nat) : (((List Int) × (Int × (Int × Unit)))) → Option (Int)
  | x0 =>
  some (IntKind.wrap IntKind.i64 (IntKind.wrap IntKind.i64 ((8 : Int) * (↑(List.length x0.1) : Int)) + x0.2.2.1))
noncomputable def T324 (N : Nat) : Pk → Tr Pk := tellS s324 w324 (F324 N)
theorem T324_ok (N : Nat) : FOK Tryz.prog (324) (T324 N) :=
  (fn_ok2 ownT mix (tab324_ok N) Tryz.func324 s324 w324 [] (cuts := []) trivial (fun _ => by kernel_rfl) (by decide +kernel) (F324 N) (fun x => by kernel_rfl))
@[reducible] def s290 : SP := ⟨[.ro y3, .bool, .bool], []⟩
noncomputable def tab290 (N : Nat) : List (Nat × (Pk → Tr Pk)) := [(322, T322 N), (324, T324 N)]
theorem tab290_ok (N : Nat) : TabOK Tryz.prog (tab290 N) := ⟨T322_ok N, T324_ok N, trivial⟩
@[reducible] def w290 : List SP := [⟨[.agg [.int .i64, .clo 322 [.adr 0 [], .adr 1 [], .adr 2 []]]], [.var 278 (.ro y3), .var 4 (.bool), .var 4 (.bool)]⟩]
noncomputable def F290 (N : Nat) : ((List (Int × (Int × (Int × Unit)))) × Bool × Bool) → Option (Int × (List (Int × (Int × (Int × Unit)))) × Bool × Bool)
  | (x0, x1, x2) =>
  Option.bind (F322 N ((0 : Int), (0 : Int), x0, x1, x2, [])) fun (y0_0, y0_1, y0_2, y0_3, y0_4, y0_5) =>
  Option.bind (F324 N (y0_5, y0_0, y0_1, ())) fun y1 =>
  some ((y1, y0_2, y0_3, y0_4))
noncomputable def T290 (N : Nat) : Pk → Tr Pk := tellS s290 w290 (F290 N)
theorem T290_ok (N : Nat) : FOK Tryz.prog (290) (T290 N) :=
  (fn_ok2 ownT mix (tab290_ok N) Tryz.func290 s290 w290 [] (cuts := []) trivial (fun _ => by kernel_rfl) (by decide +kernel) (F290 N) (fun x => by kernel_rfl))
@[reducible] def s289 : SP := ⟨[.agg [.int .i64, .clo 322 [.adr 0 [], .adr 1 [], .adr 2 []]], .agg [.int .i64, .clo 322 [.adr 3 [], .adr 4 [], .adr 5 []]]], [.var 278 (.ro y3), .var 4 (.bool), .var 4 (.bool), .var 278 (.ro y3), .var 4 (.bool), .var 4 (.bool)]⟩
noncomputable def tab289 (N : Nat) : List (Nat × (Pk → Tr Pk)) := []
theorem tab289_ok (N : Nat) : TabOK Tryz.prog (tab289 N) := trivial
@[reducible] def w289 : List SP := [⟨[.agg [.int .i64, .clo 322 [.adr 3 [], .adr 4 [], .adr 5 []]]], [.var 278 (.ro y3), .var 4 (.bool), .var 4 (.bool), .var 278 (.ro y3), .var 4 (.bool), .var 4 (.bool)]⟩, ⟨[.agg [.int .i64, .clo 322 [.adr 0 [], .adr 1 [], .adr 2 []]]], [.var 278 (.ro y3), .var 4 (.bool), .var 4 (.bool), .var 278 (.ro y3), .var 4 (.bool), .var 4 (.bool)]⟩]
noncomputable def F289 (N : Nat) : (Int × Int × (List (Int × (Int × (Int × Unit)))) × Bool × Bool × (List (Int × (Int × (Int × Unit)))) × Bool × Bool) → Option (((Int × (List (Int × (Int × (Int × Unit)))) × Bool × Bool × (List (Int × (Int × (Int × Unit)))) × Bool × Bool) ⊕ (Int × (List (Int × (Int × (Int × Unit)))) × Bool × Bool × (List (Int × (Int × (Int × Unit)))) × Bool × Bool)))
  | (x0, x1, x2, x3, x4, x5, x6, x7) =>
  iteP (decide (x1 < x0)) (
    some (.inl ((x1, x2, x3, x4, x5, x6, x7)))) (
    some (.inr ((x0, x2, x3, x4, x5, x6, x7))))
noncomputable def T289 (N : Nat) : Pk → Tr Pk := tellS s289 w289 (F289 N)
theorem T289_ok (N : Nat) : FOK Tryz.prog (289) (T289 N) :=
  (fn_ok2 ownT mix (tab289_ok N) Tryz.func289 s289 w289 [0, 1, 2, 3, 4, 5] (cuts := []) trivial (fun _ => by kernel_rfl) (by decide +kernel) (F289 N) (fun x => by kernel_rfl))
@[reducible] def s289a : SP := ⟨[.agg [.int .i64, .clo 288 [.adr 0 [], .adr 1 []]], .agg [.int .i64, .clo 322 [.adr 2 [], .adr 3 [], .adr 4 []]]], [.var 9 (.str), .var 4 (.bool), .var 278 (.ro y3), .var 4 (.bool), .var 4 (.bool)]⟩
noncomputable def tab289a (N : Nat) : List (Nat × (Pk → Tr Pk)) := []
theorem tab289a_ok (N : Nat) : TabOK Tryz.prog (tab289a N) := trivial
@[reducible] def w289a : List SP := [⟨[.agg [.int .i64, .clo 322 [.adr 2 [], .adr 3 [], .adr 4 []]]], [.var 9 (.str), .var 4 (.bool), .var 278 (.ro y3), .var 4 (.bool), .var 4 (.bool)]⟩, ⟨[.agg [.int .i64, .clo 288 [.adr 0 [], .adr 1 []]]], [.var 9 (.str), .var 4 (.bool), .var 278 (.ro y3), .var 4 (.bool), .var 4 (.bool)]⟩]
noncomputable def F289a (N : Nat) : (Int × Int × ByteArray × Bool × (List (Int × (Int × (Int × Unit)))) × Bool × Bool) → Option (((Int × ByteArray × Bool × (List (Int × (Int × (Int × Unit)))) × Bool × Bool) ⊕ (Int × ByteArray × Bool × (List (Int × (Int × (Int × Unit)))) × Bool × Bool)))
  | (x0, x1, x2, x3, x4, x5, x6) =>
  iteP (decide (x1 < x0)) (
    some (.inl ((x1, x2, x3, x4, x5, x6)))) (
    some (.inr ((x0, x2, x3, x4, x5, x6))))
noncomputable def T289a (N : Nat) : Pk → Tr Pk := tellS s289a w289a (F289a N)
theorem T289a_ok (N : Nat) : FOK Tryz.prog (289) (T289a N) :=
  (fn_ok2 ownT mix (tab289a_ok N) Tryz.func289 s289a w289a [0, 1, 2, 3, 4] (cuts := []) trivial (fun _ => by kernel_rfl) (by decide +kernel) (F289a N) (fun x => by kernel_rfl))
@[reducible] def s272 : SP := ⟨[.adr 0 [], .str], [.var 221 (.agg [.sl 1, .int .i64, .int .i64]), .row (.int .u8) 5]⟩
noncomputable def tab272 (N : Nat) : List (Nat × (Pk → Tr Pk)) := [(223, T223 N)]
theorem tab272_ok (N : Nat) : TabOK Tryz.prog (tab272 N) := ⟨T223_ok N, trivial⟩
@[reducible] def w272 : List SP := [⟨[.tup []], [.var 221 (.agg [.sl 1, .int .i64, .int .i64]), .row (.int .u8) 5]⟩]
noncomputable def F272 (N : Nat) : (ByteArray × Int × Int × (List Int)) → Option (Int × Int × (List Int))
  | (x0, x1, x2, x3) =>
  Option.bind (F223 N (x1, x2, x3)) fun y0 =>
  iteP (decide ((List.length y0.2.2 + List.length (bytesOf x0)) * (1 : Nat) ≤ (140737488355328 : Nat) ∧ List.length y0.2.2 + List.length (bytesOf x0) ≤ (140737488355328 : Nat))) (
    some ((y0.1, y0.2.1, y0.2.2 ++ bytesOf x0))) (
    none )
noncomputable def T272 (N : Nat) : Pk → Tr Pk := tellS s272 w272 (F272 N)
theorem T272_ok (N : Nat) : FOK Tryz.prog (272) (T272 N) :=
  (fn_ok2 ownT mix (tab272_ok N) Tryz.func272 s272 w272 [0] (cuts := []) trivial (fun _ => by kernel_rfl) (by decide +kernel) (F272 N) (fun x => by kernel_rfl))
@[reducible] def s228 : SP := ⟨[.adr 0 [], .str, .bool], [.var 221 (.agg [.sl 1, .int .i64, .int .i64]), .row (.int .u8) 5]⟩
noncomputable def tab228 (N : Nat) : List (Nat × (Pk → Tr Pk)) := [(271, T271 N), (223, T223 N), (269, T269 N), (272, T272 N)]
theorem tab228_ok (N : Nat) : TabOK Tryz.prog (tab228 N) := ⟨T271_ok N, T223_ok N, T269_ok N, T272_ok N, trivial⟩
@[reducible] def L228_2 : LD := ⟨2, [1, 2, 0], [(.ret, [])], ⟨[.str, .bool, .adr 0 []], [.var 221 (.agg [.sl 1, .int .i64, .int .i64]), .row (.int .u8) 5]⟩, [(.ret, ⟨[], [.var 221 (.agg [.sl 1, .int .i64, .int .i64]), .row (.int .u8) 5]⟩)]⟩
abbrev P228_2 : Type := ByteArray × Bool × Int × Int × (List Int)
abbrev R228_2 : Type := Int × Int × (List Int)
noncomputable def B228_2 (N : Nat) (f : P228_2 → Option R228_2) : P228_2 → Option R228_2
  | (x0, x1, x2, x3, x4) =>
  iteP (x1) (
    Option.bind (F271 N ((if (65535 : Int) < (↑(ByteArray.size x0) : Int) then (65535 : Int) else (↑(ByteArray.size x0) : Int)) == (↑(ByteArray.size x0) : Int), (0 : Int), x2, x3, x4)) fun y0 =>
    Option.bind (F223 N (y0.1, y0.2.1, y0.2.2)) fun y1 =>
    Option.bind (F269 N ((16 : Int), if (65535 : Int) < (↑(ByteArray.size x0) : Int) then (65535 : Int) else (↑(ByteArray.size x0) : Int), y1.1, y1.2.1, y1.2.2)) fun y2 =>
    Option.bind (F269 N ((16 : Int), IntKind.wrap IntKind.i64 (↑(BitVec.toNat (BitVec.ofInt (64 : Nat) (if (65535 : Int) < (↑(ByteArray.size x0) : Int) then (65535 : Int) else (↑(ByteArray.size x0) : Int)) ^^^ BitVec.ofInt (64 : Nat) (65535 : Int))) : Int), y2.1, y2.2.1, y2.2.2)) fun y3 =>
    iteP (decide (((0 : Int) ≤ if (65535 : Int) < (↑(ByteArray.size x0) : Int) then (65535 : Int) else (↑(ByteArray.size x0) : Int)) ∧ (if (65535 : Int) < (↑(ByteArray.size x0) : Int) then (65535 : Int) else (↑(ByteArray.size x0) : Int)) ≤ (↑(ByteArray.size x0) : Int))) (
      Option.bind (F272 N (ByteArray.extract x0 (0 : Nat) (Int.toNat (if (65535 : Int) < (↑(ByteArray.size x0) : Int) then (65535 : Int) else (↑(ByteArray.size x0) : Int))), y3.1, y3.2.1, y3.2.2)) fun y4 =>
      iteP (decide (((0 : Int) ≤ if (65535 : Int) < (↑(ByteArray.size x0) : Int) then (65535 : Int) else (↑(ByteArray.size x0) : Int)) ∧ (if (65535 : Int) < (↑(ByteArray.size x0) : Int) then (65535 : Int) else (↑(ByteArray.size x0) : Int)) ≤ (↑(ByteArray.size x0) : Int))) (
        iteP (ByteArray.toList (ByteArray.extract x0 (Int.toNat (if (65535 : Int) < (↑(ByteArray.size x0) : Int) then (65535 : Int) else (↑(ByteArray.size x0) : Int))) (ByteArray.size x0)) == []) (
          some ((y4.1, y4.2.1, y4.2.2))) (
          Option.bind (f (ByteArray.extract x0 (Int.toNat (if (65535 : Int) < (↑(ByteArray.size x0) : Int) then (65535 : Int) else (↑(ByteArray.size x0) : Int))) (ByteArray.size x0), x1, y4.1, y4.2.1, y4.2.2)) fun r => some r)) (
        none )) (
      none )) (
    Option.bind (F271 N (false, (0 : Int), x2, x3, x4)) fun y5 =>
    Option.bind (F223 N (y5.1, y5.2.1, y5.2.2)) fun y6 =>
    Option.bind (F269 N ((16 : Int), if (65535 : Int) < (↑(ByteArray.size x0) : Int) then (65535 : Int) else (↑(ByteArray.size x0) : Int), y6.1, y6.2.1, y6.2.2)) fun y7 =>
    Option.bind (F269 N ((16 : Int), IntKind.wrap IntKind.i64 (↑(BitVec.toNat (BitVec.ofInt (64 : Nat) (if (65535 : Int) < (↑(ByteArray.size x0) : Int) then (65535 : Int) else (↑(ByteArray.size x0) : Int)) ^^^ BitVec.ofInt (64 : Nat) (65535 : Int))) : Int), y7.1, y7.2.1, y7.2.2)) fun y8 =>
    iteP (decide (((0 : Int) ≤ if (65535 : Int) < (↑(ByteArray.size x0) : Int) then (65535 : Int) else (↑(ByteArray.size x0) : Int)) ∧ (if (65535 : Int) < (↑(ByteArray.size x0) : Int) then (65535 : Int) else (↑(ByteArray.size x0) : Int)) ≤ (↑(ByteArray.size x0) : Int))) (
      Option.bind (F272 N (ByteArray.extract x0 (0 : Nat) (Int.toNat (if (65535 : Int) < (↑(ByteArray.size x0) : Int) then (65535 : Int) else (↑(ByteArray.size x0) : Int))), y8.1, y8.2.1, y8.2.2)) fun y9 =>
      iteP (decide (((0 : Int) ≤ if (65535 : Int) < (↑(ByteArray.size x0) : Int) then (65535 : Int) else (↑(ByteArray.size x0) : Int)) ∧ (if (65535 : Int) < (↑(ByteArray.size x0) : Int) then (65535 : Int) else (↑(ByteArray.size x0) : Int)) ≤ (↑(ByteArray.size x0) : Int))) (
        iteP (ByteArray.toList (ByteArray.extract x0 (Int.toNat (if (65535 : Int) < (↑(ByteArray.size x0) : Int) then (65535 : Int) else (↑(ByteArray.size x0) : Int))) (ByteArray.size x0)) == []) (
          some ((y9.1, y9.2.1, y9.2.2))) (
          Option.bind (f (ByteArray.extract x0 (Int.toNat (if (65535 : Int) < (↑(ByteArray.size x0) : Int) then (65535 : Int) else (↑(ByteArray.size x0) : Int))) (ByteArray.size x0), x1, y9.1, y9.2.1, y9.2.2)) fun r => some r)) (
        none )) (
      none ))
noncomputable def F228_2 (N : Nat) : Nat → P228_2 → Option R228_2
  | 0, _ => none
  | k + 1, x => B228_2 N (F228_2 N k) x
noncomputable def C228_2 (N : Nat) (k : Nat) : Cut := L228_2.cut (F228_2 N k)
theorem C228_2_ok (N : Nat) (k : Nat) : CutAt Tryz.prog false Tryz.f228 [0] 2 (C228_2 N k) :=
  L228_2.loopT ownT mix (tab228_ok N) Tryz.f228 [0] (cuts := []) trivial (by decide +kernel) (by kernel_rfl) (B228_2 N) (F228_2 N) (fun _ => rfl) (fun _ _ => rfl) (fun f x => by kernel_rfl) k
@[reducible] def w228 : List SP := [⟨[.tup []], [.var 221 (.agg [.sl 1, .int .i64, .int .i64]), .row (.int .u8) 5]⟩]
noncomputable def F228 (N : Nat) : (ByteArray × Bool × Int × Int × (List Int)) → Option (Int × Int × (List Int))
  | (x0, x1, x2, x3, x4) =>
  Option.bind (F228_2 N N (x0, x1, x2, x3, x4)) fun y0 =>
  some ((y0.1, y0.2.1, y0.2.2))
noncomputable def T228 (N : Nat) : Pk → Tr Pk := tellS s228 w228 (F228 N)
theorem T228_ok (N : Nat) : FOK Tryz.prog (228) (T228 N) :=
  (fn_ok2 ownT mix (tab228_ok N) Tryz.func228 s228 w228 [0] (cuts := [(2, C228_2 N N)]) ⟨C228_2_ok N N, trivial⟩ (fun _ => by kernel_rfl) (by decide +kernel) (F228 N) (fun x => by kernel_rfl))
@[reducible] def s288 : SP := ⟨[.adr 0 [], .adr 1 [], .adr 2 []], [.var 221 (.agg [.sl 3, .int .i64, .int .i64]), .var 9 (.str), .var 4 (.bool), .row (.int .u8) 5]⟩
noncomputable def tab288 (N : Nat) : List (Nat × (Pk → Tr Pk)) := [(228, T228 N)]
theorem tab288_ok (N : Nat) : TabOK Tryz.prog (tab288 N) := ⟨T228_ok N, trivial⟩
@[reducible] def w288 : List SP := [⟨[.tup []], [.var 221 (.agg [.sl 3, .int .i64, .int .i64]), .var 9 (.str), .var 4 (.bool), .row (.int .u8) 5]⟩]
noncomputable def F288 (N : Nat) : (Int × Int × ByteArray × Bool × (List Int)) → Option (Int × Int × ByteArray × Bool × (List Int))
  | (x0, x1, x2, x3, x4) =>
  Option.bind (F228 N (x2, x3, x0, x1, x4)) fun y0 =>
  some ((y0.1, y0.2.1, x2, x3, y0.2.2))
noncomputable def T288 (N : Nat) : Pk → Tr Pk := tellS s288 w288 (F288 N)
theorem T288_ok (N : Nat) : FOK Tryz.prog (288) (T288 N) :=
  (fn_ok2 ownT mix (tab288_ok N) Tryz.func288 s288 w288 [0, 1, 2] (cuts := []) trivial (fun _ => by kernel_rfl) (by decide +kernel) (F288 N) (fun x => by kernel_rfl))
@[reducible] def s252 : SP := ⟨[.adr 0 [], .ro y3, .str, .bool], [.var 221 (.agg [.sl 1, .int .i64, .int .i64]), .row (.int .u8) 5]⟩
noncomputable def tab252 (N : Nat) : List (Nat × (Pk → Tr Pk)) := [(290, T290 N), (289, orT s289.I (T289 N) (T289a N)), (322, T322 N), (288, T288 N)]
theorem tab252_ok (N : Nat) : TabOK Tryz.prog (tab252 N) := ⟨T290_ok N, orT_ok (T289_ok N) (T289a_ok N), T322_ok N, T288_ok N, trivial⟩
@[reducible] def w252 : List SP := [⟨[.tup []], [.var 221 (.agg [.sl 1, .int .i64, .int .i64]), .row (.int .u8) 5]⟩]
noncomputable def F252 (N : Nat) : ((List (Int × (Int × (Int × Unit)))) × ByteArray × Bool × Int × Int × (List Int)) → Option (Int × Int × (List Int))
  | (x0, x1, x2, x3, x4, x5) =>
  Option.bind (F290 N (x0, false, x2)) fun y0 =>
  Option.bind (F290 N (x0, true, x2)) fun y1 =>
  Option.bind (F289 N (y0.1, y1.1, y0.2.1, y0.2.2.1, y0.2.2.2, y1.2.1, y1.2.2.1, y1.2.2.2)) fun y2 =>
  match y2 with
  | .inl (y3_0, y3_1, y3_2, y3_3, y3_4, y3_5, y3_6) =>
    Option.bind (F289a N (IntKind.wrap IntKind.i64 (IntKind.wrap IntKind.i64 ((8 : Int) * (↑(ByteArray.size x1) : Int)) + IntKind.wrap IntKind.i64 ((40 : Int) * IntKind.wrap IntKind.i64 ((1 : Int) + IntKind.wrap IntKind.i64 (Int.tdiv (↑(ByteArray.size x1) : Int) (65535 : Int))))), y3_0, x1, x2, y3_4, y3_5, y3_6)) fun y4 =>
    match y4 with
    | .inl (y5_0, y5_1, y5_2, y5_3, y5_4, y5_5) =>
      Option.bind (F322 N (x3, x4, y5_3, y5_4, y5_5, x5)) fun (y6_0, y6_1, y6_2, y6_3, y6_4, y6_5) =>
      some ((y6_0, y6_1, y6_5))
    | .inr (y5_0, y5_1, y5_2, y5_3, y5_4, y5_5) =>
      Option.bind (F288 N (x3, x4, y5_1, y5_2, x5)) fun y7 =>
      some ((y7.1, y7.2.1, y7.2.2.2.2))
  | .inr (y3_0, y3_1, y3_2, y3_3, y3_4, y3_5, y3_6) =>
    Option.bind (F289a N (IntKind.wrap IntKind.i64 (IntKind.wrap IntKind.i64 ((8 : Int) * (↑(ByteArray.size x1) : Int)) + IntKind.wrap IntKind.i64 ((40 : Int) * IntKind.wrap IntKind.i64 ((1 : Int) + IntKind.wrap IntKind.i64 (Int.tdiv (↑(ByteArray.size x1) : Int) (65535 : Int))))), y3_0, x1, x2, y3_1, y3_2, y3_3)) fun y8 =>
    match y8 with
    | .inl (y9_0, y9_1, y9_2, y9_3, y9_4, y9_5) =>
      Option.bind (F322 N (x3, x4, y9_3, y9_4, y9_5, x5)) fun (y10_0, y10_1, y10_2, y10_3, y10_4, y10_5) =>
      some ((y10_0, y10_1, y10_5))
    | .inr (y9_0, y9_1, y9_2, y9_3, y9_4, y9_5) =>
      Option.bind (F288 N (x3, x4, y9_1, y9_2, x5)) fun y11 =>
      some ((y11.1, y11.2.1, y11.2.2.2.2))
noncomputable def T252 (N : Nat) : Pk → Tr Pk := tellS s252 w252 (F252 N)
theorem T252_ok (N : Nat) : FOK Tryz.prog (252) (T252 N) :=
  (fn_ok2 ownT mix (tab252_ok N) Tryz.func252 s252 w252 [0] (cuts := []) trivial (fun _ => by kernel_rfl) (by decide +kernel) (F252 N) (fun x => by kernel_rfl))
@[reducible] def s192 : SP := ⟨[.adr 0 [], .str, .str, .bool], [.var 221 (.agg [.sl 1, .int .i64, .int .i64]), .row (.int .u8) 5]⟩
noncomputable def tab192 (N : Nat) : List (Nat × (Pk → Tr Pk)) := [(251, T251 N), (252, T252 N)]
theorem tab192_ok (N : Nat) : TabOK Tryz.prog (tab192 N) := ⟨T251_ok N, T252_ok N, trivial⟩
@[reducible] def L192_7322 : LD := ⟨7322, [11, 30, 29, 0, 3, 2, 10, 8, 28], [(.exit 2, [8, 10, 2, 11, 3, 0]), (.exit 1, [3, 0, 2, 8])], ⟨[.int .i64, .int .i64, .int .i64, .adr 0 [], .bool, .str, .int .i64, .sl 1, .slp 1 (.c 0) .h], [.var 221 (.agg [.sl 2, .int .i64, .int .i64]), .row y3 281, .row (.int .u8) 5]⟩, [(.exit 2, ⟨[.sl 1, .int .i64, .str, .int .i64, .bool, .adr 0 []], [.var 221 (.agg [.sl 2, .int .i64, .int .i64]), .row y3 281, .row (.int .u8) 5]⟩)]⟩
abbrev P192_7322 : Type := Int × Int × Int × Bool × ByteArray × Int × Nat × Int × Int × (List (Int × (Int × (Int × Unit)))) × (List Int)
abbrev R192_7322 : Type := Int × ByteArray × Int × Bool × Int × Int × (List (Int × (Int × (Int × Unit)))) × (List Int)
noncomputable def B192_7322 (N : Nat) (f : P192_7322 → Option R192_7322) : P192_7322 → Option R192_7322
  | (x0, x1, x2, x3, x4, x5, x6, x7, x8, x9, x10) =>
  iteP (decide (x1 < x2)) (
    iteP (within x1 x6) (
      Option.bind (x9[(0 : Nat) + Int.toNat x1]?) fun y0 =>
      Option.bind (f (IntKind.wrap IntKind.i64 (x0 + if (1 : Int) > y0.2.1 then (1 : Int) else y0.2.1), IntKind.wrap IntKind.i64 (x1 + (1 : Int)), x2, x3, x4, x5, x6, x7, x8, x9, x10)) fun r => some r) (
      none )) (
    some ((x5, x4, x0, x3, x7, x8, x9, x10)))
noncomputable def F192_7322 (N : Nat) : Nat → P192_7322 → Option R192_7322
  | 0, _ => none
  | k + 1, x => B192_7322 N (F192_7322 N k) x
noncomputable def C192_7322 (N : Nat) (k : Nat) : Cut := L192_7322.cut (F192_7322 N k)
theorem C192_7322_ok (N : Nat) (k : Nat) : CutAt Tryz.prog false Tryz.f192 [0] 7322 (C192_7322 N k) :=
  L192_7322.loopT ownT mix (tab192_ok N) Tryz.f192 [0] (cuts := []) trivial (by decide +kernel) (by kernel_rfl) (B192_7322 N) (F192_7322 N) (fun _ => rfl) (fun _ _ => rfl) (fun f x => by kernel_rfl) k
@[reducible] def L192_7322b : LD := ⟨7322, [11, 30, 29, 0, 3, 2, 10, 8, 28], [(.exit 2, [8, 10, 2, 11, 3, 0]), (.exit 1, [3, 0, 2, 8])], ⟨[.int .i64, .int .i64, .int .i64, .adr 0 [], .bool, .str, .int .i64, .slp 1 .h .h, .slp 1 .h .h], [.var 221 (.agg [.sl 2, .int .i64, .int .i64]), .row y3 281, .row (.int .u8) 5]⟩, [(.exit 2, ⟨[.slp 1 .h .h, .int .i64, .str, .int .i64, .bool, .adr 0 []], [.var 221 (.agg [.sl 2, .int .i64, .int .i64]), .row y3 281, .row (.int .u8) 5]⟩)]⟩
abbrev P192_7322b : Type := Int × Int × Int × Bool × ByteArray × Int × Nat × Nat × Nat × Nat × Int × Int × (List (Int × (Int × (Int × Unit)))) × (List Int)
abbrev R192_7322b : Type := Nat × Nat × Int × ByteArray × Int × Bool × Int × Int × (List (Int × (Int × (Int × Unit)))) × (List Int)
noncomputable def B192_7322b (N : Nat) (f : P192_7322b → Option R192_7322b) : P192_7322b → Option R192_7322b
  | (x0, x1, x2, x3, x4, x5, x6, x7, x8, x9, x10, x11, x12, x13) =>
  iteP (decide (x1 < x2)) (
    iteP (within x1 x9) (
      Option.bind (x12[x8 + Int.toNat x1]?) fun y0 =>
      Option.bind (f (IntKind.wrap IntKind.i64 (x0 + if (1 : Int) > y0.2.1 then (1 : Int) else y0.2.1), IntKind.wrap IntKind.i64 (x1 + (1 : Int)), x2, x3, x4, x5, x6, x7, x8, x9, x10, x11, x12, x13)) fun r => some r) (
      none )) (
    some ((x6, x7, x5, x4, x0, x3, x10, x11, x12, x13)))
noncomputable def F192_7322b (N : Nat) : Nat → P192_7322b → Option R192_7322b
  | 0, _ => none
  | k + 1, x => B192_7322b N (F192_7322b N k) x
noncomputable def C192_7322b (N : Nat) (k : Nat) : Cut := L192_7322b.cut (F192_7322b N k)
theorem C192_7322b_ok (N : Nat) (k : Nat) : CutAt Tryz.prog false Tryz.f192 [0] 7322 (C192_7322b N k) :=
  L192_7322b.loopT ownT mix (tab192_ok N) Tryz.f192 [0] (cuts := [(7322, C192_7322 N N)]) ⟨C192_7322_ok N N, trivial⟩ (by decide +kernel) (by kernel_rfl) (B192_7322b N) (F192_7322b N) (fun _ => rfl) (fun _ _ => rfl) (fun f x => by kernel_rfl) k
@[reducible] def L192_14n : LD := ⟨14, [9, 3, 0, 2, 8], [(.exit 0, [])], ⟨[.bool, .bool, .adr 0 [], .str, .slp 1 .h .h], [.var 221 (.agg [.sl 2, .int .i64, .int .i64]), .row y3 281, .row (.int .u8) 5]⟩, [(.exit 0, ⟨[], [.var 221 (.agg [.sl 1, .int .i64, .int .i64]), .row (.int .u8) 5]⟩)]⟩
abbrev P192_14n : Type := Bool × Bool × ByteArray × Nat × Nat × Int × Int × (List (Int × (Int × (Int × Unit)))) × (List Int)
abbrev R192_14n : Type := Int × Int × (List Int)
noncomputable def B192_14n (N : Nat) (f : P192_14n → Option R192_14n) : P192_14n → Option R192_14n
  | (x0, x1, x2, x3, x4, x5, x6, x7, x8) =>
  iteP (x0) (
    iteP (decide (((0 : Int) ≤ if (8192 : Int) < (↑x4 : Int) then (8192 : Int) else (↑x4 : Int)) ∧ (if (8192 : Int) < (↑x4 : Int) then (8192 : Int) else (↑x4 : Int)) ≤ (↑x4 : Int))) (
      Option.bind (F192_7322b N N ((0 : Int), (0 : Int), (↑(Int.toNat (if (8192 : Int) < (↑x4 : Int) then (8192 : Int) else (↑x4 : Int)) - (0 : Nat)) : Int), x1, x2, if (8192 : Int) < (↑x4 : Int) then (8192 : Int) else (↑x4 : Int), x3, x4, x3 + (0 : Nat), Int.toNat (if (8192 : Int) < (↑x4 : Int) then (8192 : Int) else (↑x4 : Int)) - (0 : Nat), x5, x6, x7, x8)) fun (y0_0, y0_1, y0_2, y0_3, y0_4, y0_5, y0_6, y0_7, y0_8, y0_9) =>
      iteP (decide ((0 : Int) ≤ y0_2 ∧ y0_2 ≤ (↑y0_1 : Int))) (
        iteP (decide ((0 : Int) ≤ y0_4 ∧ y0_4 ≤ (↑(ByteArray.size y0_3) : Int))) (
          iteP (y0_5) (
            Option.bind (F252 N (List.take (Int.toNat y0_2 - (0 : Nat)) (List.drop (y0_0 + (0 : Nat)) y0_8), ByteArray.extract y0_3 (0 : Nat) (Int.toNat y0_4), y0_2 == (↑y0_1 : Int), y0_6, y0_7, y0_9)) fun y1 =>
            iteP (decide ((0 : Int) ≤ y0_2 ∧ y0_2 ≤ (↑y0_1 : Int))) (
              iteP (decide ((0 : Int) ≤ y0_4 ∧ y0_4 ≤ (↑(ByteArray.size y0_3) : Int))) (
                Option.bind (f (false, y0_5, ByteArray.extract y0_3 (Int.toNat y0_4) (ByteArray.size y0_3), y0_0 + Int.toNat y0_2, y0_1 - Int.toNat y0_2, y1.1, y1.2.1, y0_8, y1.2.2)) fun r => some r) (
                none )) (
              none )) (
            Option.bind (F252 N (List.take (Int.toNat y0_2 - (0 : Nat)) (List.drop (y0_0 + (0 : Nat)) y0_8), ByteArray.extract y0_3 (0 : Nat) (Int.toNat y0_4), false, y0_6, y0_7, y0_9)) fun y2 =>
            iteP (decide ((0 : Int) ≤ y0_2 ∧ y0_2 ≤ (↑y0_1 : Int))) (
              iteP (decide ((0 : Int) ≤ y0_4 ∧ y0_4 ≤ (↑(ByteArray.size y0_3) : Int))) (
                Option.bind (f (false, y0_5, ByteArray.extract y0_3 (Int.toNat y0_4) (ByteArray.size y0_3), y0_0 + Int.toNat y0_2, y0_1 - Int.toNat y0_2, y2.1, y2.2.1, y0_8, y2.2.2)) fun r => some r) (
                none )) (
              none ))) (
          none )) (
        none )) (
      none )) (
    iteP (decide ((↑x4 : Int) > (0 : Int))) (
      iteP (decide (((0 : Int) ≤ if (8192 : Int) < (↑x4 : Int) then (8192 : Int) else (↑x4 : Int)) ∧ (if (8192 : Int) < (↑x4 : Int) then (8192 : Int) else (↑x4 : Int)) ≤ (↑x4 : Int))) (
        Option.bind (F192_7322b N N ((0 : Int), (0 : Int), (↑(Int.toNat (if (8192 : Int) < (↑x4 : Int) then (8192 : Int) else (↑x4 : Int)) - (0 : Nat)) : Int), x1, x2, if (8192 : Int) < (↑x4 : Int) then (8192 : Int) else (↑x4 : Int), x3, x4, x3 + (0 : Nat), Int.toNat (if (8192 : Int) < (↑x4 : Int) then (8192 : Int) else (↑x4 : Int)) - (0 : Nat), x5, x6, x7, x8)) fun (y3_0, y3_1, y3_2, y3_3, y3_4, y3_5, y3_6, y3_7, y3_8, y3_9) =>
        iteP (decide ((0 : Int) ≤ y3_2 ∧ y3_2 ≤ (↑y3_1 : Int))) (
          iteP (decide ((0 : Int) ≤ y3_4 ∧ y3_4 ≤ (↑(ByteArray.size y3_3) : Int))) (
            iteP (y3_5) (
              Option.bind (F252 N (List.take (Int.toNat y3_2 - (0 : Nat)) (List.drop (y3_0 + (0 : Nat)) y3_8), ByteArray.extract y3_3 (0 : Nat) (Int.toNat y3_4), y3_2 == (↑y3_1 : Int), y3_6, y3_7, y3_9)) fun y4 =>
              iteP (decide ((0 : Int) ≤ y3_2 ∧ y3_2 ≤ (↑y3_1 : Int))) (
                iteP (decide ((0 : Int) ≤ y3_4 ∧ y3_4 ≤ (↑(ByteArray.size y3_3) : Int))) (
                  Option.bind (f (false, y3_5, ByteArray.extract y3_3 (Int.toNat y3_4) (ByteArray.size y3_3), y3_0 + Int.toNat y3_2, y3_1 - Int.toNat y3_2, y4.1, y4.2.1, y3_8, y4.2.2)) fun r => some r) (
                  none )) (
                none )) (
              Option.bind (F252 N (List.take (Int.toNat y3_2 - (0 : Nat)) (List.drop (y3_0 + (0 : Nat)) y3_8), ByteArray.extract y3_3 (0 : Nat) (Int.toNat y3_4), false, y3_6, y3_7, y3_9)) fun y5 =>
              iteP (decide ((0 : Int) ≤ y3_2 ∧ y3_2 ≤ (↑y3_1 : Int))) (
                iteP (decide ((0 : Int) ≤ y3_4 ∧ y3_4 ≤ (↑(ByteArray.size y3_3) : Int))) (
                  Option.bind (f (false, y3_5, ByteArray.extract y3_3 (Int.toNat y3_4) (ByteArray.size y3_3), y3_0 + Int.toNat y3_2, y3_1 - Int.toNat y3_2, y5.1, y5.2.1, y3_8, y5.2.2)) fun r => some r) (
                  none )) (
                none ))) (
            none )) (
          none )) (
        none )) (
      some ((x5, x6, x8))))
noncomputable def F192_14n (N : Nat) : Nat → P192_14n → Option R192_14n
  | 0, _ => none
  | k + 1, x => B192_14n N (F192_14n N k) x
noncomputable def C192_14n (N : Nat) (k : Nat) : Cut := L192_14n.cut (F192_14n N k)
theorem C192_14n_ok (N : Nat) (k : Nat) : CutAt Tryz.prog false Tryz.f192 [0] 14 (C192_14n N k) :=
  L192_14n.loopT ownT mix (tab192_ok N) Tryz.f192 [0] (cuts := [(7322, orC L192_7322.s.I (C192_7322 N N) (C192_7322b N N))]) ⟨fun c' h => orC_ok (C192_7322_ok N N c' h) (C192_7322b_ok N N c' h) rfl rfl, trivial⟩ (by decide +kernel) (by kernel_rfl) (B192_14n N) (F192_14n N) (fun _ => rfl) (fun _ _ => rfl) (fun f x => by kernel_rfl) k
@[reducible] def L192_14 : LD := ⟨14, L192_14n.live, L192_14n.out, ⟨[.bool, .bool, .adr 0 [], .str, .sl 1], [.var 221 (.agg [.sl 2, .int .i64, .int .i64]), .row y3 281, .row (.int .u8) 5]⟩, L192_14n.w⟩
noncomputable def B192_14 (N : Nat) (f : (Bool × Bool × ByteArray × Nat × Nat × Int × Int × (List (Int × (Int × (Int × Unit)))) × (List Int)) → Option (Int × Int × (List Int))) : (Bool × Bool × ByteArray × Int × Int × (List (Int × (Int × (Int × Unit)))) × (List Int)) → Option (Int × Int × (List Int))
  | (x0, x1, x2, x3, x4, x5, x6) =>
  iteP (x0) (
    iteP (decide (((0 : Int) ≤ if (8192 : Int) < (↑(List.length x5) : Int) then (8192 : Int) else (↑(List.length x5) : Int)) ∧ (if (8192 : Int) < (↑(List.length x5) : Int) then (8192 : Int) else (↑(List.length x5) : Int)) ≤ (↑(List.length x5) : Int))) (
      Option.bind (F192_7322 N N ((0 : Int), (0 : Int), (↑(Int.toNat (if (8192 : Int) < (↑(List.length x5) : Int) then (8192 : Int) else (↑(List.length x5) : Int)) - (0 : Nat)) : Int), x1, x2, if (8192 : Int) < (↑(List.length x5) : Int) then (8192 : Int) else (↑(List.length x5) : Int), Int.toNat (if (8192 : Int) < (↑(List.length x5) : Int) then (8192 : Int) else (↑(List.length x5) : Int)) - (0 : Nat), x3, x4, x5, x6)) fun (y0_0, y0_1, y0_2, y0_3, y0_4, y0_5, y0_6, y0_7) =>
      iteP (decide ((0 : Int) ≤ y0_0 ∧ y0_0 ≤ (↑(List.length y0_6) : Int))) (
        iteP (decide ((0 : Int) ≤ y0_2 ∧ y0_2 ≤ (↑(ByteArray.size y0_1) : Int))) (
          iteP (y0_3) (
            Option.bind (F252 N (List.take (Int.toNat y0_0 - (0 : Nat)) y0_6, ByteArray.extract y0_1 (0 : Nat) (Int.toNat y0_2), y0_0 == (↑(List.length y0_6) : Int), y0_4, y0_5, y0_7)) fun y1 =>
            iteP (decide ((0 : Int) ≤ y0_0 ∧ y0_0 ≤ (↑(List.length y0_6) : Int))) (
              iteP (decide ((0 : Int) ≤ y0_2 ∧ y0_2 ≤ (↑(ByteArray.size y0_1) : Int))) (
                Option.bind (f (false, y0_3, ByteArray.extract y0_1 (Int.toNat y0_2) (ByteArray.size y0_1), Int.toNat y0_0, List.length y0_6 - Int.toNat y0_0, y1.1, y1.2.1, y0_6, y1.2.2)) fun r => some r) (
                none )) (
              none )) (
            Option.bind (F252 N (List.take (Int.toNat y0_0 - (0 : Nat)) y0_6, ByteArray.extract y0_1 (0 : Nat) (Int.toNat y0_2), false, y0_4, y0_5, y0_7)) fun y2 =>
            iteP (decide ((0 : Int) ≤ y0_0 ∧ y0_0 ≤ (↑(List.length y0_6) : Int))) (
              iteP (decide ((0 : Int) ≤ y0_2 ∧ y0_2 ≤ (↑(ByteArray.size y0_1) : Int))) (
                Option.bind (f (false, y0_3, ByteArray.extract y0_1 (Int.toNat y0_2) (ByteArray.size y0_1), Int.toNat y0_0, List.length y0_6 - Int.toNat y0_0, y2.1, y2.2.1, y0_6, y2.2.2)) fun r => some r) (
                none )) (
              none ))) (
          none )) (
        none )) (
      none )) (
    iteP (decide ((↑(List.length x5) : Int) > (0 : Int))) (
      iteP (decide (((0 : Int) ≤ if (8192 : Int) < (↑(List.length x5) : Int) then (8192 : Int) else (↑(List.length x5) : Int)) ∧ (if (8192 : Int) < (↑(List.length x5) : Int) then (8192 : Int) else (↑(List.length x5) : Int)) ≤ (↑(List.length x5) : Int))) (
        Option.bind (F192_7322 N N ((0 : Int), (0 : Int), (↑(Int.toNat (if (8192 : Int) < (↑(List.length x5) : Int) then (8192 : Int) else (↑(List.length x5) : Int)) - (0 : Nat)) : Int), x1, x2, if (8192 : Int) < (↑(List.length x5) : Int) then (8192 : Int) else (↑(List.length x5) : Int), Int.toNat (if (8192 : Int) < (↑(List.length x5) : Int) then (8192 : Int) else (↑(List.length x5) : Int)) - (0 : Nat), x3, x4, x5, x6)) fun (y3_0, y3_1, y3_2, y3_3, y3_4, y3_5, y3_6, y3_7) =>
        iteP (decide ((0 : Int) ≤ y3_0 ∧ y3_0 ≤ (↑(List.length y3_6) : Int))) (
          iteP (decide ((0 : Int) ≤ y3_2 ∧ y3_2 ≤ (↑(ByteArray.size y3_1) : Int))) (
            iteP (y3_3) (
              Option.bind (F252 N (List.take (Int.toNat y3_0 - (0 : Nat)) y3_6, ByteArray.extract y3_1 (0 : Nat) (Int.toNat y3_2), y3_0 == (↑(List.length y3_6) : Int), y3_4, y3_5, y3_7)) fun y4 =>
              iteP (decide ((0 : Int) ≤ y3_0 ∧ y3_0 ≤ (↑(List.length y3_6) : Int))) (
                iteP (decide ((0 : Int) ≤ y3_2 ∧ y3_2 ≤ (↑(ByteArray.size y3_1) : Int))) (
                  Option.bind (f (false, y3_3, ByteArray.extract y3_1 (Int.toNat y3_2) (ByteArray.size y3_1), Int.toNat y3_0, List.length y3_6 - Int.toNat y3_0, y4.1, y4.2.1, y3_6, y4.2.2)) fun r => some r) (
                  none )) (
                none )) (
              Option.bind (F252 N (List.take (Int.toNat y3_0 - (0 : Nat)) y3_6, ByteArray.extract y3_1 (0 : Nat) (Int.toNat y3_2), false, y3_4, y3_5, y3_7)) fun y5 =>
              iteP (decide ((0 : Int) ≤ y3_0 ∧ y3_0 ≤ (↑(List.length y3_6) : Int))) (
                iteP (decide ((0 : Int) ≤ y3_2 ∧ y3_2 ≤ (↑(ByteArray.size y3_1) : Int))) (
                  Option.bind (f (false, y3_3, ByteArray.extract y3_1 (Int.toNat y3_2) (ByteArray.size y3_1), Int.toNat y3_0, List.length y3_6 - Int.toNat y3_0, y5.1, y5.2.1, y3_6, y5.2.2)) fun r => some r) (
                  none )) (
                none ))) (
            none )) (
          none )) (
        none )) (
      some ((x3, x4, x6))))
noncomputable def F192_14 (N : Nat) (k : Nat) : (Bool × Bool × ByteArray × Int × Int × (List (Int × (Int × (Int × Unit)))) × (List Int)) → Option (Int × Int × (List Int)) := B192_14 N (F192_14n N k)
noncomputable def C192_14 (N : Nat) (k : Nat) : Cut := L192_14.cut (F192_14 N k)
theorem C192_14_ok (N : Nat) (k : Nat) : CutAt Tryz.prog false Tryz.f192 [0] 14 (C192_14 N k) :=
  L192_14.loop2T ownT mix (tab192_ok N) L192_14n.s Tryz.f192 [0] (cuts := [(7322, orC L192_7322.s.I (C192_7322 N N) (C192_7322b N N)), (14, C192_14n N N)]) ⟨fun c' h => orC_ok (C192_7322_ok N N c' h) (C192_7322b_ok N N c' h) rfl rfl, C192_14n_ok N N, trivial⟩ (by decide +kernel) (by kernel_rfl) (B192_14 N) (B192_14n N) (F192_14n N) (fun _ => rfl) (fun _ _ => rfl) (fun f g x => by kernel_rfl) (fun f g x => by kernel_rfl) k
@[reducible] def w192 : List SP := [⟨[.tup []], [.var 221 (.agg [.sl 1, .int .i64, .int .i64]), .row (.int .u8) 5]⟩]
noncomputable def F192 (N : Nat) : (ByteArray × ByteArray × Bool × Int × Int × (List Int)) → Option (Int × Int × (List Int))
  | (x0, x1, x2, x3, x4, x5) =>
  Option.bind (F251 N (x0, x1)) fun y0 =>
  Option.bind (F192_14 N N (true, x2, x1, x3, x4, y0, x5)) fun y1 =>
  some ((y1.1, y1.2.1, y1.2.2))
noncomputable def T192 (N : Nat) : Pk → Tr Pk := tellS s192 w192 (F192 N)
theorem T192_ok (N : Nat) : FOK Tryz.prog (192) (T192 N) :=
  (fn_ok2 ownT mix (tab192_ok N) Tryz.func192 s192 w192 [0] (cuts := [(7322, orC L192_7322.s.I (C192_7322 N N) (C192_7322b N N)), (14, orC L192_14n.s.I (C192_14n N N) (C192_14 N N))]) ⟨fun c' h => orC_ok (C192_7322_ok N N c' h) (C192_7322b_ok N N c' h) rfl rfl, fun c' h => orC_ok (C192_14n_ok N N c' h) (C192_14_ok N N c' h) rfl rfl, trivial⟩ (fun _ => by kernel_rfl) (by decide +kernel) (F192 N) (fun x => by kernel_rfl))
@[reducible] def s162 : SP := ⟨[.str, .str], []⟩
noncomputable def tab162 (N : Nat) : List (Nat × (Pk → Tr Pk)) := [(192, T192 N), (228, T228 N), (193, T193 N)]
theorem tab162_ok (N : Nat) : TabOK Tryz.prog (tab162 N) := ⟨T192_ok N, T228_ok N, T193_ok N, trivial⟩
@[reducible] def w162 : List SP := [⟨[.str], []⟩]
noncomputable def F162 (N : Nat) : (ByteArray × ByteArray) → Option (ByteArray)
  | (x0, x1) =>
  iteP (!ByteArray.toList x1 == []) (
    Option.bind (F192 N (x0, x1, false, (0 : Int), (0 : Int), [])) fun y0 =>
    Option.bind (F228 N (ByteArray.mk #[], false, y0.1, y0.2.1, y0.2.2)) fun y1 =>
    Option.bind (F193 N (y1.2.2, y1.1, y1.2.1, ())) fun y2 =>
    some (y2)) (
    Option.bind (F228 N (ByteArray.mk #[], false, (0 : Int), (0 : Int), [])) fun y3 =>
    Option.bind (F193 N (y3.2.2, y3.1, y3.2.1, ())) fun y4 =>
    some (y4))
noncomputable def T162 (N : Nat) : Pk → Tr Pk := tellS s162 w162 (F162 N)
theorem T162_ok (N : Nat) : FOK Tryz.prog (162) (T162 N) :=
  (fn_ok2 ownT mix (tab162_ok N) Tryz.func162 s162 w162 [] (cuts := []) trivial (fun _ => by kernel_rfl) (by decide +kernel) (F162 N) (fun x => by kernel_rfl))
@[reducible] def s163 : SP := ⟨[.adr 0 [.f 0 0, .f 0 0, .f 0 0], .str], [.var 157 (.agg [.agg [.agg [.agg [.bool, .str]]]])]⟩
noncomputable def tab163 (N : Nat) : List (Nat × (Pk → Tr Pk)) := [(229, T229 N)]
theorem tab163_ok (N : Nat) : TabOK Tryz.prog (tab163 N) := ⟨T229_ok N, trivial⟩
@[reducible] def w163 : List SP := [⟨[.tup []], [.var 157 (.agg [.agg [.agg [.agg [.bool, .str]]]])]⟩]
noncomputable def F163 (N : Nat) : (ByteArray × Bool × ByteArray) → Option (Bool × ByteArray)
  | (x0, x1, x2) =>
  iteP (decide ((↑(ByteArray.size x2 + ByteArray.size x0) : Int) > (9223372036854775807 : Int))) (
    none ) (
    Option.bind (F229 N (x2 ++ x0)) fun y0 =>
    some ((true, y0)))
noncomputable def T163 (N : Nat) : Pk → Tr Pk := tellS s163 w163 (F163 N)
theorem T163_ok (N : Nat) : FOK Tryz.prog (163) (T163 N) :=
  (fn_ok2 ownT mix (tab163_ok N) Tryz.func163 s163 w163 [0] (cuts := []) trivial (fun _ => by kernel_rfl) (by decide +kernel) (F163 N) (fun x => by kernel_rfl))
@[reducible] def s99 : SP := ⟨[.adr 0 [.f 0 0, .f 0 0], .str], [.var 157 (.agg [.agg [.agg [.agg [.bool, .str]]]])]⟩
noncomputable def tab99 (N : Nat) : List (Nat × (Pk → Tr Pk)) := [(162, T162 N), (163, T163 N)]
theorem tab99_ok (N : Nat) : TabOK Tryz.prog (tab99 N) := ⟨T162_ok N, T163_ok N, trivial⟩
@[reducible] def w99 : List SP := [⟨[.str], [.var 157 (.agg [.agg [.agg [.agg [.bool, .str]]]])]⟩]
noncomputable def F99 (N : Nat) : (ByteArray × Bool × ByteArray) → Option (ByteArray × Bool × ByteArray)
  | (x0, x1, x2) =>
  Option.bind (F162 N (x2, x0)) fun y0 =>
  iteP (!x1) (
    iteP (decide ((↑((2 : Nat) + ByteArray.size y0) : Int) > (9223372036854775807 : Int))) (
      none ) (
      Option.bind (F163 N (x0, x1, x2)) fun y1 =>
      some ((ByteArray.mk #[(120 : UInt8), (156 : UInt8)] ++ y0, y1.1, y1.2)))) (
    Option.bind (F163 N (x0, x1, x2)) fun y2 =>
    some ((y0, y2.1, y2.2)))
noncomputable def T99 (N : Nat) : Pk → Tr Pk := tellS s99 w99 (F99 N)
theorem T99_ok (N : Nat) : FOK Tryz.prog (99) (T99 N) :=
  (fn_ok2 ownT mix (tab99_ok N) Tryz.func99 s99 w99 [0] (cuts := []) trivial (fun _ => by kernel_rfl) (by decide +kernel) (F99 N) (fun x => by kernel_rfl))
@[reducible] def s230 : SP := ⟨[.int .i64], []⟩
noncomputable def tab230 (N : Nat) : List (Nat × (Pk → Tr Pk)) := []
theorem tab230_ok (N : Nat) : TabOK Tryz.prog (tab230 N) := trivial
@[reducible] def w230 : List SP := [⟨[.bool], []⟩]
noncomputable def F230 (N : Nat) : (Int) → Option (Bool)
  | x0 =>
  iteP (x0 == (1 : Int)) (
    some (true)) (
    iteP (x0 == (2 : Int)) (
      some (true)) (
      some (x0 == (4 : Int))))
noncomputable def T230 (N : Nat) : Pk → Tr Pk := tellS s230 w230 (F230 N)
theorem T230_ok (N : Nat) : FOK Tryz.prog (230) (T230 N) :=
  (fn_ok2 ownT mix (tab230_ok N) Tryz.func230 s230 w230 [] (cuts := []) trivial (fun _ => by kernel_rfl) (by decide +kernel) (F230 N) (fun x => by kernel_rfl))
@[reducible] def s164 : SP := ⟨[.int .i64, .int .i64], []⟩
noncomputable def tab164 (N : Nat) : List (Nat × (Pk → Tr Pk)) := [(230, T230 N)]
theorem tab164_ok (N : Nat) : TabOK Tryz.prog (tab164 N) := ⟨T230_ok N, trivial⟩
@[reducible] def L164_122 : LD := ⟨122, [25, 24, 6, 1], [(.ret, [4, 5]), (.exit 0, [6])], ⟨[.int .i64, .int .i64, .sl 0, .int .i64], [.row (.int .u8) 5]⟩, [(.exit 0, ⟨[.sl 0], [.row (.int .u8) 5]⟩)]⟩
abbrev P164_122 : Type := Int × Int × Int × (List Int)
abbrev R164_122 : Type := (List Int)
noncomputable def B164_122 (N : Nat) (f : P164_122 → Option R164_122) : P164_122 → Option R164_122
  | (x0, x1, x2, x3) =>
  iteP (decide (x0 < x1)) (
    iteP (decide (IntKind.wrap IntKind.i64 ((8 : Int) * x0) < (0 : Int))) (
      none ) (
      iteP (within x0 (List.length x3)) (
        Option.bind (x3[Int.toNat x0]?) fun y0 =>
        Option.bind (f (IntKind.wrap IntKind.i64 (x0 + (1 : Int)), x1, x2, List.set x3 (Int.toNat x0) (IntKind.wrap IntKind.u8 (Int.fdiv x2 ((2 : Int) ^ min (Int.toNat (IntKind.wrap IntKind.i64 ((8 : Int) * x0))) (64 : Nat)))))) fun r => some r) (
        none ))) (
    some (x3))
noncomputable def F164_122 (N : Nat) : Nat → P164_122 → Option R164_122
  | 0, _ => none
  | k + 1, x => B164_122 N (F164_122 N k) x
noncomputable def C164_122 (N : Nat) (k : Nat) : Cut := L164_122.cut (F164_122 N k)
theorem C164_122_ok (N : Nat) (k : Nat) : CutAt Tryz.prog false Tryz.f164 [] 122 (C164_122 N k) :=
  L164_122.loopT ownT mix (tab164_ok N) Tryz.f164 [] (cuts := []) trivial (by decide +kernel) (by kernel_rfl) (B164_122 N) (F164_122 N) (fun _ => rfl) (fun _ _ => rfl) (fun f x => by kernel_rfl) k
@[reducible] def w164 : List SP := [⟨[.tup [.str, .int .i64]], []⟩]
noncomputable def F164 (N : Nat) : (Int × Int) → Option (ByteArray × Int)
  | (x0, x1) =>
  Option.bind (F230 N x0) fun y0 =>
  iteP (!y0) (
    some ((ByteArray.mk #[], (1 : Int)))) (
    iteP (decide (x1 < (0 : Int))) (
      some ((ByteArray.mk #[], (1 : Int)))) (
      iteP (decide (IntKind.wrap IntKind.i64 ((8 : Int) * x0) < (0 : Int))) (
        none ) (
        iteP (Int.fdiv x1 ((2 : Int) ^ min (Int.toNat (IntKind.wrap IntKind.i64 ((8 : Int) * x0))) (64 : Nat)) != (0 : Int)) (
          some ((ByteArray.mk #[], (1 : Int)))) (
          iteP (decide ((0 : Int) ≤ x0 ∧ x0 ≤ x0 ∧ x0 * (1 : Int) ≤ (140737488355328 : Int) ∧ x0 ≤ (140737488355328 : Int))) (
            Option.bind (F164_122 N N ((0 : Int), x0, x1, List.replicate (Int.toNat x0) (0 : Int))) fun y1 =>
            some ((stringOf y1, (0 : Int)))) (
            none )))))
noncomputable def T164 (N : Nat) : Pk → Tr Pk := tellS s164 w164 (F164 N)
theorem T164_ok (N : Nat) : FOK Tryz.prog (164) (T164 N) :=
  (fn_ok2 ownT mix (tab164_ok N) Tryz.func164 s164 w164 [] (cuts := [(122, C164_122 N N)]) ⟨C164_122_ok N N, trivial⟩ (fun _ => by kernel_rfl) (by decide +kernel) (F164 N) (fun x => by kernel_rfl))
@[reducible] def s165 : SP := ⟨[.str], []⟩
noncomputable def tab165 (N : Nat) : List (Nat × (Pk → Tr Pk)) := [(231, T231 N)]
theorem tab165_ok (N : Nat) : TabOK Tryz.prog (tab165 N) := ⟨T231_ok N, trivial⟩
@[reducible] def w165 : List SP := [⟨[.str], []⟩]
noncomputable def F165 (N : Nat) : (ByteArray) → Option (ByteArray)
  | x0 =>
  iteP (decide (ByteArray.size x0 ≤ (140737488355328 : Nat))) (
    Option.bind (F231 N ((0 : Nat), List.length (bytesOf x0), bytesOf x0)) fun y0 =>
    some (stringOf y0)) (
    none )
noncomputable def T165 (N : Nat) : Pk → Tr Pk := tellS s165 w165 (F165 N)
theorem T165_ok (N : Nat) : FOK Tryz.prog (165) (T165 N) :=
  (fn_ok2 ownT mix (tab165_ok N) Tryz.func165 s165 w165 [] (cuts := []) trivial (fun _ => by kernel_rfl) (by decide +kernel) (F165 N) (fun x => by kernel_rfl))
@[reducible] def s100 : SP := ⟨[.int .i64, .int .i64], []⟩
noncomputable def tab100 (N : Nat) : List (Nat × (Pk → Tr Pk)) := [(164, T164 N), (165, T165 N)]
theorem tab100_ok (N : Nat) : TabOK Tryz.prog (tab100 N) := ⟨T164_ok N, T165_ok N, trivial⟩
@[reducible] def w100 : List SP := [⟨[.tup [.str, .int .i64]], []⟩]
noncomputable def F100 (N : Nat) : (Int × Int) → Option (ByteArray × Int)
  | (x0, x1) =>
  Option.bind (F164 N (x0, x1)) fun y0 =>
  Option.bind (F165 N y0.1) fun y1 =>
  some ((y1, y0.2))
noncomputable def T100 (N : Nat) : Pk → Tr Pk := tellS s100 w100 (F100 N)
theorem T100_ok (N : Nat) : FOK Tryz.prog (100) (T100 N) :=
  (fn_ok2 ownT mix (tab100_ok N) Tryz.func100 s100 w100 [] (cuts := []) trivial (fun _ => by kernel_rfl) (by decide +kernel) (F100 N) (fun x => by kernel_rfl))
@[reducible] def s40 : SP := ⟨[.adr 0 [.f 0 0, .f 0 0], .agg [.int .i64, .int .i64, .bool, .bool, .int .i64, .int .i64, .int .i64, .int .i64, .int .i64, .int .i64], .int .i64, .int .i64, .sl 1], [.var 157 (.agg [.agg [.agg [.agg [.bool, .str]]]]), .row (.int .i64) 3]⟩
noncomputable def tab40 (N : Nat) : List (Nat × (Pk → Tr Pk)) := [(34, T34 N), (99, T99 N), (100, T100 N)]
theorem tab40_ok (N : Nat) : TabOK Tryz.prog (tab40 N) := ⟨T34_ok N, T99_ok N, T100_ok N, trivial⟩
@[reducible] def w40 : List SP := [⟨[.tup [.str, .int .i64]], [.var 157 (.agg [.agg [.agg [.agg [.bool, .str]]]])]⟩]
noncomputable def F40 (N : Nat) : (Int × Int × Bool × Bool × Int × Int × Int × Int × Int × Int × Int × Int × Bool × ByteArray × (List Int)) → Option (ByteArray × Int × Bool × ByteArray)
  | (x0, x1, x2, x3, x4, x5, x6, x7, x8, x9, x10, x11, x12, x13, x14) =>
  Option.bind (F34 N (x0, x1, x2, x3, x4, x5, x6, x7, x8, x9, x10, x11, x14)) fun y0 =>
  iteP (y0.2 != (0 : Int)) (
    some ((ByteArray.mk #[], y0.2, x12, x13))) (
    Option.bind (F99 N (y0.1, x12, x13)) fun y1 =>
    Option.bind (F100 N ((4 : Int), (↑(ByteArray.size y1.1) : Int))) fun y2 =>
    iteP (decide ((↑(ByteArray.size y2.1 + ByteArray.size y1.1) : Int) > (9223372036854775807 : Int))) (
      none ) (
      some ((y2.1 ++ y1.1, (0 : Int), y1.2.1, y1.2.2))))
noncomputable def T40 (N : Nat) : Pk → Tr Pk := tellS s40 w40 (F40 N)
theorem T40_ok (N : Nat) : FOK Tryz.prog (40) (T40 N) :=
  (fn_ok2 ownT mix (tab40_ok N) Tryz.func40 s40 w40 [0] (cuts := []) trivial (fun _ => by kernel_rfl) (by decide +kernel) (F40 N) (fun x => by kernel_rfl))
end Go.Proofs.YtfcamlibbfnldaaGreat.Am
