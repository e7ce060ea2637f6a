/- The seat's Go functions come to the Lean functions written here, wherever these give an answer (part D). -/
import Derived.Test.YtfcamlibbfnldaaGreatSC
set_option linter.unusedSimpArgs false
set_option linter.unusedVariables false
set_option linter.unusedSectionVars false
set_option maxRecDepth 100000
namespace Go.Proofs.YtfcamlibbfnldaaGreat.Am
open Go.Am
@[reducible] def s171 : SP := ⟨[.agg [.int .i64, .int .i64, .bool, .bool, .int .i64, .int .i64, .int .i64, .int .i64, .int .i64, .int .i64], .int .i64], []⟩
noncomputable def tab171 (N : Nat) : List (Nat × (Pk → Tr Pk)) := [(39, T39 N), (95, T95 N)]
theorem tab171_ok (N : Nat) : TabOK Tryz.prog (tab171 N) := ⟨T39_ok N, T95_ok N, trivial⟩
@[reducible] def L171_122 : LD := ⟨122, [5, 14, 13, 1], [(.ret, [4]), (.exit 0, [5])], ⟨[.int .i64, .int .i64, .arr y1 3, .int .i64], []⟩, [(.exit 0, ⟨[.int .i64], []⟩)]⟩
abbrev P171_122 : Type := Int × Int × (List (Int × (Int × Unit))) × Int
abbrev R171_122 : Type := Int
noncomputable def B171_122 (N : Nat) (f : P171_122 → Option R171_122) : P171_122 → Option R171_122
  | (x0, x1, x2, x3) =>
  iteP (decide (x1 < (3 : Int))) (
    iteP (within x1 (List.length x2)) (
      Option.bind (x2[Int.toNat x1]?) fun y0 =>
      iteP (decide (IntKind.wrap IntKind.i64 ((8 : Int) * IntKind.wrap IntKind.i64 ((2 : Int) - x1)) < (0 : Int))) (
        none ) (
        iteP (decide (y0.2.1 < (0 : Int))) (
          none ) (
          Option.bind (f (IntKind.wrap IntKind.i64 (↑(BitVec.toNat (BitVec.ofInt (64 : Nat) x0 ||| BitVec.ofInt (64 : Nat) (IntKind.wrap IntKind.i64 (IntKind.wrap IntKind.i64 (Int.tdiv (IntKind.wrap IntKind.i64 (IntKind.wrap IntKind.i64 (IntKind.wrap IntKind.i64 (↑(BitVec.toNat (BitVec.ofInt (64 : Nat) (Int.fdiv x3 ((2 : Int) ^ min (Int.toNat (IntKind.wrap IntKind.i64 ((8 : Int) * IntKind.wrap IntKind.i64 ((2 : Int) - x1)))) (64 : Nat))) &&& BitVec.ofInt (64 : Nat) (255 : Int))) : Int) * y0.1) + (127 : Int))) (255 : Int)) * (2 : Int) ^ min (Int.toNat y0.2.1) (64 : Nat))))) : Int), IntKind.wrap IntKind.i64 (x1 + (1 : Int)), x2, x3)) fun r => some r))) (
      none )) (
    some (x0))
noncomputable def F171_122 (N : Nat) : Nat → P171_122 → Option R171_122
  | 0, _ => none
  | k + 1, x => B171_122 N (F171_122 N k) x
noncomputable def C171_122 (N : Nat) (k : Nat) : Cut := L171_122.cut (F171_122 N k)
theorem C171_122_ok (N : Nat) (k : Nat) : CutAt Tryz.prog false Tryz.f171 [] 122 (C171_122 N k) :=
  L171_122.loopT ownT mix (tab171_ok N) Tryz.f171 [] (cuts := []) trivial (by decide +kernel) (by kernel_rfl) (B171_122 N) (F171_122 N) (fun _ => rfl) (fun _ _ => rfl) (fun f x => by kernel_rfl) k
@[reducible] def w171 : List SP := [⟨[.int .i64], []⟩]
noncomputable def F171 (N : Nat) : (Int × Int × Bool × Bool × Int × Int × Int × Int × Int × Int × Int) → Option (Int)
  | (x0, x1, x2, x3, x4, x5, x6, x7, x8, x9, x10) =>
  Option.bind (F39 N (x0, x1, x2, x3, x4, x5, x6, x7, x8, x9)) fun y0 =>
  iteP (!y0) (
    some ((0 : Int))) (
    Option.bind (F95 N (x0, x1, x2, x3, x4, x5, x6, x7, x8, x9)) fun y1 =>
    Option.bind (F171_122 N N ((0 : Int), (0 : Int), y1, x10)) fun y2 =>
    some (y2))
noncomputable def T171 (N : Nat) : Pk → Tr Pk := tellS s171 w171 (F171 N)
theorem T171_ok (N : Nat) : FOK Tryz.prog (171) (T171 N) :=
  (fn_ok2 ownT mix (tab171_ok N) Tryz.func171 s171 w171 [] (cuts := [(122, C171_122 N N)]) ⟨C171_122_ok N N, trivial⟩ (fun _ => by kernel_rfl) (by decide +kernel) (F171 N) (fun x => by kernel_rfl))
@[reducible] def s169 : SP := ⟨[.agg [.int .i64, .int .i64, .bool, .bool, .int .i64, .int .i64, .int .i64, .int .i64, .int .i64, .int .i64], .int .i64], []⟩
noncomputable def tab169 (N : Nat) : List (Nat × (Pk → Tr Pk)) := [(171, T171 N), (85, T85 N)]
theorem tab169_ok (N : Nat) : TabOK Tryz.prog (tab169 N) := ⟨T171_ok N, T85_ok N, trivial⟩
@[reducible] def w169 : List SP := [⟨[.int .i64], []⟩]
noncomputable def F169 (N : Nat) : (Int × Int × Bool × Bool × Int × Int × Int × Int × Int × Int × Int) → Option (Int)
  | (x0, x1, x2, x3, x4, x5, x6, x7, x8, x9, x10) =>
  Option.bind (F171 N (x0, x1, x2, x3, x4, x5, x6, x7, x8, x9, x10)) fun y0 =>
  Option.bind (F85 N (x0, x1, x2, x3, x4, x5, x6, x7, x8, x9, y0)) fun y1 =>
  some (y1)
noncomputable def T169 (N : Nat) : Pk → Tr Pk := tellS s169 w169 (F169 N)
theorem T169_ok (N : Nat) : FOK Tryz.prog (169) (T169 N) :=
  (fn_ok2 ownT mix (tab169_ok N) Tryz.func169 s169 w169 [] (cuts := []) trivial (fun _ => by kernel_rfl) (by decide +kernel) (F169 N) (fun x => by kernel_rfl))
@[reducible] def s170 : SP := ⟨[.int .i64, .radr (.sl (.int .i64)) [.i 0 1]], []⟩
noncomputable def tab170 (N : Nat) : List (Nat × (Pk → Tr Pk)) := []
theorem tab170_ok (N : Nat) : TabOK Tryz.prog (tab170 N) := trivial
@[reducible] def w170 : List SP := [⟨[.bool], []⟩]
noncomputable def F170 (N : Nat) : (Int × (List Int)) → Option (Bool)
  | (x0, x1) =>
  iteP (within (0 : Int) (List.length x1)) (
    Option.bind (x1[(0 : Nat)]?) fun y0 =>
    some (x0 != y0)) (
    none )
noncomputable def T170 (N : Nat) : Pk → Tr Pk := tellS s170 w170 (F170 N)
theorem T170_ok (N : Nat) : FOK Tryz.prog (170) (T170 N) :=
  (fn_ok2 ownT mix (tab170_ok N) Tryz.func170 s170 w170 [] (cuts := []) trivial (fun _ => by kernel_rfl) (by decide +kernel) (F170 N) (fun x => by kernel_rfl))
@[reducible] def s109c : SP := ⟨[.slp 0 .h .h, .clo 170 [.adr 1 []]], [.row (.int .i64) 3, .var 29 (.sl 0)]⟩
noncomputable def tab109c (N : Nat) : List (Nat × (Pk → Tr Pk)) := [(170, T170 N)]
theorem tab109c_ok (N : Nat) : TabOK Tryz.prog (tab109c N) := ⟨T170_ok N, trivial⟩
@[reducible] def L109c_26 : LD := ⟨26, [7, 1, 0, 8], [(.ret, [4]), (.exit 0, [])], ⟨[.int .i64, .clo 170 [.adr 1 []], .slp 0 .h .h, .int .i64], [.row (.int .i64) 3, .var 29 (.sl 0)]⟩, [(.ret, ⟨[.int .i64], [.row (.int .i64) 3, .var 29 (.sl 0)]⟩), (.exit 0, ⟨[], [.row (.int .i64) 3, .var 29 (.sl 0)]⟩)]⟩
abbrev P109c_26 : Type := Int × Nat × Nat × Int × (List Int)
abbrev R109c_26 : Type := ((Int × (List Int)) ⊕ ((List Int)))
noncomputable def B109c_26 (N : Nat) (f : P109c_26 → Option R109c_26) : P109c_26 → Option R109c_26
  | (x0, x1, x2, x3, x4) =>
  iteP (decide (x3 < x0)) (
    iteP (within x3 x2) (
      Option.bind (x4[x1 + Int.toNat x3]?) fun y0 =>
      Option.bind (F170 N (y0, x4)) fun y1 =>
      iteP (y1) (
        some (.inl ((x3, x4)))) (
        Option.bind (f (x0, x1, x2, IntKind.wrap IntKind.i64 (x3 + (1 : Int)), x4)) fun r => match r with | .inl y => some (.inl y) | .inr y => some (.inr y))) (
      none )) (
    some (.inr (x4)))
noncomputable def F109c_26 (N : Nat) : Nat → P109c_26 → Option R109c_26
  | 0, _ => none
  | k + 1, x => B109c_26 N (F109c_26 N k) x
noncomputable def C109c_26 (N : Nat) (k : Nat) : Cut := L109c_26.cut (F109c_26 N k)
theorem C109c_26_ok (N : Nat) (k : Nat) : CutAt Tryz.prog false Tryz.f109 [0, 1] 26 (C109c_26 N k) :=
  L109c_26.loopT ownT mix (tab109c_ok N) Tryz.f109 [0, 1] (cuts := []) trivial (by decide +kernel) (by kernel_rfl) (B109c_26 N) (F109c_26 N) (fun _ => rfl) (fun _ _ => rfl) (fun f x => by kernel_rfl) k
@[reducible] def w109c : List SP := [⟨[.int .i64], [.row (.int .i64) 3, .var 29 (.sl 0)]⟩]
noncomputable def F109c (N : Nat) : (Nat × Nat × (List Int)) → Option (Int × (List Int))
  | (x0, x1, x2) =>
  Option.bind (F109c_26 N N ((↑x1 : Int), x0, x1, (0 : Int), x2)) fun y0 =>
  match y0 with
  | .inl y1 =>
    some ((y1.1, y1.2))
  | .inr y1 =>
    some (((-1 : Int), y1))
noncomputable def T109c (N : Nat) : Pk → Tr Pk := tellS s109c w109c (F109c N)
theorem T109c_ok (N : Nat) : FOK Tryz.prog (109) (T109c N) :=
  (fn_ok2 ownT mix (tab109c_ok N) Tryz.func109 s109c w109c [0, 1] (cuts := [(26, C109c_26 N N)]) ⟨C109c_26_ok N N, trivial⟩ (fun _ => by kernel_rfl) (by decide +kernel) (F109c N) (fun x => by kernel_rfl))
@[reducible] def s77c : SP := ⟨[.slp 0 .h .h, .clo 170 [.adr 1 []]], [.row (.int .i64) 3, .var 29 (.sl 0)]⟩
noncomputable def tab77c (N : Nat) : List (Nat × (Pk → Tr Pk)) := [(109, T109c N)]
theorem tab77c_ok (N : Nat) : TabOK Tryz.prog (tab77c N) := ⟨T109c_ok N, trivial⟩
@[reducible] def w77c : List SP := [⟨[.bool], [.row (.int .i64) 3, .var 29 (.sl 0)]⟩]
noncomputable def F77c (N : Nat) : (Nat × Nat × (List Int)) → Option (Bool × (List Int))
  | (x0, x1, x2) =>
  Option.bind (F109c N (x0, x1, x2)) fun y0 =>
  some ((decide (y0.1 ≥ (0 : Int)), y0.2))
noncomputable def T77c (N : Nat) : Pk → Tr Pk := tellS s77c w77c (F77c N)
theorem T77c_ok (N : Nat) : FOK Tryz.prog (77) (T77c N) :=
  (fn_ok2 ownT mix (tab77c_ok N) Tryz.func77 s77c w77c [0, 1] (cuts := []) trivial (fun _ => by kernel_rfl) (by decide +kernel) (F77c N) (fun x => by kernel_rfl))
@[reducible] def s267 : SP := ⟨[.agg [.int .i64, .int .i64, .bool, .bool, .int .i64, .int .i64, .int .i64, .int .i64, .int .i64, .int .i64], .int .i64, .int .i64], []⟩
noncomputable def tab267 (N : Nat) : List (Nat × (Pk → Tr Pk)) := [(231, T231 N)]
theorem tab267_ok (N : Nat) : TabOK Tryz.prog (tab267 N) := ⟨T231_ok N, trivial⟩
@[reducible] def L267_58 : LD := ⟨58, [7, 10, 9, 3, 2], [(.ret, [6]), (.exit 0, [3, 7])], ⟨[.sl 0, .int .i64, .int .i64, .adr 1 [], .int .i64], [.row (.int .u8) 5, .var 43 (.agg [.int .i64, .int .i64, .bool, .bool, .int .i64, .int .i64, .int .i64, .int .i64, .int .i64, .int .i64])]⟩, [(.exit 0, ⟨[.adr 0 [], .sl 1], [.var 43 (.agg [.int .i64, .int .i64, .bool, .bool, .int .i64, .int .i64, .int .i64, .int .i64, .int .i64, .int .i64]), .row (.int .u8) 5]⟩)]⟩
abbrev P267_58 : Type := Int × Int × Int × (List Int) × Int × Int × Bool × Bool × Int × Int × Int × Int × Int × Int
abbrev R267_58 : Type := Int × Int × Bool × Bool × Int × Int × Int × Int × Int × Int × (List Int)
noncomputable def B267_58 (N : Nat) (f : P267_58 → Option R267_58) : P267_58 → Option R267_58
  | (x0, x1, x2, x3, x4, x5, x6, x7, x8, x9, x10, x11, x12, x13) =>
  iteP (decide (x0 < x1)) (
    iteP (decide (IntKind.wrap IntKind.i64 ((8 : Int) * x0) < (0 : Int))) (
      none ) (
      iteP (decide ((List.length x3 + List.length [IntKind.wrap IntKind.u8 (Int.fdiv x2 ((2 : Int) ^ min (Int.toNat (IntKind.wrap IntKind.i64 ((8 : Int) * x0))) (64 : Nat)))]) * (1 : Nat) ≤ (140737488355328 : Nat) ∧ List.length x3 + List.length [IntKind.wrap IntKind.u8 (Int.fdiv x2 ((2 : Int) ^ min (Int.toNat (IntKind.wrap IntKind.i64 ((8 : Int) * x0))) (64 : Nat)))] ≤ (140737488355328 : Nat))) (
        Option.bind (f (IntKind.wrap IntKind.i64 (x0 + (1 : Int)), x1, x2, x3 ++ [IntKind.wrap IntKind.u8 (Int.fdiv x2 ((2 : Int) ^ min (Int.toNat (IntKind.wrap IntKind.i64 ((8 : Int) * x0))) (64 : Nat)))], x4, x5, x6, x7, x8, x9, x10, x11, x12, x13)) fun r => some r) (
        none ))) (
    some ((x4, x5, x6, x7, x8, x9, x10, x11, x12, x13, x3)))
noncomputable def F267_58 (N : Nat) : Nat → P267_58 → Option R267_58
  | 0, _ => none
  | k + 1, x => B267_58 N (F267_58 N k) x
noncomputable def C267_58 (N : Nat) (k : Nat) : Cut := L267_58.cut (F267_58 N k)
theorem C267_58_ok (N : Nat) (k : Nat) : CutAt Tryz.prog false Tryz.f267 [] 58 (C267_58 N k) :=
  L267_58.loopT ownT mix (tab267_ok N) Tryz.f267 [] (cuts := []) trivial (by decide +kernel) (by kernel_rfl) (B267_58 N) (F267_58 N) (fun _ => rfl) (fun _ _ => rfl) (fun f x => by kernel_rfl) k
@[reducible] def w267 : List SP := [⟨[.str], []⟩]
noncomputable def F267 (N : Nat) : (Int × Int × Bool × Bool × Int × Int × Int × Int × Int × Int × Int × Int) → Option (ByteArray)
  | (x0, x1, x2, x3, x4, x5, x6, x7, x8, x9, x10, x11) =>
  Option.bind (F267_58 N N ((0 : Int), x10, x11, [], x0, x1, x2, x3, x4, x5, x6, x7, x8, x9)) fun (y0_0, y0_1, y0_2, y0_3, y0_4, y0_5, y0_6, y0_7, y0_8, y0_9, y0_10) =>
  iteP (y0_2) (
    Option.bind (F231 N ((0 : Nat), List.length y0_10, y0_10)) fun y1 =>
    some (stringOf y1)) (
    some (stringOf y0_10))
noncomputable def T267 (N : Nat) : Pk → Tr Pk := tellS s267 w267 (F267 N)
theorem T267_ok (N : Nat) : FOK Tryz.prog (267) (T267 N) :=
  (fn_ok2 ownT mix (tab267_ok N) Tryz.func267 s267 w267 [] (cuts := [(58, C267_58 N N)]) ⟨C267_58_ok N N, trivial⟩ (fun _ => by kernel_rfl) (by decide +kernel) (F267 N) (fun x => by kernel_rfl))
@[reducible] def s235 : SP := ⟨[.agg [.int .i64, .int .i64, .bool, .bool, .int .i64, .int .i64, .int .i64, .int .i64, .int .i64, .int .i64], .int .i64], []⟩
noncomputable def tab235 (N : Nat) : List (Nat × (Pk → Tr Pk)) := [(97, T97 N), (267, T267 N)]
theorem tab235_ok (N : Nat) : TabOK Tryz.prog (tab235 N) := ⟨T97_ok N, T267_ok N, trivial⟩
@[reducible] def w235 : List SP := [⟨[.str], []⟩]
noncomputable def F235 (N : Nat) : (Int × Int × Bool × Bool × Int × Int × Int × Int × Int × Int × Int) → Option (ByteArray)
  | (x0, x1, x2, x3, x4, x5, x6, x7, x8, x9, x10) =>
  Option.bind (F97 N (x0, x1, x2, x3, x4, x5, x6, x7, x8, x9)) fun y0 =>
  Option.bind (F267 N (x0, x1, x2, x3, x4, x5, x6, x7, x8, x9, y0, x10)) fun y1 =>
  some (y1)
noncomputable def T235 (N : Nat) : Pk → Tr Pk := tellS s235 w235 (F235 N)
theorem T235_ok (N : Nat) : FOK Tryz.prog (235) (T235 N) :=
  (fn_ok2 ownT mix (tab235_ok N) Tryz.func235 s235 w235 [] (cuts := []) trivial (fun _ => by kernel_rfl) (by decide +kernel) (F235 N) (fun x => by kernel_rfl))
@[reducible] def s172 : SP := ⟨[.agg [.int .i64, .int .i64, .bool, .bool, .int .i64, .int .i64, .int .i64, .int .i64, .int .i64, .int .i64], .int .i64], []⟩
noncomputable def tab172 (N : Nat) : List (Nat × (Pk → Tr Pk)) := [(234, T234 N), (235, T235 N), (236, T236 N)]
theorem tab172_ok (N : Nat) : TabOK Tryz.prog (tab172 N) := ⟨T234_ok N, T235_ok N, T236_ok N, trivial⟩
@[reducible] def L172_122 : LD := ⟨122, [5, 16, 15, 1], [(.ret, [4]), (.exit 0, [5])], ⟨[.sl 0, .int .i64, .arr (.int .i64) 3, .int .i64], [.row (.int .u8) 5]⟩, [(.exit 0, ⟨[.sl 0], [.row (.int .u8) 5]⟩)]⟩
abbrev P172_122 : Type := Int × (List Int) × Int × (List Int)
abbrev R172_122 : Type := (List Int)
noncomputable def B172_122 (N : Nat) (f : P172_122 → Option R172_122) : P172_122 → Option R172_122
  | (x0, x1, x2, x3) =>
  iteP (decide (x0 < (3 : Int))) (
    iteP (within x0 (List.length x1)) (
      Option.bind (x1[Int.toNat x0]?) fun y0 =>
      iteP (decide (y0 < (0 : Int))) (
        none ) (
        iteP (decide ((List.length x3 + List.length [IntKind.wrap IntKind.u8 (Int.fdiv x2 ((2 : Int) ^ min (Int.toNat y0) (64 : Nat)))]) * (1 : Nat) ≤ (140737488355328 : Nat) ∧ List.length x3 + List.length [IntKind.wrap IntKind.u8 (Int.fdiv x2 ((2 : Int) ^ min (Int.toNat y0) (64 : Nat)))] ≤ (140737488355328 : Nat))) (
          Option.bind (f (IntKind.wrap IntKind.i64 (x0 + (1 : Int)), x1, x2, x3 ++ [IntKind.wrap IntKind.u8 (Int.fdiv x2 ((2 : Int) ^ min (Int.toNat y0) (64 : Nat)))])) fun r => some r) (
          none ))) (
      none )) (
    some (x3))
noncomputable def F172_122 (N : Nat) : Nat → P172_122 → Option R172_122
  | 0, _ => none
  | k + 1, x => B172_122 N (F172_122 N k) x
noncomputable def C172_122 (N : Nat) (k : Nat) : Cut := L172_122.cut (F172_122 N k)
theorem C172_122_ok (N : Nat) (k : Nat) : CutAt Tryz.prog false Tryz.f172 [] 122 (C172_122 N k) :=
  L172_122.loopT ownT mix (tab172_ok N) Tryz.f172 [] (cuts := []) trivial (by decide +kernel) (by kernel_rfl) (B172_122 N) (F172_122 N) (fun _ => rfl) (fun _ _ => rfl) (fun f x => by kernel_rfl) k
@[reducible] def w172 : List SP := [⟨[.str], []⟩]
noncomputable def F172 (N : Nat) : (Int × Int × Bool × Bool × Int × Int × Int × Int × Int × Int × Int) → Option (ByteArray)
  | (x0, x1, x2, x3, x4, x5, x6, x7, x8, x9, x10) =>
  Option.bind (F234 N (x0, x1, x2, x3, x4, x5, x6, x7, x8, x9)) fun y0 =>
  iteP (!y0) (
    Option.bind (F235 N (x0, x1, x2, x3, x4, x5, x6, x7, x8, x9, x10)) fun y1 =>
    some (y1)) (
    Option.bind (F236 N (x0, x1, x2, x3, x4, x5, x6, x7, x8, x9)) fun y2 =>
    Option.bind (F172_122 N N ((0 : Int), y2, x10, [])) fun y3 =>
    some (stringOf y3))
noncomputable def T172 (N : Nat) : Pk → Tr Pk := tellS s172 w172 (F172 N)
theorem T172_ok (N : Nat) : FOK Tryz.prog (172) (T172 N) :=
  (fn_ok2 ownT mix (tab172_ok N) Tryz.func172 s172 w172 [] (cuts := [(122, C172_122 N N)]) ⟨C172_122_ok N N, trivial⟩ (fun _ => by kernel_rfl) (by decide +kernel) (F172 N) (fun x => by kernel_rfl))
@[reducible] def s104 : SP := ⟨[.agg [.int .i64, .int .i64, .bool, .bool, .int .i64, .int .i64, .int .i64, .int .i64, .int .i64, .int .i64], .int .i64, .int .i64, .ro (.int .i64), .int .i64], []⟩
noncomputable def tab104 (N : Nat) : List (Nat × (Pk → Tr Pk)) := [(35, T35 N), (169, T169 N), (77, T77c N), (171, T171 N), (172, T172 N), (20, T20 N), (43, T43 N)]
theorem tab104_ok (N : Nat) : TabOK Tryz.prog (tab104 N) := ⟨T35_ok N, T169_ok N, T77c_ok N, T171_ok N, T172_ok N, T20_ok N, T43_ok N, trivial⟩
@[reducible] def L104_122 : LD := ⟨122, [43, 42, 4, 3, 1, 2, 41, 5, 12], [(.ret, [10, 11]), (.exit 0, [12, 2, 1, 3, 4, 5])], ⟨[.int .i64, .int .i64, .int .i64, .ro (.int .i64), .int .i64, .int .i64, .ro (.int .i64), .adr 0 [], .adr 1 []], [.var 43 (.agg [.int .i64, .int .i64, .bool, .bool, .int .i64, .int .i64, .int .i64, .int .i64, .int .i64, .int .i64]), .var 29 (.sl 2), .row (.int .i64) 3]⟩, [(.exit 0, ⟨[.adr 0 [], .int .i64, .int .i64, .ro (.int .i64), .int .i64, .adr 1 []], [.var 29 (.sl 2), .var 43 (.agg [.int .i64, .int .i64, .bool, .bool, .int .i64, .int .i64, .int .i64, .int .i64, .int .i64, .int .i64]), .row (.int .i64) 3]⟩)]⟩
abbrev P104_122 : Type := Int × Int × Int × (List Int) × Int × Int × (List Int) × Int × Int × Bool × Bool × Int × Int × Int × Int × Int × Int × (List Int)
abbrev R104_122 : Type := Int × Int × (List Int) × Int × Int × Int × Bool × Bool × Int × Int × Int × Int × Int × Int × (List Int)
noncomputable def B104_122 (N : Nat) (f : P104_122 → Option R104_122) : P104_122 → Option R104_122
  | (x0, x1, x2, x3, x4, x5, x6, x7, x8, x9, x10, x11, x12, x13, x14, x15, x16, x17) =>
  iteP (decide (x0 < x1)) (
    iteP (within x0 (List.length x6)) (
      Option.bind (x6[Int.toNat x0]?) fun y0 =>
      Option.bind (F169 N (x7, x8, x9, x10, x11, x12, x13, x14, x15, x16, y0)) fun y1 =>
      iteP (decide ((List.length x17 + List.length [y1]) * (8 : Nat) ≤ (140737488355328 : Nat) ∧ List.length x17 + List.length [y1] ≤ (140737488355328 : Nat))) (
        Option.bind (f (IntKind.wrap IntKind.i64 (x0 + (1 : Int)), x1, x2, x3, x4, x5, x6, x7, x8, x9, x10, x11, x12, x13, x14, x15, x16, x17 ++ [y1])) fun r => some r) (
        none )) (
      none )) (
    some ((x5, x4, x3, x2, x7, x8, x9, x10, x11, x12, x13, x14, x15, x16, x17)))
noncomputable def F104_122 (N : Nat) : Nat → P104_122 → Option R104_122
  | 0, _ => none
  | k + 1, x => B104_122 N (F104_122 N k) x
noncomputable def C104_122 (N : Nat) (k : Nat) : Cut := L104_122.cut (F104_122 N k)
theorem C104_122_ok (N : Nat) (k : Nat) : CutAt Tryz.prog false Tryz.f104 [] 122 (C104_122 N k) :=
  L104_122.loopT ownT mix (tab104_ok N) Tryz.f104 [] (cuts := []) trivial (by decide +kernel) (by kernel_rfl) (B104_122 N) (F104_122 N) (fun _ => rfl) (fun _ _ => rfl) (fun f x => by kernel_rfl) k
@[reducible] def L104_7 : LD := ⟨7, [4, 3, 1, 2, 5], [(.ret, [10, 11]), (.normal, [10, 11])], ⟨[.int .i64, .ro (.int .i64), .int .i64, .int .i64, .adr 0 []], [.var 43 (.agg [.int .i64, .int .i64, .bool, .bool, .int .i64, .int .i64, .int .i64, .int .i64, .int .i64, .int .i64])]⟩, [(.ret, ⟨[.str, .int .i64], []⟩)]⟩
noncomputable def F104_7 (N : Nat) : (Int × (List Int) × Int × Int × Int × Int × Bool × Bool × Int × Int × Int × Int × Int × Int) → Option (ByteArray × Int)
  | (x0, x1, x2, x3, x4, x5, x6, x7, x8, x9, x10, x11, x12, x13) =>
  Option.bind (F104_122 N N ((0 : Int), (↑(List.length x1) : Int), x0, x1, x2, x3, x1, x4, x5, x6, x7, x8, x9, x10, x11, x12, x13, [])) fun (y0_0, y0_1, y0_2, y0_3, y0_4, y0_5, y0_6, y0_7, y0_8, y0_9, y0_10, y0_11, y0_12, y0_13, y0_14) =>
  Option.bind (F77c N ((0 : Nat), List.length y0_14, y0_14)) fun y1 =>
  iteP (!y1.1) (
    iteP (decide ((↑(List.length y0_2) : Int) > (0 : Int))) (
      iteP (within (0 : Int) (List.length y0_2)) (
        Option.bind (y0_2[(0 : Nat)]?) fun y2 =>
        Option.bind (F171 N (y0_4, y0_5, y0_6, y0_7, y0_8, y0_9, y0_10, y0_11, y0_12, y0_13, y2)) fun y3 =>
        Option.bind (F172 N (y0_4, y0_5, y0_6, y0_7, y0_8, y0_9, y0_10, y0_11, y0_12, y0_13, y3)) fun y4 =>
        iteP (decide ((↑(ByteArray.size (stringOf [IntKind.wrap IntKind.u8 (IntKind.wrap IntKind.i64 (↑(BitVec.toNat (BitVec.ofInt (64 : Nat) (128 : Int) ||| BitVec.ofInt (64 : Nat) y0_3)) : Int))]) + ByteArray.size y4) : Int) > (9223372036854775807 : Int))) (
          none ) (
          some ((stringOf [IntKind.wrap IntKind.u8 (IntKind.wrap IntKind.i64 (↑(BitVec.toNat (BitVec.ofInt (64 : Nat) (128 : Int) ||| BitVec.ofInt (64 : Nat) y0_3)) : Int))] ++ y4, (0 : Int))))) (
        none )) (
      Option.bind (F172 N (y0_4, y0_5, y0_6, y0_7, y0_8, y0_9, y0_10, y0_11, y0_12, y0_13, (0 : Int))) fun y5 =>
      iteP (decide ((↑(ByteArray.size (stringOf [IntKind.wrap IntKind.u8 (IntKind.wrap IntKind.i64 (↑(BitVec.toNat (BitVec.ofInt (64 : Nat) (128 : Int) ||| BitVec.ofInt (64 : Nat) y0_3)) : Int))]) + ByteArray.size y5) : Int) > (9223372036854775807 : Int))) (
        none ) (
        some ((stringOf [IntKind.wrap IntKind.u8 (IntKind.wrap IntKind.i64 (↑(BitVec.toNat (BitVec.ofInt (64 : Nat) (128 : Int) ||| BitVec.ofInt (64 : Nat) y0_3)) : Int))] ++ y5, (0 : Int)))))) (
    Option.bind (F20 N (y0_1, y0_0, y1.2, [], (0 : Int))) fun y6 =>
    iteP (y6.2 != (0 : Int)) (
      some ((ByteArray.mk #[], y6.2))) (
      Option.bind (F43 N (↑(ByteArray.size y6.1) : Int)) fun y7 =>
      iteP (y7.2 != (0 : Int)) (
        some ((ByteArray.mk #[], (4 : Int)))) (
        iteP (decide ((↑(ByteArray.size (stringOf [IntKind.wrap IntKind.u8 (IntKind.wrap IntKind.i64 (↑(BitVec.toNat (BitVec.ofInt (64 : Nat) (160 : Int) ||| BitVec.ofInt (64 : Nat) y0_3)) : Int))]) + ByteArray.size y7.1) : Int) > (9223372036854775807 : Int))) (
          none ) (
          iteP (decide ((↑(ByteArray.size (stringOf [IntKind.wrap IntKind.u8 (IntKind.wrap IntKind.i64 (↑(BitVec.toNat (BitVec.ofInt (64 : Nat) (160 : Int) ||| BitVec.ofInt (64 : Nat) y0_3)) : Int))] ++ y7.1) + ByteArray.size y6.1) : Int) > (9223372036854775807 : Int))) (
            none ) (
            some ((stringOf [IntKind.wrap IntKind.u8 (IntKind.wrap IntKind.i64 (↑(BitVec.toNat (BitVec.ofInt (64 : Nat) (160 : Int) ||| BitVec.ofInt (64 : Nat) y0_3)) : Int))] ++ y7.1 ++ y6.1, (0 : Int))))))))
noncomputable def C104_7 (N : Nat) (_ : Nat) : Cut := L104_7.cut (F104_7 N)
theorem C104_7_ok (N : Nat) (k : Nat) : CutAt Tryz.prog false Tryz.f104 [] 7 (C104_7 N k) :=
  L104_7.pieceT ownT mix (tab104_ok N) Tryz.f104 [] (cuts := [(122, C104_122 N N)]) ⟨C104_122_ok N N, trivial⟩ (by decide +kernel) (by kernel_rfl) (F104_7 N) (fun x => by kernel_rfl)
@[reducible] def w104 : List SP := [⟨[.tup [.str, .int .i64]], []⟩]
noncomputable def F104 (N : Nat) : (Int × Int × Bool × Bool × Int × Int × Int × Int × Int × Int × Int × Int × (List Int) × Int) → Option (ByteArray × Int)
  | (x0, x1, x2, x3, x4, x5, x6, x7, x8, x9, x10, x11, x12, x13) =>
  Option.bind (F35 N (x0, x1, x2, x3, x4, x5, x6, x7, x8, x9, x10, x11)) fun y0 =>
  iteP (!y0) (
    some ((ByteArray.mk #[], (1 : Int)))) (
    iteP ((↑(List.length x12) : Int) != IntKind.wrap IntKind.i64 (x10 * x11)) (
      some ((ByteArray.mk #[], (1 : Int)))) (
      iteP (decide (x13 < (0 : Int))) (
        some ((ByteArray.mk #[], (1 : Int)))) (
        iteP (decide (x13 > (15 : Int))) (
          some ((ByteArray.mk #[], (1 : Int)))) (
          Option.bind (F104_7 N (x13, x12, x10, x11, x0, x1, x2, x3, x4, x5, x6, x7, x8, x9)) fun y1 =>
          some ((y1.1, y1.2))))))
noncomputable def T104 (N : Nat) : Pk → Tr Pk := tellS s104 w104 (F104 N)
theorem T104_ok (N : Nat) : FOK Tryz.prog (104) (T104 N) :=
  (fn_ok2 ownT mix (tab104_ok N) Tryz.func104 s104 w104 [] (cuts := [(122, C104_122 N N), (7, C104_7 N N)]) ⟨C104_122_ok N N, C104_7_ok N N, trivial⟩ (fun _ => by kernel_rfl) (by decide +kernel) (F104 N) (fun x => by kernel_rfl))
@[reducible] def s42 : SP := ⟨[], []⟩
noncomputable def tab42 (N : Nat) : List (Nat × (Pk → Tr Pk)) := [(43, T43 N), (102, T102 N), (103, T103 N), (31, T31 N), (104, T104 N)]
theorem tab42_ok (N : Nat) : TabOK Tryz.prog (tab42 N) := ⟨T43_ok N, T102_ok N, T103_ok N, T31_ok N, T104_ok N, trivial⟩
@[reducible] def w42 : List SP := [⟨[.bool], []⟩]
noncomputable def F42 (N : Nat) : (Unit) → Option (Bool)
  | () =>
  Option.bind (F43 N (300 : Int)) fun y0 =>
  Option.bind (F102 N ()) fun (y1_0, y1_1, y1_2, y1_3, y1_4, y1_5, y1_6, y1_7, y1_8, y1_9) =>
  Option.bind (F103 N (y1_0, y1_1, y1_2, y1_3, y1_4, y1_5, y1_6, y1_7, y1_8, y1_9, (1 : Int), (1 : Int), ByteArray.mk #[(133 : UInt8), (1 : UInt8), (2 : UInt8), (3 : UInt8), (120 : UInt8)])) fun y2 =>
  Option.bind (F31 N (y2.2.2.2, [(66051 : Int)])) fun y3 =>
  Option.bind (F104 N (y1_0, y1_1, y1_2, y1_3, y1_4, y1_5, y1_6, y1_7, y1_8, y1_9, (2 : Int), (1 : Int), [(1 : Int), (2 : Int)], (3 : Int))) fun y4 =>
  Option.bind (F103 N (y1_0, y1_1, y1_2, y1_3, y1_4, y1_5, y1_6, y1_7, y1_8, y1_9, (2 : Int), (1 : Int), y4.1)) fun y5 =>
  Option.bind (F31 N (y5.2.2.2, [(1 : Int), (2 : Int)])) fun y6 =>
  iteP (ByteArray.toList y0.1 == [(172 : UInt8), (2 : UInt8)]) (
    iteP (y0.2 == (0 : Int)) (
      iteP (y3) (
        iteP (y2.1 == (5 : Int)) (
          iteP (y2.2.1 == (4 : Int)) (
            iteP (y2.2.2.1 == (0 : Int)) (
              iteP (y4.2 == (0 : Int)) (
                iteP (y6) (
                  iteP (y5.1 == (3 : Int)) (
                    iteP (y5.2.1 == (↑(ByteArray.size y4.1) : Int)) (
                      some (y5.2.2.1 == (0 : Int))) (
                      some (false))) (
                    some (false))) (
                  some (false))) (
                some (false))) (
              some (false))) (
            some (false))) (
          some (false))) (
        some (false))) (
      some (false))) (
    some (false))
noncomputable def T42 (N : Nat) : Pk → Tr Pk := tellS s42 w42 (F42 N)
theorem T42_ok (N : Nat) : FOK Tryz.prog (42) (T42 N) :=
  (fn_ok2 ownT mix (tab42_ok N) Tryz.func42 s42 w42 [] (cuts := []) trivial (fun _ => by kernel_rfl) (by decide +kernel) (F42 N) (fun x => by kernel_rfl))
@[reducible] def s44 : SP := ⟨[.int .i64], []⟩
noncomputable def tab44 (N : Nat) : List (Nat × (Pk → Tr Pk)) := []
theorem tab44_ok (N : Nat) : TabOK Tryz.prog (tab44 N) := trivial
@[reducible] def w44 : List SP := [⟨[.tup [.str, .int .i64]], []⟩]
noncomputable def F44 (N : Nat) : (Int) → Option (ByteArray × Int)
  | x0 =>
  iteP (decide (x0 < (0 : Int))) (
    some ((ByteArray.mk #[], (1 : Int)))) (
    iteP (decide (x0 > (4194303 : Int))) (
      some ((ByteArray.mk #[], (1 : Int)))) (
      iteP (decide (x0 < (128 : Int))) (
        some ((stringOf [IntKind.wrap IntKind.u8 x0], (0 : Int)))) (
        iteP (decide (x0 < (16384 : Int))) (
          some ((stringOf [IntKind.wrap IntKind.u8 (IntKind.wrap IntKind.i64 ((128 : Int) + Int.tmod x0 (128 : Int))), IntKind.wrap IntKind.u8 (IntKind.wrap IntKind.i64 (Int.tdiv x0 (128 : Int)))], (0 : Int)))) (
          some ((stringOf [IntKind.wrap IntKind.u8 (IntKind.wrap IntKind.i64 ((128 : Int) + Int.tmod x0 (128 : Int))), IntKind.wrap IntKind.u8 (IntKind.wrap IntKind.i64 ((128 : Int) + Int.tmod (IntKind.wrap IntKind.i64 (Int.tdiv x0 (128 : Int))) (128 : Int))), IntKind.wrap IntKind.u8 (IntKind.wrap IntKind.i64 (Int.tdiv x0 (16384 : Int)))], (0 : Int)))))))
noncomputable def T44 (N : Nat) : Pk → Tr Pk := tellS s44 w44 (F44 N)
theorem T44_ok (N : Nat) : FOK Tryz.prog (44) (T44 N) :=
  (fn_ok2 ownT mix (tab44_ok N) Tryz.func44 s44 w44 [] (cuts := []) trivial (fun _ => by kernel_rfl) (by decide +kernel) (F44 N) (fun x => by kernel_rfl))
@[reducible] def s46 : SP := ⟨[.str], []⟩
noncomputable def tab46 (N : Nat) : List (Nat × (Pk → Tr Pk)) := []
theorem tab46_ok (N : Nat) : TabOK Tryz.prog (tab46 N) := trivial
@[reducible] def w46 : List SP := [⟨[.tup [.int .i64, .int .i64, .int .i64]], []⟩]
noncomputable def F46 (N : Nat) : (ByteArray) → Option (Int × Int × Int)
  | x0 =>
  iteP (decide ((↑(ByteArray.size x0) : Int) < (1 : Int))) (
    some (((0 : Int), (0 : Int), (2 : Int)))) (
    Option.bind (x0[(0 : Nat)]?) fun y0 =>
    iteP (decide (IntKind.wrap IntKind.i64 (↑(UInt8.toNat y0) : Int) < (128 : Int))) (
      some ((IntKind.wrap IntKind.i64 (↑(UInt8.toNat y0) : Int), (1 : Int), (0 : Int)))) (
      iteP (decide ((↑(ByteArray.size x0) : Int) < (2 : Int))) (
        some (((0 : Int), (0 : Int), (2 : Int)))) (
        Option.bind (x0[(1 : Nat)]?) fun y1 =>
        iteP (decide (IntKind.wrap IntKind.i64 (↑(UInt8.toNat y1) : Int) < (128 : Int))) (
          some ((IntKind.wrap IntKind.i64 (IntKind.wrap IntKind.i64 (IntKind.wrap IntKind.i64 (↑(UInt8.toNat y0) : Int) - (128 : Int)) + IntKind.wrap IntKind.i64 ((128 : Int) * IntKind.wrap IntKind.i64 (↑(UInt8.toNat y1) : Int))), (2 : Int), (0 : Int)))) (
          iteP (decide ((↑(ByteArray.size x0) : Int) < (3 : Int))) (
            some (((0 : Int), (0 : Int), (2 : Int)))) (
            Option.bind (x0[(2 : Nat)]?) fun y2 =>
            some ((IntKind.wrap IntKind.i64 (IntKind.wrap IntKind.i64 (IntKind.wrap IntKind.i64 (IntKind.wrap IntKind.i64 (↑(UInt8.toNat y0) : Int) - (128 : Int)) + IntKind.wrap IntKind.i64 ((128 : Int) * IntKind.wrap IntKind.i64 (IntKind.wrap IntKind.i64 (↑(UInt8.toNat y1) : Int) - (128 : Int)))) + IntKind.wrap IntKind.i64 ((16384 : Int) * IntKind.wrap IntKind.i64 (↑(UInt8.toNat y2) : Int))), (3 : Int), (0 : Int))))))))
noncomputable def T46 (N : Nat) : Pk → Tr Pk := tellS s46 w46 (F46 N)
theorem T46_ok (N : Nat) : FOK Tryz.prog (46) (T46 N) :=
  (fn_ok2 ownT mix (tab46_ok N) Tryz.func46 s46 w46 [] (cuts := []) trivial (fun _ => by kernel_rfl) (by decide +kernel) (F46 N) (fun x => by kernel_rfl))
@[reducible] def s12 : SP := ⟨[.int .i64, .str], []⟩
noncomputable def tab12 (N : Nat) : List (Nat × (Pk → Tr Pk)) := [(42, T42 N), (43, T43 N), (44, T44 N), (45, T45 N), (46, T46 N)]
theorem tab12_ok (N : Nat) : TabOK Tryz.prog (tab12 N) := ⟨T42_ok N, T43_ok N, T44_ok N, T45_ok N, T46_ok N, trivial⟩
@[reducible] def L12_511 : LD := ⟨511, [7, 0, 1, 5, 6], [(.ret, [4]), (.normal, [4])], ⟨[.int .i64, .int .i64, .str, .bool, .str], []⟩, [(.ret, ⟨[.bool], []⟩)]⟩
noncomputable def F12_511 (N : Nat) : (Int × Int × ByteArray × Bool × ByteArray) → Option (Bool)
  | (x0, x1, x2, x3, x4) =>
  iteP (x0 != (0 : Int)) (
    iteP (x3) (
      some (ByteArray.toList x4 == [])) (
      some (false))) (
    iteP (decide ((↑(ByteArray.size x4 + ByteArray.size x2) : Int) > (9223372036854775807 : Int))) (
      none ) (
      Option.bind (F45 N (x4 ++ x2)) fun y0 =>
      iteP (x3) (
        iteP (y0.1 == x1) (
          iteP (y0.2.1 == (↑(ByteArray.size x4) : Int)) (
            some (y0.2.2 == (0 : Int))) (
            some (false))) (
          some (false))) (
        some (false))))
noncomputable def C12_511 (N : Nat) (_ : Nat) : Cut := L12_511.cut (F12_511 N)
theorem C12_511_ok (N : Nat) (k : Nat) : CutAt Tryz.prog false Tryz.f12 [] 511 (C12_511 N k) :=
  L12_511.pieceT ownT mix (tab12_ok N) Tryz.f12 [] (cuts := []) trivial (by decide +kernel) (by kernel_rfl) (F12_511 N) (fun x => by kernel_rfl)
@[reducible] def w12 : List SP := [⟨[.bool], []⟩]
noncomputable def F12 (N : Nat) : (Int × ByteArray) → Option (Bool)
  | (x0, x1) =>
  Option.bind (F42 N ()) fun y0 =>
  iteP (!y0) (
    some (false)) (
    Option.bind (F43 N x0) fun y1 =>
    Option.bind (F44 N x0) fun y2 =>
    Option.bind (F45 N x1) fun y3 =>
    Option.bind (F46 N x1) fun y4 =>
    iteP (!ByteArray.toList y1.1 == ByteArray.toList y2.1) (
      some (false)) (
      iteP (y1.2 != y2.2) (
        some (false)) (
        iteP (y3.1 != y4.1) (
          some (false)) (
          iteP (y3.2.1 != y4.2.1) (
            some (false)) (
            iteP (y3.2.2 != y4.2.2) (
              some (false)) (
              Option.bind (F12_511 N (y1.2, x0, x1, y0, y1.1)) fun y5 =>
              some (y5)))))))
noncomputable def T12 (N : Nat) : Pk → Tr Pk := tellS s12 w12 (F12 N)
theorem T12_ok (N : Nat) : FOK Tryz.prog (12) (T12 N) :=
  (fn_ok2 ownT mix (tab12_ok N) Tryz.func12 s12 w12 [] (cuts := [(511, C12_511 N N)]) ⟨C12_511_ok N N, trivial⟩ (fun _ => by kernel_rfl) (by decide +kernel) (F12 N) (fun x => by kernel_rfl))
end Go.Proofs.YtfcamlibbfnldaaGreat.Am
