/- The seat's Go functions come to the Lean functions written here, wherever these give an answer (part C). -/
import Derived.Test.YteddgkplkjldcaaGreatSB
set_option linter.unusedVariables false
set_option maxRecDepth 100000
namespace Go.Proofs.YteddgkplkjldcaaGreat.Am
open Go.Am
@[reducible] def s120 : SP := ⟨[.adr 0 [], .int .i64], [.var (.agg [.str, .int .i64, .int .i64])]⟩
noncomputable def tab120 (N : Nat) : Tabs := [(44, T44 N), (146, T146 N)]
theorem tab120_ok (N : Nat) : TabOK Tryz.prog (tab120 N) := ⟨T44_ok N, T146_ok N, trivial⟩
@[reducible] def L120_250 : LD := ⟨250, [5, 15, 14, 1, 0], [(.ret, [4]), (.exit 0, [0, 1, 5])], ⟨[.int .i64, .int .i64, .int .i64, .int .i64, .adr 0 []], [.var (.agg [.str, .int .i64, .int .i64])]⟩, [(.exit 0, ⟨[.adr 0 [], .int .i64, .int .i64], [.var (.agg [.str, .int .i64, .int .i64])]⟩)]⟩
abbrev P120_250 : Type := Int × Int × Int × Int × ByteArray × Int × Int
abbrev R120_250 : Type := Int × Int × ByteArray × Int × Int
noncomputable def B120_250 (N : Nat) (f : P120_250 → Option R120_250) : P120_250 → Option R120_250
  | (x0, x1, x2, x3, x4, x5, x6) =>
  iteP (decide (x1 < x2)) (
  iteP (decide ((0 : Int) ≤ IntKind.wrap .i64 (Int.tdiv (IntKind.wrap .i64 (x5 + x1)) (8 : Int)))) (
  Option.bind (x4[Int.toNat (IntKind.wrap .i64 (Int.tdiv (IntKind.wrap .i64 (x5 + x1)) (8 : Int)))]?) fun y0 =>
  iteP (decide (Int.tmod (IntKind.wrap .i64 (x5 + x1)) (8 : Int) < (0 : Int))) (
  none) (
  iteP (decide (x1 < 0)) (
  none) (
  Option.bind (f (IntKind.wrap .i64 (↑(BitVec.toNat (BitVec.ofInt (64 : Nat) x0 ||| BitVec.ofInt (64 : Nat) (IntKind.wrap .i64 (IntKind.wrap .i64 (↑(BitVec.toNat (BitVec.ofInt (64 : Nat) (Int.fdiv (IntKind.wrap .i64 (↑(UInt8.toNat y0) : Int)) ((2 : Int) ^ min (Int.toNat (Int.tmod (IntKind.wrap .i64 (x5 + x1)) (8 : Int))) (64 : Nat))) &&& BitVec.ofInt (64 : Nat) (1 : Int))) : Int) * (2 : Int) ^ min (Int.toNat x1) (64 : Nat))))) : Int), IntKind.wrap .i64 (x1 + 1), x2, x3, x4, x5, x6)) fun r => some r))) (
  none)) (
  some ((x3, x0, x4, x5, x6)))
noncomputable def F120_250 (N : Nat) : Nat → P120_250 → Option R120_250
  | 0, _ => none
  | k + 1, x => B120_250 N (F120_250 N k) x
theorem C120_250_ok (N : Nat) (k : Nat) : CutAt Tryz.prog Tryz.f120 [0] 250 (L120_250.cut (F120_250 N k)) :=
  L120_250.loopT ownT mix (tab120_ok N) Tryz.f120 [0] (cuts := []) trivial (by decide +kernel) (by kernel_rfl) (B120_250 N) (F120_250 N) (fun _ => rfl) (fun _ _ => rfl) (fun f x => by kernel_rfl) k
@[reducible] def w120 : List SP := [⟨[.int .i64], [.var (.agg [.str, .int .i64, .int .i64])]⟩]
noncomputable def F120 (N : Nat) : (Int × ByteArray × Int × Int) → Option (Int × ByteArray × Int × Int)
  | (x0, x1, x2, x3) =>
  Option.bind (F44 N x0) fun y0 =>
  Option.bind (F146 N (y0, x1, x2, x3)) fun y1 =>
  iteP (!y1.1) (
  some (((0 : Int), y1.2.1, y1.2.2.1, y1.2.2.2))) (
  Option.bind (F120_250 N N ((0 : Int), (0 : Int), y0, y0, y1.2.1, y1.2.2.1, y1.2.2.2)) fun y2 =>
  some ((y2.2.1, y2.2.2.1, IntKind.wrap .i64 (y2.2.2.2.1 + y2.1), y2.2.2.2.2)))
noncomputable def T120 (N : Nat) : Pk → Tr Pk := tellS s120 w120 (F120 N)
theorem T120_ok (N : Nat) : FOK Tryz.prog 120 (T120 N) :=
  (fn_ok2 ownT mix (tab120_ok N) Tryz.func120 s120 w120 [0] (cuts := [(250, L120_250.cut (F120_250 N N))]) ⟨C120_250_ok N N, trivial⟩ (fun _ => by kernel_rfl) (by kernel_rfl) (F120 N) (fun x => by kernel_rfl))
@[reducible] def s121 : SP := ⟨[.radr y6 [.i 0 3]], []⟩
noncomputable def tab121 (N : Nat) : Tabs := []
theorem tab121_ok (N : Nat) : TabOK Tryz.prog (tab121 N) := trivial
@[reducible] def w121 : List SP := [⟨[.int .i64], []⟩]
noncomputable def F121 (N : Nat) : ((ByteArray × (Int × (Int × Unit)))) → Option (Int)
  | x0 =>
  some x0.2.2.1
noncomputable def T121 (N : Nat) : Pk → Tr Pk := tellS s121 w121 (F121 N)
theorem T121_ok (N : Nat) : FOK Tryz.prog 121 (T121 N) :=
  (fn_ok2 ownT mix (tab121_ok N) Tryz.func121 s121 w121 [] (cuts := []) trivial (fun _ => by kernel_rfl) (by kernel_rfl) (F121 N) (fun x => by kernel_rfl))
@[reducible] def s162 : SP := ⟨[.radr y6 [.i 0 3]], []⟩
noncomputable def tab162 (N : Nat) : Tabs := []
theorem tab162_ok (N : Nat) : TabOK Tryz.prog (tab162 N) := trivial
@[reducible] def w162 : List SP := [⟨[.int .i64], []⟩]
noncomputable def F162 (N : Nat) : ((ByteArray × (Int × (Int × Unit)))) → Option (Int)
  | x0 =>
  some (Int.tmod (IntKind.wrap .i64 ((8 : Int) - Int.tmod x0.2.1 (8 : Int))) (8 : Int))
noncomputable def T162 (N : Nat) : Pk → Tr Pk := tellS s162 w162 (F162 N)
theorem T162_ok (N : Nat) : FOK Tryz.prog 162 (T162 N) :=
  (fn_ok2 ownT mix (tab162_ok N) Tryz.func162 s162 w162 [] (cuts := []) trivial (fun _ => by kernel_rfl) (by kernel_rfl) (F162 N) (fun x => by kernel_rfl))
@[reducible] def s147 : SP := ⟨[.adr 0 []], [.var (.agg [.str, .int .i64, .int .i64])]⟩
noncomputable def tab147 (N : Nat) : Tabs := [(162, T162 N), (120, T120 N)]
theorem tab147_ok (N : Nat) : TabOK Tryz.prog (tab147 N) := ⟨T162_ok N, T120_ok N, trivial⟩
@[reducible] def w147 : List SP := [⟨[.int .i64], [.var (.agg [.str, .int .i64, .int .i64])]⟩]
noncomputable def F147 (N : Nat) : (ByteArray × Int × Int) → Option (Int × ByteArray × Int × Int)
  | (x0, x1, x2) =>
  Option.bind (F162 N (x0, x1, x2, ())) fun y0 =>
  Option.bind (F120 N (y0, x0, x1, x2)) fun y1 =>
  some ((y1.1, y1.2.1, y1.2.2.1, y1.2.2.2))
noncomputable def T147 (N : Nat) : Pk → Tr Pk := tellS s147 w147 (F147 N)
theorem T147_ok (N : Nat) : FOK Tryz.prog 147 (T147 N) :=
  (fn_ok2 ownT mix (tab147_ok N) Tryz.func147 s147 w147 [0] (cuts := []) trivial (fun _ => by kernel_rfl) (by kernel_rfl) (F147 N) (fun x => by kernel_rfl))
@[reducible] def s148 : SP := ⟨[.adr 0 [], .int .i64], [.var (.agg [.str, .int .i64, .int .i64])]⟩
noncomputable def tab148 (N : Nat) : Tabs := [(162, T162 N), (146, T146 N), (86, T86 N)]
theorem tab148_ok (N : Nat) : TabOK Tryz.prog (tab148 N) := ⟨T162_ok N, T146_ok N, T86_ok N, trivial⟩
@[reducible] def w148 : List SP := [⟨[.str], [.var (.agg [.str, .int .i64, .int .i64])]⟩]
noncomputable def F148 (N : Nat) : (Int × ByteArray × Int × Int) → Option (ByteArray × ByteArray × Int × Int)
  | (x0, x1, x2, x3) =>
  iteP (decide ((if (0 : Int) > x0 then (0 : Int) else x0) > (↑(ByteArray.size x1) : Int))) (
  Option.bind (F86 N (x1, x2, x3, ())) fun y0 =>
  Option.bind (F146 N (IntKind.wrap .i64 (y0 + 1), x1, x2, x3)) fun y1 =>
  some ((ByteArray.mk #[], y1.2.1, y1.2.2.1, y1.2.2.2))) (
  Option.bind (F162 N (x1, x2, x3, ())) fun y2 =>
  Option.bind (F146 N (IntKind.wrap .i64 (y2 + IntKind.wrap .i64 ((8 : Int) * if (0 : Int) > x0 then (0 : Int) else x0)), x1, x2, x3)) fun y3 =>
  iteP (!y3.1) (
  Option.bind (F86 N (y3.2.1, y3.2.2.1, y3.2.2.2, ())) fun y4 =>
  Option.bind (F146 N (IntKind.wrap .i64 (y4 + 1), y3.2.1, y3.2.2.1, y3.2.2.2)) fun y5 =>
  some ((ByteArray.mk #[], y5.2.1, y5.2.2.1, y5.2.2.2))) (
  Option.bind (F162 N (y3.2.1, y3.2.2.1, y3.2.2.2, ())) fun y6 =>
  iteP (decide ((0 : Int) ≤ IntKind.wrap .i64 (IntKind.wrap .i64 (Int.tdiv (IntKind.wrap .i64 (y3.2.2.1 + y6)) (8 : Int)) + if (0 : Int) > x0 then (0 : Int) else x0) ∧ IntKind.wrap .i64 (IntKind.wrap .i64 (Int.tdiv (IntKind.wrap .i64 (y3.2.2.1 + y6)) (8 : Int)) + if (0 : Int) > x0 then (0 : Int) else x0) ≤ (↑(ByteArray.size y3.2.1) : Int))) (
  iteP (decide ((0 : Int) ≤ IntKind.wrap .i64 (Int.tdiv (IntKind.wrap .i64 (y3.2.2.1 + y6)) (8 : Int)) ∧ IntKind.wrap .i64 (Int.tdiv (IntKind.wrap .i64 (y3.2.2.1 + y6)) (8 : Int)) ≤ (↑(Int.toNat (IntKind.wrap .i64 (IntKind.wrap .i64 (Int.tdiv (IntKind.wrap .i64 (y3.2.2.1 + y6)) (8 : Int)) + if (0 : Int) > x0 then (0 : Int) else x0))) : Int))) (
  some ((ByteArray.extract y3.2.1 (Int.toNat (IntKind.wrap .i64 (Int.tdiv (IntKind.wrap .i64 (y3.2.2.1 + y6)) (8 : Int)))) (Int.toNat (IntKind.wrap .i64 (IntKind.wrap .i64 (Int.tdiv (IntKind.wrap .i64 (y3.2.2.1 + y6)) (8 : Int)) + if (0 : Int) > x0 then (0 : Int) else x0))), y3.2.1, IntKind.wrap .i64 ((8 : Int) * IntKind.wrap .i64 (IntKind.wrap .i64 (Int.tdiv (IntKind.wrap .i64 (y3.2.2.1 + y6)) (8 : Int)) + if (0 : Int) > x0 then (0 : Int) else x0)), y3.2.2.2))) (
  none)) (
  none)))
noncomputable def T148 (N : Nat) : Pk → Tr Pk := tellS s148 w148 (F148 N)
theorem T148_ok (N : Nat) : FOK Tryz.prog 148 (T148 N) :=
  (fn_ok2 ownT mix (tab148_ok N) Tryz.func148 s148 w148 [0] (cuts := []) trivial (fun _ => by kernel_rfl) (by kernel_rfl) (F148 N) (fun x => by kernel_rfl))
@[reducible] def s122 : SP := ⟨[.adr 0 [], .int .i64], [.var (.agg [.str, .int .i64, .int .i64])]⟩
noncomputable def tab122 (N : Nat) : Tabs := [(147, T147 N), (120, T120 N), (121, T121 N), (148, T148 N)]
theorem tab122_ok (N : Nat) : TabOK Tryz.prog (tab122 N) := ⟨T147_ok N, T120_ok N, T121_ok N, T148_ok N, trivial⟩
@[reducible] def w122 : List SP := [⟨[.tup [.str, .int .i64]], [.var (.agg [.str, .int .i64, .int .i64])]⟩]
noncomputable def F122 (N : Nat) (x : Int × ByteArray × Int × Int) : Option (ByteArray × Int × ByteArray × Int × Int) := fnR (mkE Tryz.prog ownT (tab122 N) []) Tryz.f122 s122 w122 x
noncomputable def T122 (N : Nat) : Pk → Tr Pk := tellS s122 w122 (F122 N)
theorem T122_ok (N : Nat) : FOK Tryz.prog 122 (T122 N) :=
  (fn_ok2 ownT mix (tab122_ok N) Tryz.func122 s122 w122 [0] (cuts := []) trivial (fun _ => by kernel_rfl) (by kernel_rfl) (F122 N) (fun x => rfl))
@[reducible] def s166 : SP := ⟨[.ro (.int .i64)], []⟩
noncomputable def tab166 (N : Nat) : Tabs := [(96, T96 N), (97, T97 N)]
theorem tab166_ok (N : Nat) : TabOK Tryz.prog (tab166 N) := ⟨T96_ok N, T97_ok N, trivial⟩
@[reducible] def L166_16018 : LD := ⟨16018, [34, 33, 0, 32, 6, 7], [(.ret, [2, 3]), (.exit 2, [7, 0, 6]), (.exit 1, [7, 0, 6]), (.exit 0, [6])], ⟨[.int .i64, .int .i64, .ro (.int .i64), .ro (.int .i64), .adr 0 [], .int .i64], [.var (.agg [.arr (.int .i64) 16, .sl 1, .int .i64]), .row (.int .i64) 3]⟩, [(.exit 2, ⟨[.int .i64, .ro (.int .i64), .adr 0 []], [.var (.agg [.arr (.int .i64) 16, .sl 1, .int .i64]), .row (.int .i64) 3]⟩)]⟩
abbrev P166_16018 : Type := Int × Int × (List Int) × (List Int) × Int × (List Int) × Int × (List Int)
abbrev R166_16018 : Type := Int × (List Int) × (List Int) × Int × (List Int)
noncomputable def B166_16018 (N : Nat) (f : P166_16018 → Option R166_16018) : P166_16018 → Option R166_16018
  | (x0, x1, x2, x3, x4, x5, x6, x7) =>
  iteP (decide (x0 < x1)) (
  iteP (within x0 (List.length x3)) (
  Option.bind (x3[Int.toNat x0]?) fun y0 =>
  iteP (y0 == x4) (
  iteP (decide ((List.length x7 + List.length [x0]) * 8 ≤ (140737488355328 : Nat) ∧ List.length x7 + List.length [x0] ≤ 140737488355328)) (
  Option.bind (f (IntKind.wrap .i64 (x0 + 1), x1, x2, x3, x4, x5, x4, x7 ++ [x0])) fun r => some r) (
  none)) (
  Option.bind (f (IntKind.wrap .i64 (x0 + 1), x1, x2, x3, x4, x5, x6, x7)) fun r => some r)) (
  none)) (
  some ((x4, x2, x5, x6, x7)))
noncomputable def F166_16018 (N : Nat) : Nat → P166_16018 → Option R166_16018
  | 0, _ => none
  | k + 1, x => B166_16018 N (F166_16018 N k) x
theorem C166_16018_ok (N : Nat) (k : Nat) : CutAt Tryz.prog Tryz.f166 [] 16018 (L166_16018.cut (F166_16018 N k)) :=
  L166_16018.loopT ownT mix (tab166_ok N) Tryz.f166 [] (cuts := []) trivial (by decide +kernel) (by kernel_rfl) (B166_16018 N) (F166_16018 N) (fun _ => rfl) (fun _ _ => rfl) (fun f x => by kernel_rfl) k
@[reducible] def L166_250 : LD := ⟨250, [0, 6, 7], [(.ret, [2, 3]), (.exit 0, [6])], ⟨[.ro (.int .i64), .adr 0 [], .int .i64], [.var (.agg [.arr (.int .i64) 16, .sl 1, .int .i64]), .row (.int .i64) 3]⟩, [(.exit 0, ⟨[.adr 0 []], [.var (.agg [.arr (.int .i64) 16, .sl 1, .int .i64]), .row (.int .i64) 3]⟩)]⟩
abbrev P166_250 : Type := (List Int) × Int × (List Int) × Int × (List Int)
abbrev R166_250 : Type := (List Int) × Int × (List Int)
noncomputable def B166_250 (N : Nat) (f : P166_250 → Option R166_250) : P166_250 → Option R166_250
  | (x0, x1, x2, x3, x4) =>
  iteP (decide (x1 ≤ 15)) (
  Option.bind (F166_16018 N N ((0 : Int), (↑(List.length x0) : Int), x0, x0, x1, x2, x3, x4)) fun y0 =>
  Option.bind (f (y0.2.1, IntKind.wrap .i64 (y0.1 + 1), y0.2.2.1, y0.2.2.2.1, y0.2.2.2.2)) fun r => some r) (
  some ((x2, x3, x4)))
noncomputable def F166_250 (N : Nat) : Nat → P166_250 → Option R166_250
  | 0, _ => none
  | k + 1, x => B166_250 N (F166_250 N k) x
theorem C166_250_ok (N : Nat) (k : Nat) : CutAt Tryz.prog Tryz.f166 [] 250 (L166_250.cut (F166_250 N k)) :=
  L166_250.loopT ownT mix (tab166_ok N) Tryz.f166 [] (cuts := [(16018, L166_16018.cut (F166_16018 N N))]) ⟨C166_16018_ok N N, trivial⟩ (by decide +kernel) (by kernel_rfl) (B166_250 N) (F166_250 N) (fun _ => rfl) (fun _ _ => rfl) (fun f x => by kernel_rfl) k
@[reducible] def w166 : List SP := [⟨[.tup [.nilp, .int .i64]], []⟩, ⟨[.tup [.adr 0 [], .int .i64]], [.var (.agg [.arr (.int .i64) 16, .sl 1, .int .i64]), .row (.int .i64) 3]⟩]
noncomputable def F166 (N : Nat) : ((List Int)) → Option (((Int) ⊕ (Int × (List Int) × Int × (List Int))))
  | x0 =>
  Option.bind (F96 N x0) fun y0 =>
  iteP (y0.2 != 0) (
  some (.inl y0.2)) (
  Option.bind (F97 N x0) fun y1 =>
  Option.bind (F166_250 N N (x0, (1 : Int), y1.1, (0 : Int), [])) fun y2 =>
  some (.inr (((0 : Int), y2.1, y2.2.1, y2.2.2))))
noncomputable def T166 (N : Nat) : Pk → Tr Pk := tellS s166 w166 (F166 N)
theorem T166_ok (N : Nat) : FOK Tryz.prog 166 (T166 N) :=
  (fn_ok2 ownT mix (tab166_ok N) Tryz.func166 s166 w166 [] (cuts := [(16018, L166_16018.cut (F166_16018 N N)), (250, L166_250.cut (F166_250 N N))]) ⟨C166_16018_ok N N, C166_250_ok N N, trivial⟩ (fun _ => by kernel_rfl) (by kernel_rfl) (F166 N) (fun x => by kernel_rfl))
@[reducible] def s151 : SP := ⟨[.int .i64], []⟩
noncomputable def tab151 (N : Nat) : Tabs := []
theorem tab151_ok (N : Nat) : TabOK Tryz.prog (tab151 N) := trivial
@[reducible] def w151 : List SP := [⟨[.int .i64], []⟩]
noncomputable def F151 (N : Nat) (x : Int) : Option (Int) := fnR (mkE Tryz.prog ownT (tab151 N) []) Tryz.f151 s151 w151 x
noncomputable def T151 (N : Nat) : Pk → Tr Pk := tellS s151 w151 (F151 N)
theorem T151_ok (N : Nat) : FOK Tryz.prog 151 (T151 N) :=
  (fn_ok2 ownT mix (tab151_ok N) Tryz.func151 s151 w151 [] (cuts := []) trivial (fun _ => by kernel_rfl) (by kernel_rfl) (F151 N) (fun x => rfl))
@[reducible] def s163 : SP := ⟨[.adr 0 [], .int .i64], [.var (.agg [.str, .int .i64, .int .i64])]⟩
noncomputable def tab163 (N : Nat) : Tabs := [(58, T58 N), (120, T120 N), (121, T121 N), (166, T166 N), (151, T151 N)]
theorem tab163_ok (N : Nat) : TabOK Tryz.prog (tab163 N) := ⟨T58_ok N, T120_ok N, T121_ok N, T166_ok N, T151_ok N, trivial⟩
@[reducible] def L163_58 : LD := ⟨58, [17, 16, 15, 6, 0], [(.ret, [4, 5]), (.exit 0, [0, 6])], ⟨[.int .i64, .int .i64, .slp 1 (.c 0) .h, .sl 2, .adr 0 []], [.var (.agg [.str, .int .i64, .int .i64]), .row (.int .i64) 3, .row (.int .i64) 3]⟩, [(.exit 0, ⟨[.adr 0 [], .sl 1], [.var (.agg [.str, .int .i64, .int .i64]), .row (.int .i64) 3]⟩)]⟩
abbrev P163_58 : Type := Int × Int × Nat × ByteArray × Int × Int × (List Int) × (List Int)
abbrev R163_58 : Type := ByteArray × Int × Int × (List Int)
noncomputable def B163_58 (N : Nat) (f : P163_58 → Option R163_58) (x : P163_58) : Option R163_58 := L163_58.rnd (mkE Tryz.prog ownT (tab163 N) []) Tryz.f163 [0] f x
noncomputable def F163_58 (N : Nat) : Nat → P163_58 → Option R163_58
  | 0, _ => none
  | k + 1, x => B163_58 N (F163_58 N k) x
theorem C163_58_ok (N : Nat) (k : Nat) : CutAt Tryz.prog Tryz.f163 [0] 58 (L163_58.cut (F163_58 N k)) :=
  L163_58.loopT ownT mix (tab163_ok N) Tryz.f163 [0] (cuts := []) trivial (by decide +kernel) (by kernel_rfl) (B163_58 N) (F163_58 N) (fun _ => rfl) (fun _ _ => rfl) (fun f x => rfl) k
@[reducible] def w163 : List SP := [⟨[.tup [.nilp, .int .i64]], [.var (.agg [.str, .int .i64, .int .i64])]⟩, ⟨[.tup [.adr 1 [], .int .i64]], [.var (.agg [.str, .int .i64, .int .i64]), .var (.agg [.arr (.int .i64) 16, .sl 2, .int .i64]), .row (.int .i64) 3]⟩]
noncomputable def F163 (N : Nat) (x : Int × ByteArray × Int × Int) : Option (((Int × ByteArray × Int × Int) ⊕ (Int × ByteArray × Int × Int × (List Int) × Int × (List Int)))) := fnR (mkE Tryz.prog ownT (tab163 N) [(58, L163_58.cut (F163_58 N N))]) Tryz.f163 s163 w163 x
noncomputable def T163 (N : Nat) : Pk → Tr Pk := tellS s163 w163 (F163 N)
theorem T163_ok (N : Nat) : FOK Tryz.prog 163 (T163 N) :=
  (fn_ok2 ownT mix (tab163_ok N) Tryz.func163 s163 w163 [0] (cuts := [(58, L163_58.cut (F163_58 N N))]) ⟨C163_58_ok N N, trivial⟩ (fun _ => by kernel_rfl) (by kernel_rfl) (F163 N) (fun x => rfl))
@[reducible] def s171 : SP := ⟨[.adr 0 [], .int .i64], [.var (.agg [.arr (.int .i64) 16, .sl 1, .int .i64]), .row (.int .i64) 3]⟩
noncomputable def tab171 (N : Nat) : Tabs := []
theorem tab171_ok (N : Nat) : TabOK Tryz.prog (tab171 N) := trivial
@[reducible] def L171_58 : LD := ⟨58, [5, 6, 1, 0], [(.ret, [4]), (.exit 0, [5])], ⟨[.int .i64, .int .i64, .int .i64, .adr 0 []], [.var (.agg [.arr (.int .i64) 16, .sl 1, .int .i64]), .row (.int .i64) 3]⟩, [(.exit 0, ⟨[.int .i64], [.var (.agg [.arr (.int .i64) 16, .sl 1, .int .i64]), .row (.int .i64) 3]⟩)]⟩
abbrev P171_58 : Type := Int × Int × Int × (List Int) × Int × (List Int)
abbrev R171_58 : Type := Int × (List Int) × Int × (List Int)
noncomputable def B171_58 (N : Nat) (f : P171_58 → Option R171_58) : P171_58 → Option R171_58
  | (x0, x1, x2, x3, x4, x5) =>
  iteP (decide (x1 > x2)) (
  iteP (within x1 (16 : Nat)) (
  Option.bind (x3[Int.toNat x1]?) fun y0 =>
  Option.bind (f (IntKind.wrap .i64 (Int.tdiv (IntKind.wrap .i64 (IntKind.wrap .i64 (x0 + y0) + 1)) (2 : Int)), IntKind.wrap .i64 (x1 - 1), x2, x3, x4, x5)) fun r => some r) (
  none)) (
  some ((x0, x3, x4, x5)))
noncomputable def F171_58 (N : Nat) : Nat → P171_58 → Option R171_58
  | 0, _ => none
  | k + 1, x => B171_58 N (F171_58 N k) x
theorem C171_58_ok (N : Nat) (k : Nat) : CutAt Tryz.prog Tryz.f171 [0] 58 (L171_58.cut (F171_58 N k)) :=
  L171_58.loopT ownT mix (tab171_ok N) Tryz.f171 [0] (cuts := []) trivial (by decide +kernel) (by kernel_rfl) (B171_58 N) (F171_58 N) (fun _ => rfl) (fun _ _ => rfl) (fun f x => by kernel_rfl) k
@[reducible] def w171 : List SP := [⟨[.int .i64], [.var (.agg [.arr (.int .i64) 16, .sl 1, .int .i64]), .row (.int .i64) 3]⟩]
noncomputable def F171 (N : Nat) : (Int × (List Int) × Int × (List Int)) → Option (Int × (List Int) × Int × (List Int))
  | (x0, x1, x2, x3) =>
  Option.bind (F171_58 N N ((0 : Int), x2, x0, x1, x2, x3)) fun y0 =>
  some ((y0.1, y0.2.1, y0.2.2.1, y0.2.2.2))
noncomputable def T171 (N : Nat) : Pk → Tr Pk := tellS s171 w171 (F171 N)
theorem T171_ok (N : Nat) : FOK Tryz.prog 171 (T171 N) :=
  (fn_ok2 ownT mix (tab171_ok N) Tryz.func171 s171 w171 [0] (cuts := [(58, L171_58.cut (F171_58 N N))]) ⟨C171_58_ok N N, trivial⟩ (fun _ => by kernel_rfl) (by kernel_rfl) (F171 N) (fun x => by kernel_rfl))
@[reducible] def s164 : SP := ⟨[.adr 0 [], .adr 1 []], [.var (.agg [.arr (.int .i64) 16, .sl 2, .int .i64]), .var (.agg [.str, .int .i64, .int .i64]), .row (.int .i64) 3]⟩
noncomputable def tab164 (N : Nat) : Tabs := [(120, T120 N), (121, T121 N), (171, T171 N)]
theorem tab164_ok (N : Nat) : TabOK Tryz.prog (tab164 N) := ⟨T120_ok N, T121_ok N, T171_ok N, trivial⟩
@[reducible] def L164_58 : LD := ⟨58, [8, 0, 7, 1, 9, 6], [(.ret, [4, 5]), (.exit 0, [])], ⟨[.int .i64, .adr 0 [], .int .i64, .adr 1 [], .int .i64, .int .i64], [.var (.agg [.arr (.int .i64) 16, .sl 2, .int .i64]), .var (.agg [.str, .int .i64, .int .i64]), .row (.int .i64) 3]⟩, [(.ret, ⟨[.int .i64, .int .i64], [.var (.agg [.arr (.int .i64) 16, .sl 2, .int .i64]), .var (.agg [.str, .int .i64, .int .i64]), .row (.int .i64) 3]⟩), (.exit 0, ⟨[], [.var (.agg [.arr (.int .i64) 16, .sl 2, .int .i64]), .var (.agg [.str, .int .i64, .int .i64]), .row (.int .i64) 3]⟩)]⟩
abbrev P164_58 : Type := Int × Int × Int × Int × (List Int) × Int × ByteArray × Int × Int × (List Int)
abbrev R164_58 : Type := ((Int × Int × (List Int) × Int × ByteArray × Int × Int × (List Int)) ⊕ ((List Int) × Int × ByteArray × Int × Int × (List Int)))
noncomputable def B164_58 (N : Nat) (f : P164_58 → Option R164_58) : P164_58 → Option R164_58
  | (x0, x1, x2, x3, x4, x5, x6, x7, x8, x9) =>
  iteP (decide (x2 ≤ x5)) (
  Option.bind (F120 N ((1 : Int), x6, x7, x8)) fun y0 =>
  Option.bind (F121 N (y0.2.1, y0.2.2.1, y0.2.2.2, ())) fun y1 =>
  iteP (y1 != 0) (
  some (.inl (((0 : Int), y1, x4, x5, y0.2.1, y0.2.2.1, y0.2.2.2, x9)))) (
  iteP (within x2 (16 : Nat)) (
  Option.bind (x4[Int.toNat x2]?) fun y2 =>
  iteP (decide (IntKind.wrap .i64 (IntKind.wrap .i64 (↑(BitVec.toNat (BitVec.ofInt (64 : Nat) x3 ||| BitVec.ofInt (64 : Nat) y0.1)) : Int) - x1) < y2)) (
  iteP (within (IntKind.wrap .i64 (x0 + IntKind.wrap .i64 (IntKind.wrap .i64 (↑(BitVec.toNat (BitVec.ofInt (64 : Nat) x3 ||| BitVec.ofInt (64 : Nat) y0.1)) : Int) - x1))) (List.length x9)) (
  Option.bind (x9[Int.toNat (IntKind.wrap .i64 (x0 + IntKind.wrap .i64 (IntKind.wrap .i64 (↑(BitVec.toNat (BitVec.ofInt (64 : Nat) x3 ||| BitVec.ofInt (64 : Nat) y0.1)) : Int) - x1)))]?) fun y3 =>
  some (.inl ((y3, (0 : Int), x4, x5, y0.2.1, y0.2.2.1, y0.2.2.2, x9)))) (
  none)) (
  iteP (within x2 (16 : Nat)) (
  Option.bind (x4[Int.toNat x2]?) fun y4 =>
  iteP (within x2 (16 : Nat)) (
  Option.bind (x4[Int.toNat x2]?) fun y5 =>
  Option.bind (F171 N (x2, x4, x5, x9)) fun y6 =>
  iteP (decide (IntKind.wrap .i64 (Int.fdiv (IntKind.wrap .i64 (IntKind.wrap .i64 (↑(BitVec.toNat (BitVec.ofInt (64 : Nat) x3 ||| BitVec.ofInt (64 : Nat) y0.1)) : Int) * (2 : Int))) (2 : Int) - Int.fdiv (IntKind.wrap .i64 (IntKind.wrap .i64 (x1 + y5) * 2)) (2 : Int)) ≥ y6.1)) (
  some (.inl (((0 : Int), (3 : Int), y6.2.1, y6.2.2.1, y0.2.1, y0.2.2.1, y0.2.2.2, y6.2.2.2)))) (
  Option.bind (f (IntKind.wrap .i64 (x0 + y4), IntKind.wrap .i64 (IntKind.wrap .i64 (x1 + y5) * 2), IntKind.wrap .i64 (x2 + 1), IntKind.wrap .i64 (IntKind.wrap .i64 (↑(BitVec.toNat (BitVec.ofInt (64 : Nat) x3 ||| BitVec.ofInt (64 : Nat) y0.1)) : Int) * (2 : Int)), y6.2.1, y6.2.2.1, y0.2.1, y0.2.2.1, y0.2.2.2, y6.2.2.2)) fun r => match r with | .inl y => some (.inl y) | .inr y => some (.inr y))) (
  none)) (
  none))) (
  none))) (
  some (.inr ((x4, x5, x6, x7, x8, x9))))
noncomputable def F164_58 (N : Nat) : Nat → P164_58 → Option R164_58
  | 0, _ => none
  | k + 1, x => B164_58 N (F164_58 N k) x
theorem C164_58_ok (N : Nat) (k : Nat) : CutAt Tryz.prog Tryz.f164 [0, 1] 58 (L164_58.cut (F164_58 N k)) :=
  L164_58.loopT ownT mix (tab164_ok N) Tryz.f164 [0, 1] (cuts := []) trivial (by decide +kernel) (by kernel_rfl) (B164_58 N) (F164_58 N) (fun _ => rfl) (fun _ _ => rfl) (fun f x => by kernel_rfl) k
@[reducible] def w164 : List SP := [⟨[.tup [.int .i64, .int .i64]], [.var (.agg [.arr (.int .i64) 16, .sl 2, .int .i64]), .var (.agg [.str, .int .i64, .int .i64]), .row (.int .i64) 3]⟩]
noncomputable def F164 (N : Nat) : ((List Int) × Int × ByteArray × Int × Int × (List Int)) → Option (Int × Int × (List Int) × Int × ByteArray × Int × Int × (List Int))
  | (x0, x1, x2, x3, x4, x5) =>
  Option.bind (F164_58 N N ((0 : Int), (0 : Int), (1 : Int), (0 : Int), x0, x1, x2, x3, x4, x5)) fun y0 =>
  match y0 with
  | .inl y1 =>
  some ((y1.1, y1.2.1, y1.2.2.1, y1.2.2.2.1, y1.2.2.2.2.1, y1.2.2.2.2.2.1, y1.2.2.2.2.2.2.1, y1.2.2.2.2.2.2.2))
  | .inr y1 =>
  some (((0 : Int), (3 : Int), y1.1, y1.2.1, y1.2.2.1, y1.2.2.2.1, y1.2.2.2.2.1, y1.2.2.2.2.2))
noncomputable def T164 (N : Nat) : Pk → Tr Pk := tellS s164 w164 (F164 N)
theorem T164_ok (N : Nat) : FOK Tryz.prog 164 (T164 N) :=
  (fn_ok2 ownT mix (tab164_ok N) Tryz.func164 s164 w164 [0, 1] (cuts := [(58, L164_58.cut (F164_58 N N))]) ⟨C164_58_ok N N, trivial⟩ (fun _ => by kernel_rfl) (by kernel_rfl) (F164 N) (fun x => by kernel_rfl))
@[reducible] def s165 : SP := ⟨[.adr 0 [], .int .i64, .ro (.int .i64)], [.var (.agg [.str, .int .i64, .int .i64])]⟩
noncomputable def tab165 (N : Nat) : Tabs := [(120, T120 N), (121, T121 N)]
theorem tab165_ok (N : Nat) : TabOK Tryz.prog (tab165 N) := ⟨T120_ok N, T121_ok N, trivial⟩
@[reducible] def w165 : List SP := [⟨[.tup [.int .i64, .int .i64, .int .i64]], [.var (.agg [.str, .int .i64, .int .i64])]⟩]
noncomputable def F165 (N : Nat) (x : Int × (List Int) × ByteArray × Int × Int) : Option (Int × Int × Int × ByteArray × Int × Int) := fnR (mkE Tryz.prog ownT (tab165 N) []) Tryz.f165 s165 w165 x
noncomputable def T165 (N : Nat) : Pk → Tr Pk := tellS s165 w165 (F165 N)
theorem T165_ok (N : Nat) : FOK Tryz.prog 165 (T165 N) :=
  (fn_ok2 ownT mix (tab165_ok N) Tryz.func165 s165 w165 [0] (cuts := []) trivial (fun _ => by kernel_rfl) (by kernel_rfl) (F165 N) (fun x => rfl))
@[reducible] def s149 : SP := ⟨[.adr 0 []], [.var (.agg [.str, .int .i64, .int .i64])]⟩
noncomputable def tab149 (N : Nat) : Tabs := [(120, T120 N), (121, T121 N), (163, T163 N), (164, T164 N), (151, T151 N), (165, T165 N)]
theorem tab149_ok (N : Nat) : TabOK Tryz.prog (tab149 N) := ⟨T120_ok N, T121_ok N, T163_ok N, T164_ok N, T151_ok N, T165_ok N, trivial⟩
@[reducible] def L149_508 : LD := ⟨508, [9, 5, 6, 0, 10], [(.ret, [2, 3, 4]), (.exit 1, [10, 5])], ⟨[.nilp, .int .i64, .int .i64, .adr 0 [], .sl 1], [.var (.agg [.str, .int .i64, .int .i64]), .row (.int .i64) 3]⟩, [(.exit 1, ⟨[.sl 1, .int .i64], [.var (.agg [.str, .int .i64, .int .i64]), .row (.int .i64) 3]⟩)]⟩
abbrev P149_508 : Type := Int × Int × ByteArray × Int × Int × (List Int)
abbrev R149_508 : Type := Int × ByteArray × Int × Int × (List Int)
noncomputable def B149_508 (N : Nat) (f : P149_508 → Option R149_508) (x : P149_508) : Option R149_508 := L149_508.rnd (mkE Tryz.prog ownT (tab149 N) []) Tryz.f149 [0] f x
noncomputable def F149_508 (N : Nat) : Nat → P149_508 → Option R149_508
  | 0, _ => none
  | k + 1, x => B149_508 N (F149_508 N k) x
theorem C149_508_ok (N : Nat) (k : Nat) : CutAt Tryz.prog Tryz.f149 [0] 508 (L149_508.cut (F149_508 N k)) :=
  L149_508.loopT ownT mix (tab149_ok N) Tryz.f149 [0] (cuts := []) trivial (by decide +kernel) (by kernel_rfl) (B149_508 N) (F149_508 N) (fun _ => rfl) (fun _ _ => rfl) (fun f x => rfl) k
@[reducible] def L149_260286 : LD := ⟨260286, [10, 84, 83, 0, 6, 5, 9, 13], [(.ret, [2, 3, 4]), (.exit 4, [9, 5, 6, 0, 10]), (.exit 2, [9, 5, 6, 0, 10]), (.exit 1, [10, 5])], ⟨[.sl 1, .int .i64, .int .i64, .adr 0 [], .int .i64, .int .i64, .adr 2 [], .int .i64], [.var (.agg [.str, .int .i64, .int .i64]), .row (.int .i64) 3, .var (.agg [.arr (.int .i64) 16, .sl 3, .int .i64]), .row (.int .i64) 3]⟩, [(.exit 4, ⟨[.adr 1 [], .int .i64, .int .i64, .adr 0 [], .sl 2], [.var (.agg [.str, .int .i64, .int .i64]), .var (.agg [.arr (.int .i64) 16, .sl 3, .int .i64]), .row (.int .i64) 3, .row (.int .i64) 3]⟩)]⟩
abbrev P149_260286 : Type := Int × Int × Int × Int × Int × ByteArray × Int × Int × (List Int) × (List Int) × Int × (List Int)
abbrev R149_260286 : Type := Int × Int × ByteArray × Int × Int × (List Int) × Int × (List Int) × (List Int)
noncomputable def B149_260286 (N : Nat) (f : P149_260286 → Option R149_260286) (x : P149_260286) : Option R149_260286 := L149_260286.rnd (mkE Tryz.prog ownT (tab149 N) [(508, L149_508.cut (F149_508 N N))]) Tryz.f149 [0] f x
noncomputable def F149_260286 (N : Nat) : Nat → P149_260286 → Option R149_260286
  | 0, _ => none
  | k + 1, x => B149_260286 N (F149_260286 N k) x
theorem C149_260286_ok (N : Nat) (k : Nat) : CutAt Tryz.prog Tryz.f149 [0] 260286 (L149_260286.cut (F149_260286 N k)) :=
  L149_260286.loopT ownT mix (tab149_ok N) Tryz.f149 [0] (cuts := [(508, L149_508.cut (F149_508 N N))]) ⟨C149_508_ok N N, trivial⟩ (by decide +kernel) (by kernel_rfl) (B149_260286 N) (F149_260286 N) (fun _ => rfl) (fun _ _ => rfl) (fun f x => rfl) k
@[reducible] def L149_508b : LD := ⟨508, [9, 5, 6, 0, 10], [(.ret, [2, 3, 4]), (.exit 1, [10, 5])], ⟨[.adr 1 [], .int .i64, .int .i64, .adr 0 [], .sl 2], [.var (.agg [.str, .int .i64, .int .i64]), .var (.agg [.arr (.int .i64) 16, .sl 3, .int .i64]), .row (.int .i64) 3, .row (.int .i64) 3]⟩, [(.ret, ⟨[.sl 1, .sl 2, .int .i64], [.var (.agg [.str, .int .i64, .int .i64]), .row (.int .i64) 3, .row (.int .i64) 3]⟩), (.exit 1, ⟨[.sl 1, .int .i64], [.var (.agg [.str, .int .i64, .int .i64]), .row (.int .i64) 3]⟩)]⟩
abbrev P149_508b : Type := Int × Int × ByteArray × Int × Int × (List Int) × Int × (List Int) × (List Int)
abbrev R149_508b : Type := ((Int × ByteArray × Int × Int × (List Int) × (List Int)) ⊕ (Int × ByteArray × Int × Int × (List Int)))
noncomputable def B149_508b (N : Nat) (f : P149_508b → Option R149_508b) (x : P149_508b) : Option R149_508b := L149_508b.rnd (mkE Tryz.prog ownT (tab149 N) [(508, L149_508.cut (F149_508 N N)), (260286, L149_260286.cut (F149_260286 N N))]) Tryz.f149 [0] f x
noncomputable def F149_508b (N : Nat) : Nat → P149_508b → Option R149_508b
  | 0, _ => none
  | k + 1, x => B149_508b N (F149_508b N k) x
theorem C149_508b_ok (N : Nat) (k : Nat) : CutAt Tryz.prog Tryz.f149 [0] 508 (L149_508b.cut (F149_508b N k)) :=
  L149_508b.loopT ownT mix (tab149_ok N) Tryz.f149 [0] (cuts := [(508, L149_508.cut (F149_508 N N)), (260286, L149_260286.cut (F149_260286 N N))]) ⟨C149_508_ok N N, C149_260286_ok N N, trivial⟩ (by decide +kernel) (by kernel_rfl) (B149_508b N) (F149_508b N) (fun _ => rfl) (fun _ _ => rfl) (fun f x => rfl) k
@[reducible] def w149 : List SP := [⟨[.tup [.sl 1, .sl 2, .int .i64]], [.var (.agg [.str, .int .i64, .int .i64]), .row (.int .i64) 3, .row (.int .i64) 3]⟩, ⟨[.tup [.slp 1 (.c 0) .h, .slp 1 .h .h, .int .i64]], [.var (.agg [.str, .int .i64, .int .i64]), .row (.int .i64) 3]⟩]
noncomputable def F149 (N : Nat) (x : ByteArray × Int × Int) : Option (((Int × ByteArray × Int × Int × (List Int) × (List Int)) ⊕ (Nat × Nat × Nat × Int × ByteArray × Int × Int × (List Int)))) := fnR (mkE Tryz.prog ownT (tab149 N) [(508, orC L149_508.s.I (L149_508.cut (F149_508 N N)) (L149_508b.cut (F149_508b N N))), (260286, L149_260286.cut (F149_260286 N N))]) Tryz.f149 s149 w149 x
noncomputable def T149 (N : Nat) : Pk → Tr Pk := tellS s149 w149 (F149 N)
theorem T149_ok (N : Nat) : FOK Tryz.prog 149 (T149 N) :=
  (fn_ok2 ownT mix (tab149_ok N) Tryz.func149 s149 w149 [0] (cuts := [(508, orC L149_508.s.I (L149_508.cut (F149_508 N N)) (L149_508b.cut (F149_508b N N))), (260286, L149_260286.cut (F149_260286 N N))]) ⟨fun c' h => orC_ok (C149_508_ok N N c' h) (C149_508b_ok N N c' h) rfl rfl, C149_260286_ok N N, trivial⟩ (fun _ => by kernel_rfl) (by kernel_rfl) (F149 N) (fun x => rfl))
@[reducible] def s172a : SP := ⟨[.adr 0 [], .int .i64, .fn 131], [.var (.agg [.str, .int .i64, .int .i64])]⟩
noncomputable def tab172a (N : Nat) : Tabs := [(120, T120 N), (121, T121 N), (131, T131 N)]
theorem tab172a_ok (N : Nat) : TabOK Tryz.prog (tab172a N) := ⟨T120_ok N, T121_ok N, T131_ok N, trivial⟩
@[reducible] def w172a : List SP := [⟨[.tup [.int .i64, .int .i64]], [.var (.agg [.str, .int .i64, .int .i64])]⟩]
noncomputable def F172a (N : Nat) : (Int × ByteArray × Int × Int) → Option (Int × Int × ByteArray × Int × Int)
  | (x0, x1, x2, x3) =>
  Option.bind (F131 N x0) fun y0 =>
  Option.bind (F120 N (y0.2, x1, x2, x3)) fun y1 =>
  Option.bind (F121 N (y1.2.1, y1.2.2.1, y1.2.2.2, ())) fun y2 =>
  some ((IntKind.wrap .i64 (y0.1 + y1.1), y2, y1.2.1, y1.2.2.1, y1.2.2.2))
noncomputable def V172a (N : Nat) : Pk → Tr Pk := tellS s172a w172a (F172a N)
theorem V172a_ok (N : Nat) : FOK Tryz.prog 172 (V172a N) :=
  (fn_ok2 ownT mix (tab172a_ok N) Tryz.func172 s172a w172a [0] (cuts := []) trivial (fun _ => by kernel_rfl) (by kernel_rfl) (F172a N) (fun x => by kernel_rfl))
@[reducible] def s172b : SP := ⟨[.adr 0 [], .int .i64, .fn 132], [.var (.agg [.str, .int .i64, .int .i64])]⟩
noncomputable def tab172b (N : Nat) : Tabs := [(120, T120 N), (121, T121 N), (132, T132 N)]
theorem tab172b_ok (N : Nat) : TabOK Tryz.prog (tab172b N) := ⟨T120_ok N, T121_ok N, T132_ok N, trivial⟩
@[reducible] def w172b : List SP := [⟨[.tup [.int .i64, .int .i64]], [.var (.agg [.str, .int .i64, .int .i64])]⟩]
noncomputable def F172b (N : Nat) : (Int × ByteArray × Int × Int) → Option (Int × Int × ByteArray × Int × Int)
  | (x0, x1, x2, x3) =>
  Option.bind (F132 N x0) fun y0 =>
  Option.bind (F120 N (y0.2, x1, x2, x3)) fun y1 =>
  Option.bind (F121 N (y1.2.1, y1.2.2.1, y1.2.2.2, ())) fun y2 =>
  some ((IntKind.wrap .i64 (y0.1 + y1.1), y2, y1.2.1, y1.2.2.1, y1.2.2.2))
noncomputable def V172b (N : Nat) : Pk → Tr Pk := tellS s172b w172b (F172b N)
theorem V172b_ok (N : Nat) : FOK Tryz.prog 172 (V172b N) :=
  (fn_ok2 ownT mix (tab172b_ok N) Tryz.func172 s172b w172b [0] (cuts := []) trivial (fun _ => by kernel_rfl) (by kernel_rfl) (F172b N) (fun x => by kernel_rfl))
noncomputable def T172 (N : Nat) : Pk → Tr Pk := (orT s172a.I (V172a N) (V172b N))
theorem T172_ok (N : Nat) : FOK Tryz.prog 172 (T172 N) := (orT_ok (V172a_ok N) (V172b_ok N))
@[reducible] def s167 : SP := ⟨[.adr 0 [], .int .i64, .adr 1 []], [.var (.agg [.str, .int .i64, .int .i64]), .var (.agg [.arr (.int .i64) 16, .sl 2, .int .i64]), .row (.int .i64) 3]⟩
noncomputable def tab167 (N : Nat) : Tabs := [(172, T172 N), (164, T164 N)]
theorem tab167_ok (N : Nat) : TabOK Tryz.prog (tab167 N) := ⟨T172_ok N, T164_ok N, trivial⟩
@[reducible] def w167 : List SP := [⟨[.tup [.agg [.int .i64, .int .i64, .int .i64], .int .i64]], [.var (.agg [.str, .int .i64, .int .i64]), .var (.agg [.arr (.int .i64) 16, .sl 2, .int .i64]), .row (.int .i64) 3]⟩]
noncomputable def F167 (N : Nat) : (Int × ByteArray × Int × Int × (List Int) × Int × (List Int)) → Option (Int × Int × Int × Int × ByteArray × Int × Int × (List Int) × Int × (List Int))
  | (x0, x1, x2, x3, x4, x5, x6) =>
  iteP (decide (x0 > 285)) (
  some (((0 : Int), (0 : Int), (0 : Int), (3 : Int), x1, x2, x3, x4, x5, x6))) (
  Option.bind (F172a N (x0, x1, x2, x3)) fun y0 =>
  iteP (y0.2.1 != 0) (
  some (((0 : Int), (0 : Int), (0 : Int), y0.2.1, y0.2.2.1, y0.2.2.2.1, y0.2.2.2.2, x4, x5, x6))) (
  Option.bind (F164 N (x4, x5, y0.2.2.1, y0.2.2.2.1, y0.2.2.2.2, x6)) fun y1 =>
  iteP (y1.2.1 != 0) (
  some (((0 : Int), (0 : Int), (0 : Int), y1.2.1, y1.2.2.2.2.1, y1.2.2.2.2.2.1, y1.2.2.2.2.2.2.1, y1.2.2.1, y1.2.2.2.1, y1.2.2.2.2.2.2.2))) (
  iteP (decide (y1.1 ≥ 30)) (
  some (((0 : Int), (0 : Int), (0 : Int), (3 : Int), y1.2.2.2.2.1, y1.2.2.2.2.2.1, y1.2.2.2.2.2.2.1, y1.2.2.1, y1.2.2.2.1, y1.2.2.2.2.2.2.2))) (
  Option.bind (F172b N (y1.1, y1.2.2.2.2.1, y1.2.2.2.2.2.1, y1.2.2.2.2.2.2.1)) fun y2 =>
  some (((0 : Int), y0.1, y2.1, y2.2.1, y2.2.2.1, y2.2.2.2.1, y2.2.2.2.2, y1.2.2.1, y1.2.2.2.1, y1.2.2.2.2.2.2.2))))))
noncomputable def T167 (N : Nat) : Pk → Tr Pk := tellS s167 w167 (F167 N)
theorem T167_ok (N : Nat) : FOK Tryz.prog 167 (T167 N) :=
  (fn_ok2 ownT mix (tab167_ok N) Tryz.func167 s167 w167 [0, 1] (cuts := []) trivial (fun _ => by kernel_rfl) (by kernel_rfl) (F167 N) (fun x => by kernel_rfl))
@[reducible] def s150 : SP := ⟨[.adr 0 [], .ro (.int .i64), .ro (.int .i64), .int .i64], [.var (.agg [.str, .int .i64, .int .i64])]⟩
noncomputable def tab150 (N : Nat) : Tabs := [(166, T166 N), (164, T164 N), (167, T167 N)]
theorem tab150_ok (N : Nat) : TabOK Tryz.prog (tab150 N) := ⟨T166_ok N, T164_ok N, T167_ok N, trivial⟩
@[reducible] def L150_254 : LD := ⟨254, [14, 10, 0, 12, 3, 15], [(.ret, [8, 9]), (.exit 0, [8, 9])], ⟨[.sl 1, .nilp, .adr 0 [], .nilp, .int .i64, .int .i64], [.var (.agg [.str, .int .i64, .int .i64]), .row y0 52]⟩, []⟩
abbrev P150_254 : Type := Int × Int × ByteArray × Int × Int × (List (Int × (Int × (Int × Unit))))
abbrev R150_254 : Type := Unit
noncomputable def B150_254 (N : Nat) (f : P150_254 → Option R150_254) : P150_254 → Option R150_254
  | (x0, x1, x2, x3, x4, x5) =>
  none
noncomputable def F150_254 (N : Nat) : Nat → P150_254 → Option R150_254
  | 0, _ => none
  | k + 1, x => B150_254 N (F150_254 N k) x
theorem C150_254_ok (N : Nat) (k : Nat) : CutAt Tryz.prog Tryz.f150 [0] 254 (L150_254.cut (F150_254 N k)) :=
  L150_254.loopT ownT mix (tab150_ok N) Tryz.f150 [0] (cuts := []) trivial (by decide +kernel) (by kernel_rfl) (B150_254 N) (F150_254 N) (fun _ => rfl) (fun _ _ => rfl) (fun f x => by kernel_rfl) k
@[reducible] def L150_254b : LD := ⟨254, [14, 10, 0, 12, 3, 15], [(.ret, [8, 9]), (.exit 0, [8, 9])], ⟨[.sl 1, .nilp, .adr 0 [], .adr 2 [], .int .i64, .int .i64], [.var (.agg [.str, .int .i64, .int .i64]), .row y0 52, .var (.agg [.arr (.int .i64) 16, .sl 3, .int .i64]), .row (.int .i64) 3]⟩, []⟩
abbrev P150_254b : Type := Int × Int × ByteArray × Int × Int × (List (Int × (Int × (Int × Unit)))) × (List Int) × Int × (List Int)
abbrev R150_254b : Type := Unit
noncomputable def B150_254b (N : Nat) (f : P150_254b → Option R150_254b) : P150_254b → Option R150_254b
  | (x0, x1, x2, x3, x4, x5, x6, x7, x8) =>
  none
noncomputable def F150_254b (N : Nat) : Nat → P150_254b → Option R150_254b
  | 0, _ => none
  | k + 1, x => B150_254b N (F150_254b N k) x
theorem C150_254b_ok (N : Nat) (k : Nat) : CutAt Tryz.prog Tryz.f150 [0] 254 (L150_254b.cut (F150_254b N k)) :=
  L150_254b.loopT ownT mix (tab150_ok N) Tryz.f150 [0] (cuts := [(254, L150_254.cut (F150_254 N N))]) ⟨C150_254_ok N N, trivial⟩ (by decide +kernel) (by kernel_rfl) (B150_254b N) (F150_254b N) (fun _ => rfl) (fun _ _ => rfl) (fun f x => by kernel_rfl) k
@[reducible] def L150_254c : LD := ⟨254, [14, 10, 0, 12, 3, 15], [(.ret, [8, 9]), (.exit 0, [8, 9])], ⟨[.sl 1, .adr 2 [], .adr 0 [], .nilp, .int .i64, .int .i64], [.var (.agg [.str, .int .i64, .int .i64]), .row y0 52, .var (.agg [.arr (.int .i64) 16, .sl 3, .int .i64]), .row (.int .i64) 3]⟩, [(.ret, ⟨[.sl 1, .int .i64], [.var (.agg [.str, .int .i64, .int .i64]), .row y0 52]⟩)]⟩
abbrev P150_254c : Type := Int × Int × ByteArray × Int × Int × (List (Int × (Int × (Int × Unit)))) × (List Int) × Int × (List Int)
abbrev R150_254c : Type := Int × ByteArray × Int × Int × (List (Int × (Int × (Int × Unit))))
noncomputable def B150_254c (N : Nat) (f : P150_254c → Option R150_254c) (x : P150_254c) : Option R150_254c := L150_254c.rnd (mkE Tryz.prog ownT (tab150 N) [(254, orC L150_254.s.I (L150_254.cut (F150_254 N N)) (L150_254b.cut (F150_254b N N)))]) Tryz.f150 [0] f x
noncomputable def F150_254c (N : Nat) : Nat → P150_254c → Option R150_254c
  | 0, _ => none
  | k + 1, x => B150_254c N (F150_254c N k) x
theorem C150_254c_ok (N : Nat) (k : Nat) : CutAt Tryz.prog Tryz.f150 [0] 254 (L150_254c.cut (F150_254c N k)) :=
  L150_254c.loopT ownT mix (tab150_ok N) Tryz.f150 [0] (cuts := [(254, orC L150_254.s.I (L150_254.cut (F150_254 N N)) (L150_254b.cut (F150_254b N N)))]) ⟨fun c' h => orC_ok (C150_254_ok N N c' h) (C150_254b_ok N N c' h) rfl rfl, trivial⟩ (by decide +kernel) (by kernel_rfl) (B150_254c N) (F150_254c N) (fun _ => rfl) (fun _ _ => rfl) (fun f x => rfl) k
@[reducible] def L150_254d : LD := ⟨254, [14, 10, 0, 12, 3, 15], [(.ret, [8, 9]), (.exit 0, [8, 9])], ⟨[.sl 1, .adr 2 [], .adr 0 [], .adr 3 [], .int .i64, .int .i64], [.var (.agg [.str, .int .i64, .int .i64]), .row y0 52, .var (.agg [.arr (.int .i64) 16, .sl 4, .int .i64]), .var (.agg [.arr (.int .i64) 16, .sl 5, .int .i64]), .row (.int .i64) 3, .row (.int .i64) 3]⟩, [(.ret, ⟨[.sl 1, .int .i64], [.var (.agg [.str, .int .i64, .int .i64]), .row y0 52]⟩)]⟩
abbrev P150_254d : Type := Int × Int × ByteArray × Int × Int × (List (Int × (Int × (Int × Unit)))) × (List Int) × Int × (List Int) × Int × (List Int) × (List Int)
abbrev R150_254d : Type := Int × ByteArray × Int × Int × (List (Int × (Int × (Int × Unit))))
noncomputable def B150_254d (N : Nat) (f : P150_254d → Option R150_254d) (x : P150_254d) : Option R150_254d := L150_254d.rnd (mkE Tryz.prog ownT (tab150 N) [(254, orC L150_254.s.I (L150_254.cut (F150_254 N N)) (orC L150_254b.s.I (L150_254b.cut (F150_254b N N)) (L150_254c.cut (F150_254c N N))))]) Tryz.f150 [0] f x
noncomputable def F150_254d (N : Nat) : Nat → P150_254d → Option R150_254d
  | 0, _ => none
  | k + 1, x => B150_254d N (F150_254d N k) x
theorem C150_254d_ok (N : Nat) (k : Nat) : CutAt Tryz.prog Tryz.f150 [0] 254 (L150_254d.cut (F150_254d N k)) :=
  L150_254d.loopT ownT mix (tab150_ok N) Tryz.f150 [0] (cuts := [(254, orC L150_254.s.I (L150_254.cut (F150_254 N N)) (orC L150_254b.s.I (L150_254b.cut (F150_254b N N)) (L150_254c.cut (F150_254c N N))))]) ⟨fun c' h => orC_ok (C150_254_ok N N c' h) (orC_ok (C150_254b_ok N N c' h) (C150_254c_ok N N c' h) rfl rfl) rfl rfl, trivial⟩ (by decide +kernel) (by kernel_rfl) (B150_254d N) (F150_254d N) (fun _ => rfl) (fun _ _ => rfl) (fun f x => rfl) k
@[reducible] def w150 : List SP := [⟨[.tup [.sl 1, .int .i64]], [.var (.agg [.str, .int .i64, .int .i64]), .row y0 52]⟩]
noncomputable def F150 (N : Nat) (x : (List Int) × (List Int) × Int × ByteArray × Int × Int) : Option (Int × ByteArray × Int × Int × (List (Int × (Int × (Int × Unit))))) := fnR (mkE Tryz.prog ownT (tab150 N) [(254, orC L150_254.s.I (L150_254.cut (F150_254 N N)) (orC L150_254b.s.I (L150_254b.cut (F150_254b N N)) (orC L150_254c.s.I (L150_254c.cut (F150_254c N N)) (L150_254d.cut (F150_254d N N)))))]) Tryz.f150 s150 w150 x
noncomputable def T150 (N : Nat) : Pk → Tr Pk := tellS s150 w150 (F150 N)
theorem T150_ok (N : Nat) : FOK Tryz.prog 150 (T150 N) :=
  (fn_ok2 ownT mix (tab150_ok N) Tryz.func150 s150 w150 [0] (cuts := [(254, orC L150_254.s.I (L150_254.cut (F150_254 N N)) (orC L150_254b.s.I (L150_254b.cut (F150_254b N N)) (orC L150_254c.s.I (L150_254c.cut (F150_254c N N)) (L150_254d.cut (F150_254d N N)))))]) ⟨fun c' h => orC_ok (C150_254_ok N N c' h) (orC_ok (C150_254b_ok N N c' h) (orC_ok (C150_254c_ok N N c' h) (C150_254d_ok N N c' h) rfl rfl) rfl rfl) rfl rfl, trivial⟩ (fun _ => by kernel_rfl) (by kernel_rfl) (F150 N) (fun x => rfl))
@[reducible] def s152 : SP := ⟨[.str, .ro y0], []⟩
noncomputable def tab152 (N : Nat) : Tabs := [(88, T88 N), (27, T27 N)]
theorem tab152_ok (N : Nat) : TabOK Tryz.prog (tab152 N) := ⟨T88_ok N, T27_ok N, trivial⟩
@[reducible] def L152_62670 : LD := ⟨62670, [6, 43, 42, 15, 7, 16, 17, 9], [(.ret, [4, 5]), (.exit 3, [17, 16, 7, 15, 6]), (.exit 1, [17, 16, 7, 15, 6]), (.exit 0, [6, 7])], ⟨[.sl 0, .int .i64, .int .i64, .ro y0, .int .i64, .int .i64, .int .i64, .adr 1 []], [.row (.int .u8) 5, .var (.agg [.int .i64, .int .i64, .int .i64])]⟩, [(.exit 3, ⟨[.int .i64, .int .i64, .int .i64, .ro y0, .sl 0], [.row (.int .u8) 5]⟩)]⟩
abbrev P152_62670 : Type := Int × Int × (List (Int × (Int × (Int × Unit)))) × Int × Int × Int × (List Int) × Int × Int × Int
abbrev R152_62670 : Type := Int × Int × Int × (List (Int × (Int × (Int × Unit)))) × (List Int)
noncomputable def B152_62670 (N : Nat) (f : P152_62670 → Option R152_62670) (x : P152_62670) : Option R152_62670 := L152_62670.rnd (mkE Tryz.prog ownT (tab152 N) []) Tryz.f152 [] f x
noncomputable def F152_62670 (N : Nat) : Nat → P152_62670 → Option R152_62670
  | 0, _ => none
  | k + 1, x => B152_62670 N (F152_62670 N k) x
theorem C152_62670_ok (N : Nat) (k : Nat) : CutAt Tryz.prog Tryz.f152 [] 62670 (L152_62670.cut (F152_62670 N k)) :=
  L152_62670.loopT ownT mix (tab152_ok N) Tryz.f152 [] (cuts := []) trivial (by decide +kernel) (by kernel_rfl) (B152_62670 N) (F152_62670 N) (fun _ => rfl) (fun _ _ => rfl) (fun f x => rfl) k
@[reducible] def L152_122 : LD := ⟨122, [17, 16, 7, 15, 6], [(.ret, [4, 5]), (.exit 0, [6, 7])], ⟨[.int .i64, .int .i64, .int .i64, .ro y0, .sl 0], [.row (.int .u8) 5]⟩, [(.ret, ⟨[.str, .int .i64], []⟩), (.exit 0, ⟨[.sl 0, .int .i64], [.row (.int .u8) 5]⟩)]⟩
abbrev P152_122 : Type := Int × Int × Int × (List (Int × (Int × (Int × Unit)))) × (List Int)
abbrev R152_122 : Type := ((ByteArray × Int) ⊕ (Int × (List Int)))
noncomputable def B152_122 (N : Nat) (f : P152_122 → Option R152_122) (x : P152_122) : Option R152_122 := L152_122.rnd (mkE Tryz.prog ownT (tab152 N) [(62670, L152_62670.cut (F152_62670 N N))]) Tryz.f152 [] f x
noncomputable def F152_122 (N : Nat) : Nat → P152_122 → Option R152_122
  | 0, _ => none
  | k + 1, x => B152_122 N (F152_122 N k) x
theorem C152_122_ok (N : Nat) (k : Nat) : CutAt Tryz.prog Tryz.f152 [] 122 (L152_122.cut (F152_122 N k)) :=
  L152_122.loopT ownT mix (tab152_ok N) Tryz.f152 [] (cuts := [(62670, L152_62670.cut (F152_62670 N N))]) ⟨C152_62670_ok N N, trivial⟩ (by decide +kernel) (by kernel_rfl) (B152_122 N) (F152_122 N) (fun _ => rfl) (fun _ _ => rfl) (fun f x => rfl) k
@[reducible] def w152 : List SP := [⟨[.tup [.str, .int .i64]], []⟩]
noncomputable def F152 (N : Nat) (x : ByteArray × (List (Int × (Int × (Int × Unit))))) : Option (ByteArray × Int) := fnR (mkE Tryz.prog ownT (tab152 N) [(62670, L152_62670.cut (F152_62670 N N)), (122, L152_122.cut (F152_122 N N))]) Tryz.f152 s152 w152 x
noncomputable def T152 (N : Nat) : Pk → Tr Pk := tellS s152 w152 (F152 N)
theorem T152_ok (N : Nat) : FOK Tryz.prog 152 (T152 N) :=
  (fn_ok2 ownT mix (tab152_ok N) Tryz.func152 s152 w152 [] (cuts := [(62670, L152_62670.cut (F152_62670 N N)), (122, L152_122.cut (F152_122 N N))]) ⟨C152_62670_ok N N, C152_122_ok N N, trivial⟩ (fun _ => by kernel_rfl) (by kernel_rfl) (F152 N) (fun x => rfl))
@[reducible] def s123 : SP := ⟨[.adr 0 [], .int .i64, .str, .int .i64], [.var (.agg [.str, .int .i64, .int .i64])]⟩
noncomputable def tab123 (N : Nat) : Tabs := [(64, T64 N), (149, T149 N), (150, T150 N), (151, T151 N), (152, T152 N)]
theorem tab123_ok (N : Nat) : TabOK Tryz.prog (tab123 N) := ⟨T64_ok N, T149_ok N, T150_ok N, T151_ok N, T152_ok N, trivial⟩
@[reducible] def w123 : List SP := [⟨[.tup [.str, .int .i64]], [.var (.agg [.str, .int .i64, .int .i64])]⟩]
noncomputable def F123 (N : Nat) (x : Int × ByteArray × Int × ByteArray × Int × Int) : Option (ByteArray × Int × ByteArray × Int × Int) := fnR (mkE Tryz.prog ownT (tab123 N) []) Tryz.f123 s123 w123 x
noncomputable def T123 (N : Nat) : Pk → Tr Pk := tellS s123 w123 (F123 N)
theorem T123_ok (N : Nat) : FOK Tryz.prog 123 (T123 N) :=
  (fn_ok2 ownT mix (tab123_ok N) Tryz.func123 s123 w123 [0] (cuts := []) trivial (fun _ => by kernel_rfl) (by kernel_rfl) (F123 N) (fun x => rfl))
@[reducible] def s87 : SP := ⟨[.adr 0 [], .str, .int .i64], [.var (.agg [.str, .int .i64, .int .i64])]⟩
noncomputable def tab87 (N : Nat) : Tabs := [(120, T120 N), (121, T121 N), (122, T122 N), (123, T123 N)]
theorem tab87_ok (N : Nat) : TabOK Tryz.prog (tab87 N) := ⟨T120_ok N, T121_ok N, T122_ok N, T123_ok N, trivial⟩
@[reducible] def w87 : List SP := [⟨[.tup [.str, .bool, .int .i64, .int .i64]], [.var (.agg [.str, .int .i64, .int .i64])]⟩]
noncomputable def F87 (N : Nat) (x : ByteArray × Int × ByteArray × Int × Int) : Option (ByteArray × Bool × Int × Int × ByteArray × Int × Int) := fnR (mkE Tryz.prog ownT (tab87 N) []) Tryz.f87 s87 w87 x
noncomputable def T87 (N : Nat) : Pk → Tr Pk := tellS s87 w87 (F87 N)
theorem T87_ok (N : Nat) : FOK Tryz.prog 87 (T87 N) :=
  (fn_ok2 ownT mix (tab87_ok N) Tryz.func87 s87 w87 [0] (cuts := []) trivial (fun _ => by kernel_rfl) (by kernel_rfl) (F87 N) (fun x => rfl))
@[reducible] def s41 : SP := ⟨[.str, .str, .int .i64], []⟩
noncomputable def tab41 (N : Nat) : Tabs := [(85, T85 N), (86, T86 N), (88, T88 N), (87, T87 N)]
theorem tab41_ok (N : Nat) : TabOK Tryz.prog (tab41 N) := ⟨T85_ok N, T86_ok N, T88_ok N, T87_ok N, trivial⟩
@[reducible] def L41_124 : LD := ⟨124, [10, 9, 8, 0, 2], [(.ret, [6, 7]), (.exit 0, [10, 9])], ⟨[.bool, .str, .adr 0 [], .str, .int .i64], [.var (.agg [.str, .int .i64, .int .i64])]⟩, [(.ret, ⟨[.str, .int .i64], []⟩), (.exit 0, ⟨[.bool, .str], []⟩)]⟩
abbrev P41_124 : Type := Bool × ByteArray × ByteArray × Int × ByteArray × Int × Int
abbrev R41_124 : Type := ((ByteArray × Int) ⊕ (Bool × ByteArray))
noncomputable def B41_124 (N : Nat) (f : P41_124 → Option R41_124) (x : P41_124) : Option R41_124 := L41_124.rnd (mkE Tryz.prog ownT (tab41 N) []) Tryz.f41 [] f x
noncomputable def F41_124 (N : Nat) : Nat → P41_124 → Option R41_124
  | 0, _ => none
  | k + 1, x => B41_124 N (F41_124 N k) x
theorem C41_124_ok (N : Nat) (k : Nat) : CutAt Tryz.prog Tryz.f41 [] 124 (L41_124.cut (F41_124 N k)) :=
  L41_124.loopT ownT mix (tab41_ok N) Tryz.f41 [] (cuts := []) trivial (by decide +kernel) (by kernel_rfl) (B41_124 N) (F41_124 N) (fun _ => rfl) (fun _ _ => rfl) (fun f x => rfl) k
@[reducible] def w41 : List SP := [⟨[.tup [.str, .int .i64]], []⟩]
noncomputable def F41 (N : Nat) (x : ByteArray × ByteArray × Int) : Option (ByteArray × Int) := fnR (mkE Tryz.prog ownT (tab41 N) [(124, L41_124.cut (F41_124 N N))]) Tryz.f41 s41 w41 x
noncomputable def T41 (N : Nat) : Pk → Tr Pk := tellS s41 w41 (F41 N)
theorem T41_ok (N : Nat) : FOK Tryz.prog 41 (T41 N) :=
  (fn_ok2 ownT mix (tab41_ok N) Tryz.func41 s41 w41 [] (cuts := [(124, L41_124.cut (F41_124 N N))]) ⟨C41_124_ok N N, trivial⟩ (fun _ => by kernel_rfl) (by kernel_rfl) (F41 N) (fun x => rfl))
@[reducible] def y7 : Ty := (.cons (.cons .bool (.cons .str .unit)) (.cons (.int .i64) .unit))
@[reducible] def s89 : SP := ⟨[.radr y7 [.i 0 3], .str, .int .i64], []⟩
noncomputable def tab89 (N : Nat) : Tabs := [(35, T35 N), (41, T41 N)]
theorem tab89_ok (N : Nat) : TabOK Tryz.prog (tab89 N) := ⟨T35_ok N, T41_ok N, trivial⟩
@[reducible] def w89 : List SP := [⟨[.tup [.str, .int .i64]], []⟩]
noncomputable def F89 (N : Nat) (x : ((Bool × (ByteArray × Unit)) × (Int × Unit)) × ByteArray × Int) : Option (ByteArray × Int) := fnR (mkE Tryz.prog ownT (tab89 N) []) Tryz.f89 s89 w89 x
noncomputable def T89 (N : Nat) : Pk → Tr Pk := tellS s89 w89 (F89 N)
theorem T89_ok (N : Nat) : FOK Tryz.prog 89 (T89 N) :=
  (fn_ok2 ownT mix (tab89_ok N) Tryz.func89 s89 w89 [] (cuts := []) trivial (fun _ => by kernel_rfl) (by kernel_rfl) (F89 N) (fun x => rfl))
@[reducible] def s42 : SP := ⟨[.adr 0 [], .str, .int .i64], [.var (.agg [.agg [.bool, .str], .int .i64])]⟩
noncomputable def tab42 (N : Nat) : Tabs := [(89, T89 N), (80, T80 N)]
theorem tab42_ok (N : Nat) : TabOK Tryz.prog (tab42 N) := ⟨T89_ok N, T80_ok N, trivial⟩
@[reducible] def w42 : List SP := [⟨[.tup [.str, .int .i64]], [.var (.agg [.agg [.bool, .str], .int .i64])]⟩]
noncomputable def F42 (N : Nat) (x : ByteArray × Int × Bool × ByteArray × Int) : Option (ByteArray × Int × Bool × ByteArray × Int) := fnR (mkE Tryz.prog ownT (tab42 N) []) Tryz.f42 s42 w42 x
noncomputable def T42 (N : Nat) : Pk → Tr Pk := tellS s42 w42 (F42 N)
theorem T42_ok (N : Nat) : FOK Tryz.prog 42 (T42 N) :=
  (fn_ok2 ownT mix (tab42_ok N) Tryz.func42 s42 w42 [0] (cuts := []) trivial (fun _ => by kernel_rfl) (by kernel_rfl) (F42 N) (fun x => rfl))
@[reducible] def s145 : SP := ⟨[.int .i64], []⟩
noncomputable def tab145 (N : Nat) : Tabs := []
theorem tab145_ok (N : Nat) : TabOK Tryz.prog (tab145 N) := trivial
@[reducible] def w145 : List SP := [⟨[.tup [.int .i64, .int .i64]], []⟩]
noncomputable def F145 (N : Nat) : (Int) → Option (Int × Int)
  | x0 =>
  some ((IntKind.wrap .i64 (↑(BitVec.toNat (BitVec.ofInt (64 : Nat) x0 &&& BitVec.ofInt (64 : Nat) (65535 : Int))) : Int), IntKind.wrap .i64 (↑(BitVec.toNat (BitVec.ofInt (64 : Nat) (Int.fdiv x0 (65536 : Int)) &&& BitVec.ofInt (64 : Nat) (65535 : Int))) : Int)))
noncomputable def T145 (N : Nat) : Pk → Tr Pk := tellS s145 w145 (F145 N)
theorem T145_ok (N : Nat) : FOK Tryz.prog 145 (T145 N) :=
  (fn_ok2 ownT mix (tab145_ok N) Tryz.func145 s145 w145 [] (cuts := []) trivial (fun _ => by kernel_rfl) (by kernel_rfl) (F145 N) (fun x => by kernel_rfl))
@[reducible] def s117 : SP := ⟨[.int .i64, .str], []⟩
noncomputable def tab117 (N : Nat) : Tabs := [(145, T145 N)]
theorem tab117_ok (N : Nat) : TabOK Tryz.prog (tab117 N) := ⟨T145_ok N, trivial⟩
@[reducible] def L117_3626 : LD := ⟨3626, [5, 6, 21, 20, 7, 1], [(.ret, [4]), (.exit 2, [5, 6, 1, 7]), (.exit 1, [5, 6, 1]), (.exit 0, [6, 5])], ⟨[.int .i64, .int .i64, .int .i64, .int .i64, .int .i64, .str], []⟩, [(.exit 2, ⟨[.int .i64, .int .i64, .str, .int .i64], []⟩)]⟩
abbrev P117_3626 : Type := Int × Int × Int × Int × Int × ByteArray
abbrev R117_3626 : Type := Int × Int × ByteArray × Int
noncomputable def B117_3626 (N : Nat) (f : P117_3626 → Option R117_3626) : P117_3626 → Option R117_3626
  | (x0, x1, x2, x3, x4, x5) =>
  iteP (decide (x2 < x3)) (
  iteP (decide ((0 : Int) ≤ x2)) (
  Option.bind (x5[Int.toNat x2]?) fun y0 =>
  Option.bind (f (IntKind.wrap .i64 (x0 + IntKind.wrap .i64 (↑(UInt8.toNat y0) : Int)), IntKind.wrap .i64 (x1 + IntKind.wrap .i64 (x0 + IntKind.wrap .i64 (↑(UInt8.toNat y0) : Int))), IntKind.wrap .i64 (x2 + 1), x3, x4, x5)) fun r => some r) (
  none)) (
  some ((x0, x1, x5, x4)))
noncomputable def F117_3626 (N : Nat) : Nat → P117_3626 → Option R117_3626
  | 0, _ => none
  | k + 1, x => B117_3626 N (F117_3626 N k) x
theorem C117_3626_ok (N : Nat) (k : Nat) : CutAt Tryz.prog Tryz.f117 [] 3626 (L117_3626.cut (F117_3626 N k)) :=
  L117_3626.loopT ownT mix (tab117_ok N) Tryz.f117 [] (cuts := []) trivial (by decide +kernel) (by kernel_rfl) (B117_3626 N) (F117_3626 N) (fun _ => rfl) (fun _ _ => rfl) (fun f x => by kernel_rfl) k
@[reducible] def L117_28 : LD := ⟨28, [5, 6, 1], [(.ret, [4]), (.exit 0, [6, 5])], ⟨[.int .i64, .int .i64, .str], []⟩, [(.exit 0, ⟨[.int .i64, .int .i64], []⟩)]⟩
abbrev P117_28 : Type := Int × Int × ByteArray
abbrev R117_28 : Type := Int × Int
noncomputable def B117_28 (N : Nat) (f : P117_28 → Option R117_28) : P117_28 → Option R117_28
  | (x0, x1, x2) =>
  iteP (decide ((↑(ByteArray.size x2) : Int) > (0 : Int))) (
  Option.bind (F117_3626 N N (x0, x1, (0 : Int), if (4096 : Int) < (↑(ByteArray.size x2) : Int) then (4096 : Int) else (↑(ByteArray.size x2) : Int), if (4096 : Int) < (↑(ByteArray.size x2) : Int) then (4096 : Int) else (↑(ByteArray.size x2) : Int), x2)) fun y0 =>
  iteP (decide ((0 : Int) ≤ y0.2.2.2 ∧ y0.2.2.2 ≤ (↑(ByteArray.size y0.2.2.1) : Int))) (
  Option.bind (f (Int.tmod y0.1 (65521 : Int), Int.tmod y0.2.1 (65521 : Int), ByteArray.extract y0.2.2.1 (Int.toNat y0.2.2.2) (ByteArray.size y0.2.2.1))) fun r => some r) (
  none)) (
  some ((x1, x0)))
noncomputable def F117_28 (N : Nat) : Nat → P117_28 → Option R117_28
  | 0, _ => none
  | k + 1, x => B117_28 N (F117_28 N k) x
theorem C117_28_ok (N : Nat) (k : Nat) : CutAt Tryz.prog Tryz.f117 [] 28 (L117_28.cut (F117_28 N k)) :=
  L117_28.loopT ownT mix (tab117_ok N) Tryz.f117 [] (cuts := [(3626, L117_3626.cut (F117_3626 N N))]) ⟨C117_3626_ok N N, trivial⟩ (by decide +kernel) (by kernel_rfl) (B117_28 N) (F117_28 N) (fun _ => rfl) (fun _ _ => rfl) (fun f x => by kernel_rfl) k
@[reducible] def w117 : List SP := [⟨[.int .i64], []⟩]
noncomputable def F117 (N : Nat) : (Int × ByteArray) → Option (Int)
  | (x0, x1) =>
  Option.bind (F145 N x0) fun y0 =>
  Option.bind (F117_28 N N (y0.1, y0.2, x1)) fun y1 =>
  some (IntKind.wrap .i64 (↑(BitVec.toNat (BitVec.ofInt (64 : Nat) (IntKind.wrap .i64 (y1.1 * 65536)) ||| BitVec.ofInt (64 : Nat) y1.2)) : Int))
noncomputable def T117 (N : Nat) : Pk → Tr Pk := tellS s117 w117 (F117 N)
theorem T117_ok (N : Nat) : FOK Tryz.prog 117 (T117 N) :=
  (fn_ok2 ownT mix (tab117_ok N) Tryz.func117 s117 w117 [] (cuts := [(3626, L117_3626.cut (F117_3626 N N)), (28, L117_28.cut (F117_28 N N))]) ⟨C117_3626_ok N N, C117_28_ok N N, trivial⟩ (fun _ => by kernel_rfl) (by kernel_rfl) (F117 N) (fun x => by kernel_rfl))
@[reducible] def s82 : SP := ⟨[.ro (.str)], []⟩
noncomputable def tab82 (N : Nat) : Tabs := [(117, T117 N)]
theorem tab82_ok (N : Nat) : TabOK Tryz.prog (tab82 N) := ⟨T117_ok N, trivial⟩
@[reducible] def L82_58 : LD := ⟨58, [3, 8, 7, 6], [(.ret, [2]), (.exit 0, [3])], ⟨[.int .i64, .int .i64, .int .i64, .ro (.str)], []⟩, [(.exit 0, ⟨[.int .i64], []⟩)]⟩
abbrev P82_58 : Type := Int × Int × Int × (List ByteArray)
abbrev R82_58 : Type := Int
noncomputable def B82_58 (N : Nat) (f : P82_58 → Option R82_58) : P82_58 → Option R82_58
  | (x0, x1, x2, x3) =>
  iteP (decide (x1 < x2)) (
  iteP (within x1 (List.length x3)) (
  Option.bind (x3[Int.toNat x1]?) fun y0 =>
  Option.bind (F117 N (x0, y0)) fun y1 =>
  Option.bind (f (y1, IntKind.wrap .i64 (x1 + 1), x2, x3)) fun r => some r) (
  none)) (
  some (x0))
noncomputable def F82_58 (N : Nat) : Nat → P82_58 → Option R82_58
  | 0, _ => none
  | k + 1, x => B82_58 N (F82_58 N k) x
theorem C82_58_ok (N : Nat) (k : Nat) : CutAt Tryz.prog Tryz.f82 [] 58 (L82_58.cut (F82_58 N k)) :=
  L82_58.loopT ownT mix (tab82_ok N) Tryz.f82 [] (cuts := []) trivial (by decide +kernel) (by kernel_rfl) (B82_58 N) (F82_58 N) (fun _ => rfl) (fun _ _ => rfl) (fun f x => by kernel_rfl) k
@[reducible] def w82 : List SP := [⟨[.int .i64], []⟩]
noncomputable def F82 (N : Nat) : ((List ByteArray)) → Option (Int)
  | x0 =>
  Option.bind (F82_58 N N ((1 : Int), (0 : Int), (↑(List.length x0) : Int), x0)) fun y0 =>
  some (y0)
noncomputable def T82 (N : Nat) : Pk → Tr Pk := tellS s82 w82 (F82 N)
theorem T82_ok (N : Nat) : FOK Tryz.prog 82 (T82 N) :=
  (fn_ok2 ownT mix (tab82_ok N) Tryz.func82 s82 w82 [] (cuts := [(58, L82_58.cut (F82_58 N N))]) ⟨C82_58_ok N N, trivial⟩ (fun _ => by kernel_rfl) (by kernel_rfl) (F82 N) (fun x => by kernel_rfl))
@[reducible] def s116 : SP := ⟨[.int .i64, .int .i64], []⟩
noncomputable def tab116 (N : Nat) : Tabs := [(141, T141 N)]
theorem tab116_ok (N : Nat) : TabOK Tryz.prog (tab116 N) := ⟨T141_ok N, trivial⟩
@[reducible] def L116_122 : LD := ⟨122, [25, 24, 6, 1], [(.ret, [4, 5]), (.exit 0, [6])], ⟨[.int .i64, .int .i64, .sl 0, .int .i64], [.row (.int .u8) 5]⟩, [(.exit 0, ⟨[.sl 0], [.row (.int .u8) 5]⟩)]⟩
abbrev P116_122 : Type := Int × Int × Int × (List Int)
abbrev R116_122 : Type := (List Int)
noncomputable def B116_122 (N : Nat) (f : P116_122 → Option R116_122) : P116_122 → Option R116_122
  | (x0, x1, x2, x3) =>
  iteP (decide (x0 < x1)) (
  iteP (decide (IntKind.wrap .i64 ((8 : Int) * x0) < 0)) (
  none) (
  iteP (within x0 (List.length x3)) (
  Option.bind (x3[Int.toNat x0]?) fun y0 =>
  Option.bind (f (IntKind.wrap .i64 (x0 + 1), x1, x2, List.set x3 (Int.toNat x0) (IntKind.wrap .u8 (Int.fdiv x2 ((2 : Int) ^ min (Int.toNat (IntKind.wrap .i64 ((8 : Int) * x0))) (64 : Nat)))))) fun r => some r) (
  none))) (
  some (x3))
noncomputable def F116_122 (N : Nat) : Nat → P116_122 → Option R116_122
  | 0, _ => none
  | k + 1, x => B116_122 N (F116_122 N k) x
theorem C116_122_ok (N : Nat) (k : Nat) : CutAt Tryz.prog Tryz.f116 [] 122 (L116_122.cut (F116_122 N k)) :=
  L116_122.loopT ownT mix (tab116_ok N) Tryz.f116 [] (cuts := []) trivial (by decide +kernel) (by kernel_rfl) (B116_122 N) (F116_122 N) (fun _ => rfl) (fun _ _ => rfl) (fun f x => by kernel_rfl) k
@[reducible] def w116 : List SP := [⟨[.tup [.str, .int .i64]], []⟩]
noncomputable def F116 (N : Nat) : (Int × Int) → Option (ByteArray × Int)
  | (x0, x1) =>
  Option.bind (F141 N x0) fun y0 =>
  iteP (!y0) (
  some ((ByteArray.mk #[], (1 : Int)))) (
  iteP (decide (x1 < 0)) (
  some ((ByteArray.mk #[], (1 : Int)))) (
  iteP (decide (IntKind.wrap .i64 ((8 : Int) * x0) < 0)) (
  none) (
  iteP (Int.fdiv x1 ((2 : Int) ^ min (Int.toNat (IntKind.wrap .i64 ((8 : Int) * x0))) (64 : Nat)) != 0) (
  some ((ByteArray.mk #[], (1 : Int)))) (
  iteP (decide ((0 : Int) ≤ x0 ∧ x0 ≤ x0 ∧ x0 * 1 ≤ (140737488355328 : Int) ∧ x0 ≤ 140737488355328)) (
  Option.bind (F116_122 N N ((0 : Int), x0, x1, List.replicate (Int.toNat x0) (0 : Int))) fun y1 =>
  some ((stringOf y1, (0 : Int)))) (
  none)))))
noncomputable def T116 (N : Nat) : Pk → Tr Pk := tellS s116 w116 (F116 N)
theorem T116_ok (N : Nat) : FOK Tryz.prog 116 (T116 N) :=
  (fn_ok2 ownT mix (tab116_ok N) Tryz.func116 s116 w116 [] (cuts := [(122, L116_122.cut (F116_122 N N))]) ⟨C116_122_ok N N, trivial⟩ (fun _ => by kernel_rfl) (by kernel_rfl) (F116 N) (fun x => by kernel_rfl))
@[reducible] def s81 : SP := ⟨[.int .i64, .int .i64], []⟩
noncomputable def tab81 (N : Nat) : Tabs := [(116, T116 N), (115, T115 N)]
theorem tab81_ok (N : Nat) : TabOK Tryz.prog (tab81 N) := ⟨T116_ok N, T115_ok N, trivial⟩
@[reducible] def w81 : List SP := [⟨[.tup [.str, .int .i64]], []⟩]
noncomputable def F81 (N : Nat) : (Int × Int) → Option (ByteArray × Int)
  | (x0, x1) =>
  Option.bind (F116 N (x0, x1)) fun y0 =>
  Option.bind (F115 N y0.1) fun y1 =>
  some ((y1, y0.2))
noncomputable def T81 (N : Nat) : Pk → Tr Pk := tellS s81 w81 (F81 N)
theorem T81_ok (N : Nat) : FOK Tryz.prog 81 (T81 N) :=
  (fn_ok2 ownT mix (tab81_ok N) Tryz.func81 s81 w81 [] (cuts := []) trivial (fun _ => by kernel_rfl) (by kernel_rfl) (F81 N) (fun x => by kernel_rfl))
@[reducible] def s39 : SP := ⟨[.str], []⟩
noncomputable def tab39 (N : Nat) : Tabs := [(82, T82 N), (81, T81 N), (30, T30 N)]
theorem tab39_ok (N : Nat) : TabOK Tryz.prog (tab39 N) := ⟨T82_ok N, T81_ok N, T30_ok N, trivial⟩
@[reducible] def w39 : List SP := [⟨[.str], []⟩]
noncomputable def F39 (N : Nat) : (ByteArray) → Option (ByteArray)
  | x0 =>
  Option.bind (F82 N [x0]) fun y0 =>
  Option.bind (F81 N ((4 : Int), y0)) fun y1 =>
  Option.bind (F30 N (ByteArray.mk #[], x0)) fun y2 =>
  iteP (decide ((↑((2 : Nat) + ByteArray.size y2) : Int) > (9223372036854775807 : Int))) (
  none) (
  iteP (decide ((↑(ByteArray.size (ByteArray.mk #[(120 : UInt8), (156 : UInt8)] ++ y2) + ByteArray.size y1.1) : Int) > (9223372036854775807 : Int))) (
  none) (
  some (ByteArray.mk #[(120 : UInt8), (156 : UInt8)] ++ y2 ++ y1.1)))
noncomputable def T39 (N : Nat) : Pk → Tr Pk := tellS s39 w39 (F39 N)
theorem T39_ok (N : Nat) : FOK Tryz.prog 39 (T39 N) :=
  (fn_ok2 ownT mix (tab39_ok N) Tryz.func39 s39 w39 [] (cuts := []) trivial (fun _ => by kernel_rfl) (by kernel_rfl) (F39 N) (fun x => by kernel_rfl))
@[reducible] def s139 : SP := ⟨[.adr 0 [], .str, .int .i64], [.var (.agg [.str, .int .i64, .int .i64])]⟩
noncomputable def tab139 (N : Nat) : Tabs := [(87, T87 N)]
theorem tab139_ok (N : Nat) : TabOK Tryz.prog (tab139 N) := ⟨T87_ok N, trivial⟩
@[reducible] def w139 : List SP := [⟨[.tup [.str, .bool, .int .i64]], [.var (.agg [.str, .int .i64, .int .i64])]⟩]
noncomputable def F139 (N : Nat) (x : ByteArray × Int × ByteArray × Int × Int) : Option (ByteArray × Bool × Int × ByteArray × Int × Int) := fnR (mkE Tryz.prog ownT (tab139 N) []) Tryz.f139 s139 w139 x
noncomputable def T139 (N : Nat) : Pk → Tr Pk := tellS s139 w139 (F139 N)
theorem T139_ok (N : Nat) : FOK Tryz.prog 139 (T139 N) :=
  (fn_ok2 ownT mix (tab139_ok N) Tryz.func139 s139 w139 [0] (cuts := []) trivial (fun _ => by kernel_rfl) (by kernel_rfl) (F139 N) (fun x => rfl))
@[reducible] def s140 : SP := ⟨[.radr y6 [.i 0 3]], []⟩
noncomputable def tab140 (N : Nat) : Tabs := []
theorem tab140_ok (N : Nat) : TabOK Tryz.prog (tab140 N) := trivial
@[reducible] def w140 : List SP := [⟨[.int .i64], []⟩]
noncomputable def F140 (N : Nat) : ((ByteArray × (Int × (Int × Unit)))) → Option (Int)
  | x0 =>
  some x0.2.1
noncomputable def T140 (N : Nat) : Pk → Tr Pk := tellS s140 w140 (F140 N)
theorem T140_ok (N : Nat) : FOK Tryz.prog 140 (T140 N) :=
  (fn_ok2 ownT mix (tab140_ok N) Tryz.func140 s140 w140 [] (cuts := []) trivial (fun _ => by kernel_rfl) (by kernel_rfl) (F140 N) (fun x => by kernel_rfl))
@[reducible] def s112 : SP := ⟨[.str, .str, .int .i64], []⟩
noncomputable def tab112 (N : Nat) : Tabs := [(85, T85 N), (88, T88 N), (139, T139 N), (140, T140 N)]
theorem tab112_ok (N : Nat) : TabOK Tryz.prog (tab112 N) := ⟨T85_ok N, T88_ok N, T139_ok N, T140_ok N, trivial⟩
@[reducible] def L112_122 : LD := ⟨122, [11, 9, 0, 2, 10], [(.ret, [6, 7, 8]), (.exit 0, [10, 9])], ⟨[.bool, .adr 0 [], .str, .int .i64, .str], [.var (.agg [.str, .int .i64, .int .i64])]⟩, [(.ret, ⟨[.str, .int .i64, .int .i64], []⟩), (.exit 0, ⟨[.str, .adr 0 []], [.var (.agg [.str, .int .i64, .int .i64])]⟩)]⟩
abbrev P112_122 : Type := Bool × ByteArray × Int × ByteArray × ByteArray × Int × Int
abbrev R112_122 : Type := ((ByteArray × Int × Int) ⊕ (ByteArray × ByteArray × Int × Int))
noncomputable def B112_122 (N : Nat) (f : P112_122 → Option R112_122) (x : P112_122) : Option R112_122 := L112_122.rnd (mkE Tryz.prog ownT (tab112 N) []) Tryz.f112 [] f x
noncomputable def F112_122 (N : Nat) : Nat → P112_122 → Option R112_122
  | 0, _ => none
  | k + 1, x => B112_122 N (F112_122 N k) x
theorem C112_122_ok (N : Nat) (k : Nat) : CutAt Tryz.prog Tryz.f112 [] 122 (L112_122.cut (F112_122 N k)) :=
  L112_122.loopT ownT mix (tab112_ok N) Tryz.f112 [] (cuts := []) trivial (by decide +kernel) (by kernel_rfl) (B112_122 N) (F112_122 N) (fun _ => rfl) (fun _ _ => rfl) (fun f x => rfl) k
@[reducible] def w112 : List SP := [⟨[.tup [.str, .int .i64, .int .i64]], []⟩]
noncomputable def F112 (N : Nat) (x : ByteArray × ByteArray × Int) : Option (ByteArray × Int × Int) := fnR (mkE Tryz.prog ownT (tab112 N) [(122, L112_122.cut (F112_122 N N))]) Tryz.f112 s112 w112 x
noncomputable def T112 (N : Nat) : Pk → Tr Pk := tellS s112 w112 (F112 N)
theorem T112_ok (N : Nat) : FOK Tryz.prog 112 (T112 N) :=
  (fn_ok2 ownT mix (tab112_ok N) Tryz.func112 s112 w112 [] (cuts := [(122, L112_122.cut (F112_122 N N))]) ⟨C112_122_ok N N, trivial⟩ (fun _ => by kernel_rfl) (by kernel_rfl) (F112 N) (fun x => rfl))
@[reducible] def s113 : SP := ⟨[.radr y6 [.i 0 3]], []⟩
noncomputable def tab113 (N : Nat) : Tabs := []
theorem tab113_ok (N : Nat) : TabOK Tryz.prog (tab113 N) := trivial
@[reducible] def w113 : List SP := [⟨[.int .i64], []⟩]
noncomputable def F113 (N : Nat) : ((ByteArray × (Int × (Int × Unit)))) → Option (Int)
  | x0 =>
  some x0.2.1
noncomputable def T113 (N : Nat) : Pk → Tr Pk := tellS s113 w113 (F113 N)
theorem T113_ok (N : Nat) : FOK Tryz.prog 113 (T113 N) :=
  (fn_ok2 ownT mix (tab113_ok N) Tryz.func113 s113 w113 [] (cuts := []) trivial (fun _ => by kernel_rfl) (by kernel_rfl) (F113 N) (fun x => by kernel_rfl))
@[reducible] def s76 : SP := ⟨[.str, .int .i64], []⟩
noncomputable def tab76 (N : Nat) : Tabs := [(35, T35 N), (112, T112 N), (77, T77 N), (78, T78 N), (79, T79 N), (82, T82 N), (113, T113 N)]
theorem tab76_ok (N : Nat) : TabOK Tryz.prog (tab76 N) := ⟨T35_ok N, T112_ok N, T77_ok N, T78_ok N, T79_ok N, T82_ok N, T113_ok N, trivial⟩
@[reducible] def w76 : List SP := [⟨[.tup [.str, .int .i64, .int .i64]], []⟩]
noncomputable def F76 (N : Nat) (x : ByteArray × Int) : Option (ByteArray × Int × Int) := fnR (mkE Tryz.prog ownT (tab76 N) []) Tryz.f76 s76 w76 x
noncomputable def T76 (N : Nat) : Pk → Tr Pk := tellS s76 w76 (F76 N)
theorem T76_ok (N : Nat) : FOK Tryz.prog 76 (T76 N) :=
  (fn_ok2 ownT mix (tab76_ok N) Tryz.func76 s76 w76 [] (cuts := []) trivial (fun _ => by kernel_rfl) (by kernel_rfl) (F76 N) (fun x => rfl))
@[reducible] def s43 : SP := ⟨[.radr y7 [.i 0 3]], []⟩
noncomputable def tab43 (N : Nat) : Tabs := []
theorem tab43_ok (N : Nat) : TabOK Tryz.prog (tab43 N) := trivial
@[reducible] def w43 : List SP := [⟨[.int .i64], []⟩]
noncomputable def F43 (N : Nat) : (((Bool × (ByteArray × Unit)) × (Int × Unit))) → Option (Int)
  | x0 =>
  some x0.2.1
noncomputable def T43 (N : Nat) : Pk → Tr Pk := tellS s43 w43 (F43 N)
theorem T43_ok (N : Nat) : FOK Tryz.prog 43 (T43 N) :=
  (fn_ok2 ownT mix (tab43_ok N) Tryz.func43 s43 w43 [] (cuts := []) trivial (fun _ => by kernel_rfl) (by kernel_rfl) (F43 N) (fun x => by kernel_rfl))
@[reducible] def s34 : SP := ⟨[], []⟩
noncomputable def tab34 (N : Nat) : Tabs := [(37, T37 N), (42, T42 N), (39, T39 N), (76, T76 N), (35, T35 N), (43, T43 N)]
theorem tab34_ok (N : Nat) : TabOK Tryz.prog (tab34 N) := ⟨T37_ok N, T42_ok N, T39_ok N, T76_ok N, T35_ok N, T43_ok N, trivial⟩
@[reducible] def w34 : List SP := [⟨[.bool], []⟩]
noncomputable def F34 (N : Nat) : (Unit) → Option (Bool)
  | () =>
  Option.bind (F37 N (ByteArray.mk #[(97 : UInt8), (98 : UInt8), (99 : UInt8)], false, ByteArray.mk #[])) fun y0 =>
  Option.bind (F42 N (y0.1, (9 : Int), false, ByteArray.mk #[], (0 : Int))) fun y1 =>
  Option.bind (F37 N (ByteArray.mk #[(97 : UInt8), (98 : UInt8), (99 : UInt8), (97 : UInt8), (98 : UInt8), (99 : UInt8)], y0.2.1, y0.2.2)) fun y2 =>
  Option.bind (F42 N (y2.1, (9 : Int), y1.2.2.1, y1.2.2.2.1, y1.2.2.2.2)) fun y3 =>
  Option.bind (F39 N (ByteArray.mk #[(97 : UInt8), (98 : UInt8), (99 : UInt8)])) fun y4 =>
  iteP (decide ((↑(ByteArray.size y4 + 1) : Int) > (9223372036854775807 : Int))) (
  none) (
  Option.bind (F76 N (y4 ++ ByteArray.mk #[(120 : UInt8)], (9 : Int))) fun y5 =>
  Option.bind (F35 N (ByteArray.mk #[(120 : UInt8), (156 : UInt8)])) fun y6 =>
  iteP (y6 == 0) (
  Option.bind (F35 N (ByteArray.mk #[(120 : UInt8), (157 : UInt8)])) fun y7 =>
  iteP (y7 == 100) (
  iteP (ByteArray.toList y1.1 == [(97 : UInt8), (98 : UInt8), (99 : UInt8)]) (
  iteP (y1.2.1 == 0) (
  iteP (ByteArray.toList y3.1 == [(97 : UInt8), (98 : UInt8), (99 : UInt8), (97 : UInt8), (98 : UInt8), (99 : UInt8)]) (
  iteP (y3.2.1 == 0) (
  iteP (ByteArray.toList y5.1 == [(97 : UInt8), (98 : UInt8), (99 : UInt8)]) (
  iteP (decide (y5.2.1 > 6)) (
  iteP (y5.2.2 == 0) (
  Option.bind (F43 N ((y3.2.2.1, y3.2.2.2.1, ()), y3.2.2.2.2, ())) fun y8 =>
  some (y8 == 0)) (
  some (false))) (
  some (false))) (
  some (false))) (
  some (false))) (
  some (false))) (
  some (false))) (
  some (false))) (
  some (false))) (
  some (false)))
noncomputable def T34 (N : Nat) : Pk → Tr Pk := tellS s34 w34 (F34 N)
theorem T34_ok (N : Nat) : FOK Tryz.prog 34 (T34 N) :=
  (fn_ok2 ownT mix (tab34_ok N) Tryz.func34 s34 w34 [] (cuts := []) trivial (fun _ => by kernel_rfl) (by kernel_rfl) (F34 N) (fun x => by kernel_rfl))
@[reducible] def s36 : SP := ⟨[.str], []⟩
noncomputable def tab36 (N : Nat) : Tabs := []
theorem tab36_ok (N : Nat) : TabOK Tryz.prog (tab36 N) := trivial
@[reducible] def w36 : List SP := [⟨[.int .i64], []⟩]
noncomputable def F36 (N : Nat) : (ByteArray) → Option (Int)
  | x0 =>
  iteP (decide ((↑(ByteArray.size x0) : Int) < (2 : Int))) (
  some ((2 : Int))) (
  Option.bind (x0[(0 : Nat)]?) fun y0 =>
  Option.bind (x0[(1 : Nat)]?) fun y1 =>
  iteP (Int.tmod (IntKind.wrap .i64 (↑(UInt8.toNat y0) : Int)) (16 : Int) != (8 : Int)) (
  some ((100 : Int))) (
  iteP (decide (IntKind.wrap .i64 (Int.tdiv (IntKind.wrap .i64 (↑(UInt8.toNat y0) : Int)) (16 : Int)) > 7)) (
  some ((100 : Int))) (
  iteP (Int.tmod (IntKind.wrap .i64 (Int.tdiv (IntKind.wrap .i64 (↑(UInt8.toNat y1) : Int)) (32 : Int))) (2 : Int) == (1 : Int)) (
  some ((100 : Int))) (
  iteP (Int.tmod (IntKind.wrap .i64 (IntKind.wrap .i64 (IntKind.wrap .i64 (↑(UInt8.toNat y0) : Int) * (256 : Int)) + IntKind.wrap .i64 (↑(UInt8.toNat y1) : Int))) (31 : Int) != (0 : Int)) (
  some ((100 : Int))) (
  some ((0 : Int)))))))
noncomputable def T36 (N : Nat) : Pk → Tr Pk := tellS s36 w36 (F36 N)
theorem T36_ok (N : Nat) : FOK Tryz.prog 36 (T36 N) :=
  (fn_ok2 ownT mix (tab36_ok N) Tryz.func36 s36 w36 [] (cuts := []) trivial (fun _ => by kernel_rfl) (by kernel_rfl) (F36 N) (fun x => by kernel_rfl))
@[reducible] def s38 : SP := ⟨[.adr 0 [], .str, .int .i64], [.var (.agg [.str, .bool, .int .i64])]⟩
noncomputable def tab38 (N : Nat) : Tabs := [(36, T36 N), (33, T33 N)]
theorem tab38_ok (N : Nat) : TabOK Tryz.prog (tab38 N) := ⟨T36_ok N, T33_ok N, trivial⟩
@[reducible] def w38 : List SP := [⟨[.tup [.str, .int .i64]], [.var (.agg [.str, .bool, .int .i64])]⟩]
noncomputable def F38 (N : Nat) : (ByteArray × Int × ByteArray × Bool × Int) → Option (ByteArray × Int × ByteArray × Bool × Int)
  | (x0, x1, x2, x3, x4) =>
  iteP (x4 != 0) (
  some ((ByteArray.mk #[], x4, x2, x3, x4))) (
  iteP (!x3) (
  Option.bind (F36 N x0) fun y0 =>
  iteP (y0 != 0) (
  some ((ByteArray.mk #[], y0, x2, x3, y0))) (
  iteP (decide ((0 : Int) ≤ (2 : Int) ∧ (2 : Int) ≤ (↑(ByteArray.size x0) : Int))) (
  Option.bind (F33 N (x2, ByteArray.extract x0 (2 : Nat) (ByteArray.size x0), x1)) fun y1 =>
  iteP (decide ((↑(ByteArray.size x2 + ByteArray.size y1.1) : Int) > (9223372036854775807 : Int))) (
  none) (
  some ((y1.1, y1.2, x2 ++ y1.1, true, y1.2)))) (
  none))) (
  Option.bind (F33 N (x2, x0, x1)) fun y2 =>
  iteP (decide ((↑(ByteArray.size x2 + ByteArray.size y2.1) : Int) > (9223372036854775807 : Int))) (
  none) (
  some ((y2.1, y2.2, x2 ++ y2.1, true, y2.2)))))
noncomputable def T38 (N : Nat) : Pk → Tr Pk := tellS s38 w38 (F38 N)
theorem T38_ok (N : Nat) : FOK Tryz.prog 38 (T38 N) :=
  (fn_ok2 ownT mix (tab38_ok N) Tryz.func38 s38 w38 [0] (cuts := []) trivial (fun _ => by kernel_rfl) (by kernel_rfl) (F38 N) (fun x => by kernel_rfl))
@[reducible] def s83 : SP := ⟨[.str], []⟩
noncomputable def tab83 (N : Nat) : Tabs := []
theorem tab83_ok (N : Nat) : TabOK Tryz.prog (tab83 N) := trivial
@[reducible] def L83_58 : LD := ⟨58, [3, 4, 0], [(.ret, [2]), (.exit 0, [3])], ⟨[.int .i64, .int .i64, .str], []⟩, [(.exit 0, ⟨[.int .i64], []⟩)]⟩
abbrev P83_58 : Type := Int × Int × ByteArray
abbrev R83_58 : Type := Int
noncomputable def B83_58 (N : Nat) (f : P83_58 → Option R83_58) : P83_58 → Option R83_58
  | (x0, x1, x2) =>
  iteP (decide (x1 < (↑(ByteArray.size x2) : Int))) (
  iteP (decide ((0 : Int) ≤ x1)) (
  Option.bind (x2[Int.toNat x1]?) fun y0 =>
  Option.bind (f (IntKind.wrap .i64 (IntKind.wrap .i64 (x0 * 256) + IntKind.wrap .i64 (↑(UInt8.toNat y0) : Int)), IntKind.wrap .i64 (x1 + 1), x2)) fun r => some r) (
  none)) (
  some (x0))
noncomputable def F83_58 (N : Nat) : Nat → P83_58 → Option R83_58
  | 0, _ => none
  | k + 1, x => B83_58 N (F83_58 N k) x
theorem C83_58_ok (N : Nat) (k : Nat) : CutAt Tryz.prog Tryz.f83 [] 58 (L83_58.cut (F83_58 N k)) :=
  L83_58.loopT ownT mix (tab83_ok N) Tryz.f83 [] (cuts := []) trivial (by decide +kernel) (by kernel_rfl) (B83_58 N) (F83_58 N) (fun _ => rfl) (fun _ _ => rfl) (fun f x => by kernel_rfl) k
@[reducible] def w83 : List SP := [⟨[.int .i64], []⟩]
noncomputable def F83 (N : Nat) : (ByteArray) → Option (Int)
  | x0 =>
  Option.bind (F83_58 N N ((0 : Int), (0 : Int), x0)) fun y0 =>
  some (y0)
noncomputable def T83 (N : Nat) : Pk → Tr Pk := tellS s83 w83 (F83 N)
theorem T83_ok (N : Nat) : FOK Tryz.prog 83 (T83 N) :=
  (fn_ok2 ownT mix (tab83_ok N) Tryz.func83 s83 w83 [] (cuts := [(58, L83_58.cut (F83_58 N N))]) ⟨C83_58_ok N N, trivial⟩ (fun _ => by kernel_rfl) (by kernel_rfl) (F83 N) (fun x => by kernel_rfl))
@[reducible] def s118 : SP := ⟨[.int .i64], []⟩
noncomputable def tab118 (N : Nat) : Tabs := []
theorem tab118_ok (N : Nat) : TabOK Tryz.prog (tab118 N) := trivial
@[reducible] def w118 : List SP := [⟨[.int .i64], []⟩]
noncomputable def F118 (N : Nat) : (Int) → Option (Int)
  | x0 =>
  some (IntKind.wrap .i64 (↑(BitVec.toNat (BitVec.ofInt (64 : Nat) x0 &&& BitVec.ofInt (64 : Nat) (65535 : Int))) : Int))
noncomputable def T118 (N : Nat) : Pk → Tr Pk := tellS s118 w118 (F118 N)
theorem T118_ok (N : Nat) : FOK Tryz.prog 118 (T118 N) :=
  (fn_ok2 ownT mix (tab118_ok N) Tryz.func118 s118 w118 [] (cuts := []) trivial (fun _ => by kernel_rfl) (by kernel_rfl) (F118 N) (fun x => by kernel_rfl))
@[reducible] def s119 : SP := ⟨[.int .i64], []⟩
noncomputable def tab119 (N : Nat) : Tabs := []
theorem tab119_ok (N : Nat) : TabOK Tryz.prog (tab119 N) := trivial
@[reducible] def w119 : List SP := [⟨[.int .i64], []⟩]
noncomputable def F119 (N : Nat) : (Int) → Option (Int)
  | x0 =>
  some (IntKind.wrap .i64 (↑(BitVec.toNat (BitVec.ofInt (64 : Nat) (Int.fdiv x0 (65536 : Int)) &&& BitVec.ofInt (64 : Nat) (65535 : Int))) : Int))
noncomputable def T119 (N : Nat) : Pk → Tr Pk := tellS s119 w119 (F119 N)
theorem T119_ok (N : Nat) : FOK Tryz.prog 119 (T119 N) :=
  (fn_ok2 ownT mix (tab119_ok N) Tryz.func119 s119 w119 [] (cuts := []) trivial (fun _ => by kernel_rfl) (by kernel_rfl) (F119 N) (fun x => by kernel_rfl))
@[reducible] def s84 : SP := ⟨[.int .i64, .str], []⟩
noncomputable def tab84 (N : Nat) : Tabs := [(118, T118 N), (119, T119 N)]
theorem tab84_ok (N : Nat) : TabOK Tryz.prog (tab84 N) := ⟨T118_ok N, T119_ok N, trivial⟩
@[reducible] def L84_122 : LD := ⟨122, [5, 6, 7, 1], [(.ret, [4]), (.exit 0, [6, 5])], ⟨[.int .i64, .int .i64, .int .i64, .str], []⟩, [(.exit 0, ⟨[.int .i64, .int .i64], []⟩)]⟩
abbrev P84_122 : Type := Int × Int × Int × ByteArray
abbrev R84_122 : Type := Int × Int
noncomputable def B84_122 (N : Nat) (f : P84_122 → Option R84_122) : P84_122 → Option R84_122
  | (x0, x1, x2, x3) =>
  iteP (decide (x2 < (↑(ByteArray.size x3) : Int))) (
  iteP (decide ((0 : Int) ≤ x2)) (
  Option.bind (x3[Int.toNat x2]?) fun y0 =>
  Option.bind (f (Int.tmod (IntKind.wrap .i64 (x0 + IntKind.wrap .i64 (↑(UInt8.toNat y0) : Int))) (65521 : Int), Int.tmod (IntKind.wrap .i64 (x1 + Int.tmod (IntKind.wrap .i64 (x0 + IntKind.wrap .i64 (↑(UInt8.toNat y0) : Int))) (65521 : Int))) (65521 : Int), IntKind.wrap .i64 (x2 + 1), x3)) fun r => some r) (
  none)) (
  some ((x1, x0)))
noncomputable def F84_122 (N : Nat) : Nat → P84_122 → Option R84_122
  | 0, _ => none
  | k + 1, x => B84_122 N (F84_122 N k) x
theorem C84_122_ok (N : Nat) (k : Nat) : CutAt Tryz.prog Tryz.f84 [] 122 (L84_122.cut (F84_122 N k)) :=
  L84_122.loopT ownT mix (tab84_ok N) Tryz.f84 [] (cuts := []) trivial (by decide +kernel) (by kernel_rfl) (B84_122 N) (F84_122 N) (fun _ => rfl) (fun _ _ => rfl) (fun f x => by kernel_rfl) k
@[reducible] def w84 : List SP := [⟨[.int .i64], []⟩]
noncomputable def F84 (N : Nat) : (Int × ByteArray) → Option (Int)
  | (x0, x1) =>
  Option.bind (F118 N x0) fun y0 =>
  Option.bind (F119 N x0) fun y1 =>
  Option.bind (F84_122 N N (y0, y1, (0 : Int), x1)) fun y2 =>
  some (IntKind.wrap .i64 (IntKind.wrap .i64 (y2.1 * 65536) + y2.2))
noncomputable def T84 (N : Nat) : Pk → Tr Pk := tellS s84 w84 (F84 N)
theorem T84_ok (N : Nat) : FOK Tryz.prog 84 (T84 N) :=
  (fn_ok2 ownT mix (tab84_ok N) Tryz.func84 s84 w84 [] (cuts := [(122, L84_122.cut (F84_122 N N))]) ⟨C84_122_ok N N, trivial⟩ (fun _ => by kernel_rfl) (by kernel_rfl) (F84 N) (fun x => by kernel_rfl))
@[reducible] def s40 : SP := ⟨[.str, .int .i64], []⟩
noncomputable def tab40 (N : Nat) : Tabs := [(36, T36 N), (32, T32 N), (83, T83 N), (84, T84 N)]
theorem tab40_ok (N : Nat) : TabOK Tryz.prog (tab40 N) := ⟨T36_ok N, T32_ok N, T83_ok N, T84_ok N, trivial⟩
@[reducible] def w40 : List SP := [⟨[.tup [.str, .int .i64, .int .i64]], []⟩]
noncomputable def F40 (N : Nat) : (ByteArray × Int) → Option (ByteArray × Int × Int)
  | (x0, x1) =>
  Option.bind (F36 N x0) fun y0 =>
  iteP (y0 != 0) (
  some ((ByteArray.mk #[], (0 : Int), y0))) (
  iteP (decide ((0 : Int) ≤ (2 : Int) ∧ (2 : Int) ≤ (↑(ByteArray.size x0) : Int))) (
  Option.bind (F32 N (ByteArray.mk #[], ByteArray.extract x0 (2 : Nat) (ByteArray.size x0), x1)) fun y1 =>
  iteP (y1.2.2 != 0) (
  some ((ByteArray.mk #[], (0 : Int), y1.2.2))) (
  iteP (decide ((0 : Int) ≤ IntKind.wrap .i64 ((2 : Int) + y1.2.1) ∧ IntKind.wrap .i64 ((2 : Int) + y1.2.1) ≤ (↑(ByteArray.size x0) : Int))) (
  iteP (decide ((↑(ByteArray.size (ByteArray.extract x0 (Int.toNat (IntKind.wrap .i64 ((2 : Int) + y1.2.1))) (ByteArray.size x0))) : Int) < (4 : Int))) (
  some ((ByteArray.mk #[], (0 : Int), (2 : Int)))) (
  iteP (decide ((0 : Int) ≤ (4 : Int) ∧ (4 : Int) ≤ (↑(ByteArray.size (ByteArray.extract x0 (Int.toNat (IntKind.wrap .i64 ((2 : Int) + y1.2.1))) (ByteArray.size x0))) : Int))) (
  Option.bind (F83 N (ByteArray.extract (ByteArray.extract x0 (Int.toNat (IntKind.wrap .i64 ((2 : Int) + y1.2.1))) (ByteArray.size x0)) (0 : Nat) (4 : Nat))) fun y2 =>
  Option.bind (F84 N ((1 : Int), y1.1)) fun y3 =>
  iteP (y2 != y3) (
  some ((ByteArray.mk #[], (0 : Int), (101 : Int)))) (
  some ((y1.1, IntKind.wrap .i64 (IntKind.wrap .i64 ((2 : Int) + y1.2.1) + 4), (0 : Int))))) (
  none))) (
  none))) (
  none))
noncomputable def T40 (N : Nat) : Pk → Tr Pk := tellS s40 w40 (F40 N)
theorem T40_ok (N : Nat) : FOK Tryz.prog 40 (T40 N) :=
  (fn_ok2 ownT mix (tab40_ok N) Tryz.func40 s40 w40 [] (cuts := []) trivial (fun _ => by kernel_rfl) (by kernel_rfl) (F40 N) (fun x => by kernel_rfl))
@[reducible] def s10 : SP := ⟨[.ro (.str), .str], []⟩
noncomputable def tab10 (N : Nat) : Tabs := [(34, T34 N), (37, T37 N), (38, T38 N), (39, T39 N), (40, T40 N)]
theorem tab10_ok (N : Nat) : TabOK Tryz.prog (tab10 N) := ⟨T34_ok N, T37_ok N, T38_ok N, T39_ok N, T40_ok N, trivial⟩
@[reducible] def L10_2042 : LD := ⟨2042, [6, 9, 1, 0, 8, 7, 5], [(.ret, [4]), (.exit 0, [1, 5, 6])], ⟨[.str, .int .i64, .str, .ro (.str), .adr 0 [], .adr 1 [], .bool], [.var (.agg [.str, .bool, .int .i64]), .var (.agg [.agg [.bool, .str]])]⟩, [(.ret, ⟨[.bool], []⟩), (.exit 0, ⟨[.str, .bool, .str], []⟩)]⟩
abbrev P10_2042 : Type := ByteArray × Int × ByteArray × (List ByteArray) × Bool × ByteArray × Bool × Int × Bool × ByteArray
abbrev R10_2042 : Type := ((Bool) ⊕ (ByteArray × Bool × ByteArray))
noncomputable def B10_2042 (N : Nat) (f : P10_2042 → Option R10_2042) : P10_2042 → Option R10_2042
  | (x0, x1, x2, x3, x4, x5, x6, x7, x8, x9) =>
  iteP (decide (x1 < (↑(List.length x3) : Int))) (
  iteP (within x1 (List.length x3)) (
  Option.bind (x3[Int.toNat x1]?) fun y0 =>
  iteP (decide ((↑(ByteArray.size y0) : Int) > (800 : Int))) (
  some (.inl (x4))) (
  iteP (within x1 (List.length x3)) (
  Option.bind (x3[Int.toNat x1]?) fun y1 =>
  Option.bind (F37 N (y1, x8, x9)) fun y2 =>
  iteP (within x1 (List.length x3)) (
  Option.bind (x3[Int.toNat x1]?) fun y3 =>
  Option.bind (F38 N (y2.1, (↑(ByteArray.size y3) : Int), x5, x6, x7)) fun y4 =>
  iteP (within x1 (List.length x3)) (
  Option.bind (x3[Int.toNat x1]?) fun y5 =>
  iteP (!ByteArray.toList y4.1 == ByteArray.toList y5) (
  some (.inl (false))) (
  iteP (y4.2.1 != 0) (
  some (.inl (false))) (
  iteP (within x1 (List.length x3)) (
  Option.bind (x3[Int.toNat x1]?) fun y6 =>
  iteP (within x1 (List.length x3)) (
  Option.bind (x3[Int.toNat x1]?) fun y7 =>
  iteP (decide ((↑(ByteArray.size y2.1) : Int) > IntKind.wrap .i64 (IntKind.wrap .i64 ((↑(ByteArray.size y6) : Int) + IntKind.wrap .i64 (Int.tdiv (↑(ByteArray.size y7) : Int) (1000 : Int))) + 22))) (
  some (.inl (false))) (
  iteP (within x1 (List.length x3)) (
  Option.bind (x3[Int.toNat x1]?) fun y8 =>
  iteP (decide ((↑(ByteArray.size x0 + ByteArray.size y8) : Int) > (9223372036854775807 : Int))) (
  none) (
  Option.bind (f (x0 ++ y8, IntKind.wrap .i64 (x1 + 1), x2, x3, x4, y4.2.2.1, y4.2.2.2.1, y4.2.2.2.2, y2.2.1, y2.2.2)) fun r => match r with | .inl y => some (.inl y) | .inr y => some (.inr y))) (
  none))) (
  none)) (
  none)))) (
  none)) (
  none)) (
  none))) (
  none)) (
  some (.inr ((x2, x4, x0))))
noncomputable def F10_2042 (N : Nat) : Nat → P10_2042 → Option R10_2042
  | 0, _ => none
  | k + 1, x => B10_2042 N (F10_2042 N k) x
theorem C10_2042_ok (N : Nat) (k : Nat) : CutAt Tryz.prog Tryz.f10 [] 2042 (L10_2042.cut (F10_2042 N k)) :=
  L10_2042.loopT ownT mix (tab10_ok N) Tryz.f10 [] (cuts := []) trivial (by decide +kernel) (by kernel_rfl) (B10_2042 N) (F10_2042 N) (fun _ => rfl) (fun _ _ => rfl) (fun f x => by kernel_rfl) k
@[reducible] def w10 : List SP := [⟨[.bool], []⟩]
noncomputable def F10 (N : Nat) : ((List ByteArray) × ByteArray) → Option (Bool)
  | (x0, x1) =>
  Option.bind (F34 N ()) fun y0 =>
  iteP (!y0) (
  some (false)) (
  iteP (decide ((↑(List.length x0) : Int) > (6 : Int))) (
  some (y0)) (
  iteP (decide ((↑(ByteArray.size x1) : Int) > (250 : Int))) (
  some (y0)) (
  Option.bind (F10_2042 N N (ByteArray.mk #[], (0 : Int), x1, x0, y0, ByteArray.mk #[], false, (0 : Int), false, ByteArray.mk #[])) fun y1 =>
  match y1 with
  | .inl y2 =>
  some (y2)
  | .inr y2 =>
  Option.bind (F39 N y2.2.2) fun y3 =>
  iteP (decide ((↑(ByteArray.size y3 + ByteArray.size y2.1) : Int) > (9223372036854775807 : Int))) (
  none) (
  Option.bind (F40 N (y3 ++ y2.1, (↑(ByteArray.size y2.2.2) : Int))) fun y4 =>
  iteP y2.2.1 (
  iteP (ByteArray.toList y4.1 == ByteArray.toList y2.2.2) (
  iteP (y4.2.1 == (↑(ByteArray.size y3) : Int)) (
  iteP (y4.2.2 == 0) (
  some (decide ((↑(ByteArray.size y3) : Int) ≤ IntKind.wrap .i64 (IntKind.wrap .i64 ((↑(ByteArray.size y2.2.2) : Int) + IntKind.wrap .i64 (Int.tdiv (↑(ByteArray.size y2.2.2) : Int) (1000 : Int))) + 26)))) (
  some (false))) (
  some (false))) (
  some (false))) (
  some (false))))))
noncomputable def T10 (N : Nat) : Pk → Tr Pk := tellS s10 w10 (F10 N)
theorem T10_ok (N : Nat) : FOK Tryz.prog 10 (T10 N) :=
  (fn_ok2 ownT mix (tab10_ok N) Tryz.func10 s10 w10 [] (cuts := [(2042, L10_2042.cut (F10_2042 N N))]) ⟨C10_2042_ok N N, trivial⟩ (fun _ => by kernel_rfl) (by kernel_rfl) (F10 N) (fun x => by kernel_rfl))
end Go.Proofs.YteddgkplkjldcaaGreat.Am
