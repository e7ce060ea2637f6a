/- The seat's Go functions come to the Lean functions written here, wherever these give an answer (part C). -/
import Derived.Test.YteddgkplkjldcaaGreatSB
set_option linter.unusedSimpArgs false
set_option linter.unusedVariables false
set_option maxRecDepth 100000
namespace Go.Proofs.YteddgkplkjldcaaGreat.Am
open Go.Am
@[reducible] def s120 : SP := ⟨[.adr 0 [], .int .i64], [.var (.agg [.str, .int .i64, .int .i64])]⟩
noncomputable def SK (N : Nat) : au := [(44, XG N), (146, Ub N)]
theorem xl (N : Nat) : ai Tryz.prog (SK N) := ⟨E4 N, Ho N, trivial⟩
@[reducible] def vA : LD := ⟨250, [5, 15, 14, 1, 0], [(.ret, [4]), (.exit 0, [0, 1, 5])], ⟨[.int .i64, .int .i64, .int .i64, .int .i64, .adr 0 []], [.var (.agg [.str, .int .i64, .int .i64])]⟩, [(.exit 0, ⟨[.adr 0 [], .int .i64, .int .i64], [.var (.agg [.str, .int .i64, .int .i64])]⟩)]⟩
abbrev u9 : Type := Int × Int × Int × Int × ByteArray × Int × Int
abbrev uK : Type := Int × Int × ByteArray × Int × Int
noncomputable def pw (N : Nat) (f : u9 → Option uK) : u9 → Option uK
  | (x0, x1, x2, x3, x4, x5, x6) =>
  ac (decide (x1 < x2)) (
  ac (decide ((0 : Int) ≤ IntKind.wrap .i64 (Int.tdiv (IntKind.wrap .i64 (x5 + x1)) (8 : Int)))) (
  Option.bind (x4[Int.toNat (IntKind.wrap .i64 (Int.tdiv (IntKind.wrap .i64 (x5 + x1)) (8 : Int)))]?) fun y0 =>
  ac (decide (Int.tmod (IntKind.wrap .i64 (x5 + x1)) (8 : Int) < (0 : Int))) (
  none) (
  ac (decide (x1 < 0)) (
  none) (
  Option.bind (f (IntKind.wrap .i64 (↑(BitVec.toNat (BitVec.ofInt (64 : Nat) x0 ||| BitVec.ofInt (64 : Nat) (IntKind.wrap .i64 (IntKind.wrap .i64 (↑(BitVec.toNat (BitVec.ofInt (64 : Nat) (Int.fdiv (IntKind.wrap .i64 (↑(UInt8.toNat y0) : Int)) ((2 : Int) ^ min (Int.toNat (Int.tmod (IntKind.wrap .i64 (x5 + x1)) (8 : Int))) (64 : Nat))) &&& BitVec.ofInt (64 : Nat) (1 : Int))) : Int) * (2 : Int) ^ min (Int.toNat x1) (64 : Nat))))) : Int), IntKind.wrap .i64 (x1 + 1), x2, x3, x4, x5, x6)) fun r => some r))) (
  none)) (
  some ((x3, x0, x4, x5, x6)))
noncomputable def fw (N : Nat) : Nat → u9 → Option uK
  | 0, _ => none
  | k + 1, x => pw N (fw N k) x
theorem DO (N : Nat) (k : Nat) : ap Tryz.prog Tryz.f120 [0] 250 (vA.cut (fw N k)) :=
  vA.loopT ah aB (xl N) Tryz.f120 [0] (cuts := []) trivial (by decide +kernel) (by kernel_rfl) (pw N) (fw N) (fun _ => rfl) (fun _ _ => rfl) (fun f x => by kernel_rfl) k
@[reducible] def w120 : List SP := [⟨[.int .i64], [.var (.agg [.str, .int .i64, .int .i64])]⟩]
noncomputable def fT (N : Nat) : (Int × ByteArray × Int × Int) → Option (Int × ByteArray × Int × Int)
  | (x0, x1, x2, x3) =>
  Option.bind (UT N x0) fun y0 =>
  Option.bind (mH N (y0, x1, x2, x3)) fun y1 =>
  ac (!y1.1) (
  some (((0 : Int), y1.2.1, y1.2.2.1, y1.2.2.2))) (
  Option.bind (fw N N ((0 : Int), (0 : Int), y0, y0, y1.2.1, y1.2.2.1, y1.2.2.2)) fun y2 =>
  some ((y2.2.1, y2.2.2.1, IntKind.wrap .i64 (y2.2.2.2.1 + y2.1), y2.2.2.2.2)))
noncomputable def wP (N : Nat) : Pk → Tr Pk := aj s120 w120 (fT N)
theorem fL (N : Nat) : aO Tryz.prog 120 (wP N) :=
  (ag ah aB (xl N) Tryz.func120 s120 w120 [0] (cuts := [(250, vA.cut (fw N N))]) ⟨DO N N, trivial⟩ (fun _ => by kernel_rfl) (by kernel_rfl) (fT N) (fun x => by kernel_rfl))
@[reducible] def s121 : SP := ⟨[.radr y6 [.i 0 3]], []⟩
noncomputable def SJ (N : Nat) : au := []
theorem Iv (N : Nat) : ai Tryz.prog (SJ N) := trivial
@[reducible] def w121 : List SP := [⟨[.int .i64], []⟩]
noncomputable def d9 (N : Nat) : ((ByteArray × (Int × (Int × Unit)))) → Option (Int)
  | x0 =>
  some x0.2.2.1
noncomputable def zO (N : Nat) : Pk → Tr Pk := aj s121 w121 (d9 N)
theorem gY (N : Nat) : aO Tryz.prog 121 (zO N) :=
  (ag ah aB (Iv N) Tryz.func121 s121 w121 [] (cuts := []) trivial (fun _ => by kernel_rfl) (by kernel_rfl) (d9 N) (fun x => by kernel_rfl))
@[reducible] def s162 : SP := ⟨[.radr y6 [.i 0 3]], []⟩
noncomputable def Sb (N : Nat) : au := []
theorem H2 (N : Nat) : ai Tryz.prog (Sb N) := trivial
@[reducible] def w162 : List SP := [⟨[.int .i64], []⟩]
noncomputable def Gc (N : Nat) : ((ByteArray × (Int × (Int × Unit)))) → Option (Int)
  | x0 =>
  some (Int.tmod (IntKind.wrap .i64 ((8 : Int) - Int.tmod x0.2.1 (8 : Int))) (8 : Int))
noncomputable def TY (N : Nat) : Pk → Tr Pk := aj s162 w162 (Gc N)
theorem Hl (N : Nat) : aO Tryz.prog 162 (TY N) :=
  (ag ah aB (H2 N) Tryz.func162 s162 w162 [] (cuts := []) trivial (fun _ => by kernel_rfl) (by kernel_rfl) (Gc N) (fun x => by kernel_rfl))
@[reducible] def s147 : SP := ⟨[.adr 0 []], [.var (.agg [.str, .int .i64, .int .i64])]⟩
noncomputable def Sp (N : Nat) : au := [(162, TY N), (120, wP N)]
theorem Ia (N : Nat) : ai Tryz.prog (Sp N) := ⟨Hl N, fL N, trivial⟩
@[reducible] def w147 : List SP := [⟨[.int .i64], [.var (.agg [.str, .int .i64, .int .i64])]⟩]
noncomputable def Oj (N : Nat) : (ByteArray × Int × Int) → Option (Int × ByteArray × Int × Int)
  | (x0, x1, x2) =>
  Option.bind (Gc N (x0, x1, x2, ())) fun y0 =>
  Option.bind (fT N (y0, x0, x1, x2)) fun y1 =>
  some ((y1.1, y1.2.1, y1.2.2.1, y1.2.2.2))
noncomputable def WU (N : Nat) : Pk → Tr Pk := aj s147 w147 (Oj N)
theorem Qe (N : Nat) : aO Tryz.prog 147 (WU N) :=
  (ag ah aB (Ia N) Tryz.func147 s147 w147 [0] (cuts := []) trivial (fun _ => by kernel_rfl) (by kernel_rfl) (Oj N) (fun x => by kernel_rfl))
@[reducible] def s148 : SP := ⟨[.adr 0 [], .int .i64], [.var (.agg [.str, .int .i64, .int .i64])]⟩
noncomputable def Sn (N : Nat) : au := [(162, TY N), (146, Ub N), (86, XF N)]
theorem H9 (N : Nat) : ai Tryz.prog (Sn N) := ⟨Hl N, Ho N, E3 N, trivial⟩
@[reducible] def w148 : List SP := [⟨[.str], [.var (.agg [.str, .int .i64, .int .i64])]⟩]
noncomputable def Gg (N : Nat) : (Int × ByteArray × Int × Int) → Option (ByteArray × ByteArray × Int × Int)
  | (x0, x1, x2, x3) =>
  ac (decide ((if (0 : Int) > x0 then (0 : Int) else x0) > (↑(ByteArray.size x1) : Int))) (
  Option.bind (OH N (x1, x2, x3, ())) fun y0 =>
  Option.bind (mH N (IntKind.wrap .i64 (y0 + 1), x1, x2, x3)) fun y1 =>
  some ((ByteArray.mk #[], y1.2.1, y1.2.2.1, y1.2.2.2))) (
  Option.bind (Gc N (x1, x2, x3, ())) fun y2 =>
  Option.bind (mH N (IntKind.wrap .i64 (y2 + IntKind.wrap .i64 ((8 : Int) * if (0 : Int) > x0 then (0 : Int) else x0)), x1, x2, x3)) fun y3 =>
  ac (!y3.1) (
  Option.bind (OH N (y3.2.1, y3.2.2.1, y3.2.2.2, ())) fun y4 =>
  Option.bind (mH N (IntKind.wrap .i64 (y4 + 1), y3.2.1, y3.2.2.1, y3.2.2.2)) fun y5 =>
  some ((ByteArray.mk #[], y5.2.1, y5.2.2.1, y5.2.2.2))) (
  Option.bind (Gc N (y3.2.1, y3.2.2.1, y3.2.2.2, ())) fun y6 =>
  ac (decide ((0 : Int) ≤ IntKind.wrap .i64 (IntKind.wrap .i64 (Int.tdiv (IntKind.wrap .i64 (y3.2.2.1 + y6)) (8 : Int)) + if (0 : Int) > x0 then (0 : Int) else x0) ∧ IntKind.wrap .i64 (IntKind.wrap .i64 (Int.tdiv (IntKind.wrap .i64 (y3.2.2.1 + y6)) (8 : Int)) + if (0 : Int) > x0 then (0 : Int) else x0) ≤ (↑(ByteArray.size y3.2.1) : Int))) (
  ac (decide ((0 : Int) ≤ IntKind.wrap .i64 (Int.tdiv (IntKind.wrap .i64 (y3.2.2.1 + y6)) (8 : Int)) ∧ IntKind.wrap .i64 (Int.tdiv (IntKind.wrap .i64 (y3.2.2.1 + y6)) (8 : Int)) ≤ (↑(Int.toNat (IntKind.wrap .i64 (IntKind.wrap .i64 (Int.tdiv (IntKind.wrap .i64 (y3.2.2.1 + y6)) (8 : Int)) + if (0 : Int) > x0 then (0 : Int) else x0))) : Int))) (
  some ((ByteArray.extract y3.2.1 (Int.toNat (IntKind.wrap .i64 (Int.tdiv (IntKind.wrap .i64 (y3.2.2.1 + y6)) (8 : Int)))) (Int.toNat (IntKind.wrap .i64 (IntKind.wrap .i64 (Int.tdiv (IntKind.wrap .i64 (y3.2.2.1 + y6)) (8 : Int)) + if (0 : Int) > x0 then (0 : Int) else x0))), y3.2.1, IntKind.wrap .i64 ((8 : Int) * IntKind.wrap .i64 (IntKind.wrap .i64 (Int.tdiv (IntKind.wrap .i64 (y3.2.2.1 + y6)) (8 : Int)) + if (0 : Int) > x0 then (0 : Int) else x0)), y3.2.2.2))) (
  none)) (
  none)))
noncomputable def WS (N : Nat) : Pk → Tr Pk := aj s148 w148 (Gg N)
theorem Qd (N : Nat) : aO Tryz.prog 148 (WS N) :=
  (ag ah aB (H9 N) Tryz.func148 s148 w148 [0] (cuts := []) trivial (fun _ => by kernel_rfl) (by kernel_rfl) (Gg N) (fun x => by kernel_rfl))
@[reducible] def s122 : SP := ⟨[.adr 0 [], .int .i64], [.var (.agg [.str, .int .i64, .int .i64])]⟩
noncomputable def SI (N : Nat) : au := [(147, WU N), (120, wP N), (121, zO N), (148, WS N)]
theorem Iu (N : Nat) : ai Tryz.prog (SI N) := ⟨Qe N, fL N, gY N, Qd N, trivial⟩
@[reducible] def w122 : List SP := [⟨[.tup [.str, .int .i64]], [.var (.agg [.str, .int .i64, .int .i64])]⟩]
noncomputable def Gi (N : Nat) : (Int × ByteArray × Int × Int) → Option (ByteArray × Int × ByteArray × Int × Int)
  | (x0, x1, x2, x3) =>
  Option.bind (Oj N (x1, x2, x3)) fun y0 =>
  Option.bind (fT N ((16 : Int), y0.2.1, y0.2.2.1, y0.2.2.2)) fun y1 =>
  Option.bind (fT N ((16 : Int), y1.2.1, y1.2.2.1, y1.2.2.2)) fun y2 =>
  Option.bind (d9 N (y2.2.1, y2.2.2.1, y2.2.2.2, ())) fun y3 =>
  ac (y3 != 0) (
  some ((ByteArray.mk #[], y3, y2.2.1, y2.2.2.1, y2.2.2.2))) (
  ac (IntKind.wrap .i64 (↑(BitVec.toNat (BitVec.ofInt (64 : Nat) y1.1 ^^^ BitVec.ofInt (64 : Nat) y2.1)) : Int) != (65535 : Int)) (
  some ((ByteArray.mk #[], (80 : Int), y2.2.1, y2.2.2.1, y2.2.2.2))) (
  ac (decide (y1.1 > x0)) (
  some ((ByteArray.mk #[], (4 : Int), y2.2.1, y2.2.2.1, y2.2.2.2))) (
  Option.bind (Gg N (y1.1, y2.2.1, y2.2.2.1, y2.2.2.2)) fun y4 =>
  Option.bind (d9 N (y4.2.1, y4.2.2.1, y4.2.2.2, ())) fun y5 =>
  some ((y4.1, y5, y4.2.1, y4.2.2.1, y4.2.2.2)))))
noncomputable def Xa (N : Nat) : Pk → Tr Pk := aj s122 w122 (Gi N)
theorem Qu (N : Nat) : aO Tryz.prog 122 (Xa N) :=
  (ag ah aB (Iu N) Tryz.func122 s122 w122 [0] (cuts := []) trivial (fun _ => by kernel_rfl) (by kernel_rfl) (Gi N) (fun x => by kernel_rfl))
@[reducible] def s166 : SP := ⟨[.ro (.int .i64)], []⟩
noncomputable def RX (N : Nat) : au := [(96, XZ N), (97, XE N)]
theorem pC (N : Nat) : ai Tryz.prog (RX N) := ⟨Nj N, E2 N, trivial⟩
@[reducible] def jL : LD := ⟨16018, [34, 33, 0, 32, 6, 7], [(.ret, [2, 3]), (.exit 2, [7, 0, 6]), (.exit 1, [7, 0, 6]), (.exit 0, [6])], ⟨[.int .i64, .int .i64, .ro (.int .i64), .ro (.int .i64), .adr 0 [], .int .i64], [.var (.agg [.arr (.int .i64) 16, .sl 1, .int .i64]), .row (.int .i64) 3]⟩, [(.exit 2, ⟨[.int .i64, .ro (.int .i64), .adr 0 []], [.var (.agg [.arr (.int .i64) 16, .sl 1, .int .i64]), .row (.int .i64) 3]⟩)]⟩
abbrev nG : Type := Int × Int × (List Int) × (List Int) × Int × (List Int) × Int × (List Int)
abbrev ny : Type := Int × (List Int) × (List Int) × Int × (List Int)
noncomputable def j5 (N : Nat) (f : nG → Option ny) : nG → Option ny
  | (x0, x1, x2, x3, x4, x5, x6, x7) =>
  ac (decide (x0 < x1)) (
  ac (within x0 (List.length x3)) (
  Option.bind (x3[Int.toNat x0]?) fun y0 =>
  ac (y0 == x4) (
  ac (decide ((List.length x7 + List.length [x0]) * 8 ≤ (140737488355328 : Nat) ∧ List.length x7 + List.length [x0] ≤ 140737488355328)) (
  Option.bind (f (IntKind.wrap .i64 (x0 + 1), x1, x2, x3, x4, x5, x4, x7 ++ [x0])) fun r => some r) (
  none)) (
  Option.bind (f (IntKind.wrap .i64 (x0 + 1), x1, x2, x3, x4, x5, x6, x7)) fun r => some r)) (
  none)) (
  some ((x4, x2, x5, x6, x7)))
noncomputable def cu (N : Nat) : Nat → nG → Option ny
  | 0, _ => none
  | k + 1, x => j5 N (cu N k) x
theorem mT (N : Nat) (k : Nat) : ap Tryz.prog Tryz.f166 [] 16018 (jL.cut (cu N k)) :=
  jL.loopT ah aB (pC N) Tryz.f166 [] (cuts := []) trivial (by decide +kernel) (by kernel_rfl) (j5 N) (cu N) (fun _ => rfl) (fun _ _ => rfl) (fun f x => by kernel_rfl) k
@[reducible] def vp : LD := ⟨250, [0, 6, 7], [(.ret, [2, 3]), (.exit 0, [6])], ⟨[.ro (.int .i64), .adr 0 [], .int .i64], [.var (.agg [.arr (.int .i64) 16, .sl 1, .int .i64]), .row (.int .i64) 3]⟩, [(.exit 0, ⟨[.adr 0 []], [.var (.agg [.arr (.int .i64) 16, .sl 1, .int .i64]), .row (.int .i64) 3]⟩)]⟩
abbrev uW : Type := (List Int) × Int × (List Int) × Int × (List Int)
abbrev uA : Type := (List Int) × Int × (List Int)
noncomputable def pr (N : Nat) (f : uW → Option uA) : uW → Option uA
  | (x0, x1, x2, x3, x4) =>
  ac (decide (x1 ≤ 15)) (
  Option.bind (cu N N ((0 : Int), (↑(List.length x0) : Int), x0, x0, x1, x2, x3, x4)) fun y0 =>
  Option.bind (f (y0.2.1, IntKind.wrap .i64 (y0.1 + 1), y0.2.2.1, y0.2.2.2.1, y0.2.2.2.2)) fun r => some r) (
  some ((x2, x3, x4)))
noncomputable def d7 (N : Nat) : Nat → uW → Option uA
  | 0, _ => none
  | k + 1, x => pr N (d7 N k) x
theorem DF (N : Nat) (k : Nat) : ap Tryz.prog Tryz.f166 [] 250 (vp.cut (d7 N k)) :=
  vp.loopT ah aB (pC N) Tryz.f166 [] (cuts := [(16018, jL.cut (cu N N))]) ⟨mT N N, trivial⟩ (by decide +kernel) (by kernel_rfl) (pr N) (d7 N) (fun _ => rfl) (fun _ _ => rfl) (fun f x => by kernel_rfl) k
@[reducible] def w166 : List SP := [⟨[.tup [.nilp, .int .i64]], []⟩, ⟨[.tup [.adr 0 [], .int .i64]], [.var (.agg [.arr (.int .i64) 16, .sl 1, .int .i64]), .row (.int .i64) 3]⟩]
noncomputable def Dj (N : Nat) : ((List Int)) → Option (((Int) ⊕ (Int × (List Int) × Int × (List Int))))
  | x0 =>
  Option.bind (UK N x0) fun y0 =>
  ac (y0.2 != 0) (
  some (.inl y0.2)) (
  Option.bind (Um N x0) fun y1 =>
  Option.bind (d7 N N (x0, (1 : Int), y1.1, (0 : Int), [])) fun y2 =>
  some (.inr (((0 : Int), y2.1, y2.2.1, y2.2.2))))
noncomputable def TX (N : Nat) : Pk → Tr Pk := aj s166 w166 (Dj N)
theorem Hk (N : Nat) : aO Tryz.prog 166 (TX N) :=
  (ag ah aB (pC N) Tryz.func166 s166 w166 [] (cuts := [(16018, jL.cut (cu N N)), (250, vp.cut (d7 N N))]) ⟨mT N N, DF N N, trivial⟩ (fun _ => by kernel_rfl) (by kernel_rfl) (Dj N) (fun x => by kernel_rfl))
@[reducible] def s151 : SP := ⟨[.int .i64], []⟩
noncomputable def Sk (N : Nat) : au := []
theorem H8 (N : Nat) : ai Tryz.prog (Sk N) := trivial
@[reducible] def w151 : List SP := [⟨[.int .i64], []⟩]
noncomputable def rQ (N : Nat) : (Int) → Option (Int)
  | x0 =>
  ac (x0 == 50) (
  some ((80 : Int))) (
  ac (x0 == 3) (
  some ((80 : Int))) (
  some (x0)))
noncomputable def Qa (N : Nat) : Pk → Tr Pk := aj s151 w151 (rQ N)
theorem zN (N : Nat) : aO Tryz.prog 151 (Qa N) :=
  (ag ah aB (H8 N) Tryz.func151 s151 w151 [] (cuts := []) trivial (fun _ => by kernel_rfl) (by kernel_rfl) (rQ N) (fun x => by kernel_rfl))
@[reducible] def s163 : SP := ⟨[.adr 0 [], .int .i64], [.var (.agg [.str, .int .i64, .int .i64])]⟩
noncomputable def Sa (N : Nat) : au := [(58, Ye N), (120, wP N), (121, zO N), (166, TX N), (151, Qa N)]
theorem xh (N : Nat) : ai Tryz.prog (Sa N) := ⟨Nw N, fL N, gY N, Hk N, zN N, trivial⟩
@[reducible] def AV : LD := ⟨58, [17, 16, 15, 6, 0], [(.ret, [4, 5]), (.exit 0, [0, 6])], ⟨[.int .i64, .int .i64, .slp 1 (.c 0) .h, .sl 2, .adr 0 []], [.var (.agg [.str, .int .i64, .int .i64]), .row (.int .i64) 3, .row (.int .i64) 3]⟩, [(.exit 0, ⟨[.adr 0 [], .sl 1], [.var (.agg [.str, .int .i64, .int .i64]), .row (.int .i64) 3]⟩)]⟩
abbrev Az : Type := Int × Int × Nat × ByteArray × Int × Int × (List Int) × (List Int)
abbrev Ab : Type := ByteArray × Int × Int × (List Int)
noncomputable def mE (N : Nat) (f : Az → Option Ab) : Az → Option Ab
  | (x0, x1, x2, x3, x4, x5, x6, x7) =>
  ac (decide (x0 < x1)) (
  ac (within x0 x2) (
  Option.bind (x6[(0 : Nat) + Int.toNat x0]?) fun y0 =>
  Option.bind (fT N ((3 : Int), x3, x4, x5)) fun y1 =>
  ac (within y0 (List.length x7)) (
  Option.bind (x7[Int.toNat y0]?) fun y2 =>
  Option.bind (f (IntKind.wrap .i64 (x0 + 1), x1, x2, y1.2.1, y1.2.2.1, y1.2.2.2, x6, List.set x7 (Int.toNat y0) y1.1)) fun r => some r) (
  none)) (
  none)) (
  some ((x3, x4, x5, x7)))
noncomputable def d8 (N : Nat) : Nat → Az → Option Ab
  | 0, _ => none
  | k + 1, x => mE N (d8 N k) x
theorem Gw (N : Nat) (k : Nat) : ap Tryz.prog Tryz.f163 [0] 58 (AV.cut (d8 N k)) :=
  AV.loopT ah aB (xh N) Tryz.f163 [0] (cuts := []) trivial (by decide +kernel) (by kernel_rfl) (mE N) (d8 N) (fun _ => rfl) (fun _ _ => rfl) (fun f x => by kernel_rfl) k
@[reducible] def w163 : List SP := [⟨[.tup [.nilp, .int .i64]], [.var (.agg [.str, .int .i64, .int .i64])]⟩, ⟨[.tup [.adr 1 [], .int .i64]], [.var (.agg [.str, .int .i64, .int .i64]), .var (.agg [.arr (.int .i64) 16, .sl 2, .int .i64]), .row (.int .i64) 3]⟩]
noncomputable def Gb (N : Nat) : (Int × ByteArray × Int × Int) → Option (((Int × ByteArray × Int × Int) ⊕ (Int × ByteArray × Int × Int × (List Int) × Int × (List Int))))
  | (x0, x1, x2, x3) =>
  Option.bind (Xr N ()) fun y0 =>
  ac (decide ((0 : Int) ≤ x0 ∧ x0 ≤ (↑(List.length y0) : Int))) (
  Option.bind (d8 N N ((0 : Int), (↑(Int.toNat x0 - 0) : Int), Int.toNat x0 - 0, x1, x2, x3, y0, List.replicate (19 : Nat) (0 : Int))) fun y1 =>
  Option.bind (d9 N (y1.1, y1.2.1, y1.2.2.1, ())) fun y2 =>
  ac (y2 != 0) (
  some (.inl ((y2, y1.1, y1.2.1, y1.2.2.1)))) (
  Option.bind (Dj N y1.2.2.2) fun y3 =>
  match y3 with
  | .inl y4 =>
  Option.bind (rQ N y4) fun y5 =>
  some (.inl ((y5, y1.1, y1.2.1, y1.2.2.1)))
  | .inr y4 =>
  Option.bind (rQ N y4.1) fun y6 =>
  some (.inr ((y6, y1.1, y1.2.1, y1.2.2.1, y4.2.1, y4.2.2.1, y4.2.2.2))))) (
  none)
noncomputable def WI (N : Nat) : Pk → Tr Pk := aj s163 w163 (Gb N)
theorem PS (N : Nat) : aO Tryz.prog 163 (WI N) :=
  (ag ah aB (xh N) Tryz.func163 s163 w163 [0] (cuts := [(58, AV.cut (d8 N N))]) ⟨Gw N N, trivial⟩ (fun _ => by kernel_rfl) (by kernel_rfl) (Gb N) (fun x => by kernel_rfl))
@[reducible] def s171 : SP := ⟨[.adr 0 [], .int .i64], [.var (.agg [.arr (.int .i64) 16, .sl 1, .int .i64]), .row (.int .i64) 3]⟩
noncomputable def RS (N : Nat) : au := []
theorem xf (N : Nat) : ai Tryz.prog (RS N) := trivial
@[reducible] def AS : LD := ⟨58, [5, 6, 1, 0], [(.ret, [4]), (.exit 0, [5])], ⟨[.int .i64, .int .i64, .int .i64, .adr 0 []], [.var (.agg [.arr (.int .i64) 16, .sl 1, .int .i64]), .row (.int .i64) 3]⟩, [(.exit 0, ⟨[.int .i64], [.var (.agg [.arr (.int .i64) 16, .sl 1, .int .i64]), .row (.int .i64) 3]⟩)]⟩
abbrev Aw : Type := Int × Int × Int × (List Int) × Int × (List Int)
abbrev zZ : Type := Int × (List Int) × Int × (List Int)
noncomputable def sk (N : Nat) (f : Aw → Option zZ) : Aw → Option zZ
  | (x0, x1, x2, x3, x4, x5) =>
  ac (decide (x1 > x2)) (
  ac (within x1 (16 : Nat)) (
  Option.bind (x3[Int.toNat x1]?) fun y0 =>
  Option.bind (f (IntKind.wrap .i64 (Int.tdiv (IntKind.wrap .i64 (IntKind.wrap .i64 (x0 + y0) + 1)) (2 : Int)), IntKind.wrap .i64 (x1 - 1), x2, x3, x4, x5)) fun r => some r) (
  none)) (
  some ((x0, x3, x4, x5)))
noncomputable def ic (N : Nat) : Nat → Aw → Option zZ
  | 0, _ => none
  | k + 1, x => sk N (ic N k) x
theorem Gt (N : Nat) (k : Nat) : ap Tryz.prog Tryz.f171 [0] 58 (AS.cut (ic N k)) :=
  AS.loopT ah aB (xf N) Tryz.f171 [0] (cuts := []) trivial (by decide +kernel) (by kernel_rfl) (sk N) (ic N) (fun _ => rfl) (fun _ _ => rfl) (fun f x => by kernel_rfl) k
@[reducible] def w171 : List SP := [⟨[.int .i64], [.var (.agg [.arr (.int .i64) 16, .sl 1, .int .i64]), .row (.int .i64) 3]⟩]
noncomputable def N7 (N : Nat) : (Int × (List Int) × Int × (List Int)) → Option (Int × (List Int) × Int × (List Int))
  | (x0, x1, x2, x3) =>
  Option.bind (ic N N ((0 : Int), x2, x0, x1, x2, x3)) fun y0 =>
  some ((y0.1, y0.2.1, y0.2.2.1, y0.2.2.2))
noncomputable def WB (N : Nat) : Pk → Tr Pk := aj s171 w171 (N7 N)
theorem PL (N : Nat) : aO Tryz.prog 171 (WB N) :=
  (ag ah aB (xf N) Tryz.func171 s171 w171 [0] (cuts := [(58, AS.cut (ic N N))]) ⟨Gt N N, trivial⟩ (fun _ => by kernel_rfl) (by kernel_rfl) (N7 N) (fun x => by kernel_rfl))
@[reducible] def s164 : SP := ⟨[.adr 0 [], .adr 1 []], [.var (.agg [.arr (.int .i64) 16, .sl 2, .int .i64]), .var (.agg [.str, .int .i64, .int .i64]), .row (.int .i64) 3]⟩
noncomputable def RZ (N : Nat) : au := [(120, wP N), (121, zO N), (171, WB N)]
theorem xg (N : Nat) : ai Tryz.prog (RZ N) := ⟨fL N, gY N, PL N, trivial⟩
@[reducible] def AU : LD := ⟨58, [8, 0, 7, 1, 9, 6], [(.ret, [4, 5]), (.exit 0, [])], ⟨[.int .i64, .adr 0 [], .int .i64, .adr 1 [], .int .i64, .int .i64], [.var (.agg [.arr (.int .i64) 16, .sl 2, .int .i64]), .var (.agg [.str, .int .i64, .int .i64]), .row (.int .i64) 3]⟩, [(.ret, ⟨[.int .i64, .int .i64], [.var (.agg [.arr (.int .i64) 16, .sl 2, .int .i64]), .var (.agg [.str, .int .i64, .int .i64]), .row (.int .i64) 3]⟩), (.exit 0, ⟨[], [.var (.agg [.arr (.int .i64) 16, .sl 2, .int .i64]), .var (.agg [.str, .int .i64, .int .i64]), .row (.int .i64) 3]⟩)]⟩
abbrev Ay : Type := Int × Int × Int × Int × (List Int) × Int × ByteArray × Int × Int × (List Int)
abbrev Aa : Type := ((Int × Int × (List Int) × Int × ByteArray × Int × Int × (List Int)) ⊕ ((List Int) × Int × ByteArray × Int × Int × (List Int)))
noncomputable def sn (N : Nat) (f : Ay → Option Aa) : Ay → Option Aa
  | (x0, x1, x2, x3, x4, x5, x6, x7, x8, x9) =>
  ac (decide (x2 ≤ x5)) (
  Option.bind (fT N ((1 : Int), x6, x7, x8)) fun y0 =>
  Option.bind (d9 N (y0.2.1, y0.2.2.1, y0.2.2.2, ())) fun y1 =>
  ac (y1 != 0) (
  some (.inl (((0 : Int), y1, x4, x5, y0.2.1, y0.2.2.1, y0.2.2.2, x9)))) (
  ac (within x2 (16 : Nat)) (
  Option.bind (x4[Int.toNat x2]?) fun y2 =>
  ac (decide (IntKind.wrap .i64 (IntKind.wrap .i64 (↑(BitVec.toNat (BitVec.ofInt (64 : Nat) x3 ||| BitVec.ofInt (64 : Nat) y0.1)) : Int) - x1) < y2)) (
  ac (within (IntKind.wrap .i64 (x0 + IntKind.wrap .i64 (IntKind.wrap .i64 (↑(BitVec.toNat (BitVec.ofInt (64 : Nat) x3 ||| BitVec.ofInt (64 : Nat) y0.1)) : Int) - x1))) (List.length x9)) (
  Option.bind (x9[Int.toNat (IntKind.wrap .i64 (x0 + IntKind.wrap .i64 (IntKind.wrap .i64 (↑(BitVec.toNat (BitVec.ofInt (64 : Nat) x3 ||| BitVec.ofInt (64 : Nat) y0.1)) : Int) - x1)))]?) fun y3 =>
  some (.inl ((y3, (0 : Int), x4, x5, y0.2.1, y0.2.2.1, y0.2.2.2, x9)))) (
  none)) (
  ac (within x2 (16 : Nat)) (
  Option.bind (x4[Int.toNat x2]?) fun y4 =>
  ac (within x2 (16 : Nat)) (
  Option.bind (x4[Int.toNat x2]?) fun y5 =>
  Option.bind (N7 N (x2, x4, x5, x9)) fun y6 =>
  ac (decide (IntKind.wrap .i64 (Int.fdiv (IntKind.wrap .i64 (IntKind.wrap .i64 (↑(BitVec.toNat (BitVec.ofInt (64 : Nat) x3 ||| BitVec.ofInt (64 : Nat) y0.1)) : Int) * (2 : Int))) (2 : Int) - Int.fdiv (IntKind.wrap .i64 (IntKind.wrap .i64 (x1 + y5) * 2)) (2 : Int)) ≥ y6.1)) (
  some (.inl (((0 : Int), (3 : Int), y6.2.1, y6.2.2.1, y0.2.1, y0.2.2.1, y0.2.2.2, y6.2.2.2)))) (
  Option.bind (f (IntKind.wrap .i64 (x0 + y4), IntKind.wrap .i64 (IntKind.wrap .i64 (x1 + y5) * 2), IntKind.wrap .i64 (x2 + 1), IntKind.wrap .i64 (IntKind.wrap .i64 (↑(BitVec.toNat (BitVec.ofInt (64 : Nat) x3 ||| BitVec.ofInt (64 : Nat) y0.1)) : Int) * (2 : Int)), y6.2.1, y6.2.2.1, y0.2.1, y0.2.2.1, y0.2.2.2, y6.2.2.2)) fun r => match r with | .inl y => some (.inl y) | .inr y => some (.inr y))) (
  none)) (
  none))) (
  none))) (
  some (.inr ((x4, x5, x6, x7, x8, x9))))
noncomputable def fS (N : Nat) : Nat → Ay → Option Aa
  | 0, _ => none
  | k + 1, x => sn N (fS N k) x
theorem Gv (N : Nat) (k : Nat) : ap Tryz.prog Tryz.f164 [0, 1] 58 (AU.cut (fS N k)) :=
  AU.loopT ah aB (xg N) Tryz.f164 [0, 1] (cuts := []) trivial (by decide +kernel) (by kernel_rfl) (sn N) (fS N) (fun _ => rfl) (fun _ _ => rfl) (fun f x => by kernel_rfl) k
@[reducible] def w164 : List SP := [⟨[.tup [.int .i64, .int .i64]], [.var (.agg [.arr (.int .i64) 16, .sl 2, .int .i64]), .var (.agg [.str, .int .i64, .int .i64]), .row (.int .i64) 3]⟩]
noncomputable def wT (N : Nat) : ((List Int) × Int × ByteArray × Int × Int × (List Int)) → Option (Int × Int × (List Int) × Int × ByteArray × Int × Int × (List Int))
  | (x0, x1, x2, x3, x4, x5) =>
  Option.bind (fS N N ((0 : Int), (0 : Int), (1 : Int), (0 : Int), x0, x1, x2, x3, x4, x5)) fun y0 =>
  match y0 with
  | .inl y1 =>
  some ((y1.1, y1.2.1, y1.2.2.1, y1.2.2.2.1, y1.2.2.2.2.1, y1.2.2.2.2.2.1, y1.2.2.2.2.2.2.1, y1.2.2.2.2.2.2.2))
  | .inr y1 =>
  some (((0 : Int), (3 : Int), y1.1, y1.2.1, y1.2.2.1, y1.2.2.2.1, y1.2.2.2.2.1, y1.2.2.2.2.2))
noncomputable def PR (N : Nat) : Pk → Tr Pk := aj s164 w164 (wT N)
theorem zM (N : Nat) : aO Tryz.prog 164 (PR N) :=
  (ag ah aB (xg N) Tryz.func164 s164 w164 [0, 1] (cuts := [(58, AU.cut (fS N N))]) ⟨Gv N N, trivial⟩ (fun _ => by kernel_rfl) (by kernel_rfl) (wT N) (fun x => by kernel_rfl))
@[reducible] def s165 : SP := ⟨[.adr 0 [], .int .i64, .ro (.int .i64)], [.var (.agg [.str, .int .i64, .int .i64])]⟩
noncomputable def RY (N : Nat) : au := [(120, wP N), (121, zO N)]
theorem H1 (N : Nat) : ai Tryz.prog (RY N) := ⟨fL N, gY N, trivial⟩
@[reducible] def w165 : List SP := [⟨[.tup [.int .i64, .int .i64, .int .i64]], [.var (.agg [.str, .int .i64, .int .i64])]⟩]
noncomputable def wS (N : Nat) : (Int × (List Int) × ByteArray × Int × Int) → Option (Int × Int × Int × ByteArray × Int × Int)
  | (x0, x1, x2, x3, x4) =>
  ac (x0 == 16) (
  ac ((↑(List.length x1) : Int) == (0 : Int)) (
  some (((0 : Int), (0 : Int), (80 : Int), x2, x3, x4))) (
  ac (within (IntKind.wrap .i64 ((↑(List.length x1) : Int) - (1 : Int))) (List.length x1)) (
  Option.bind (x1[Int.toNat (IntKind.wrap .i64 ((↑(List.length x1) : Int) - (1 : Int)))]?) fun y0 =>
  Option.bind (fT N ((2 : Int), x2, x3, x4)) fun y1 =>
  Option.bind (d9 N (y1.2.1, y1.2.2.1, y1.2.2.2, ())) fun y2 =>
  some ((y0, IntKind.wrap .i64 ((3 : Int) + y1.1), y2, y1.2.1, y1.2.2.1, y1.2.2.2))) (
  none))) (
  ac (x0 == 17) (
  Option.bind (fT N ((3 : Int), x2, x3, x4)) fun y3 =>
  Option.bind (d9 N (y3.2.1, y3.2.2.1, y3.2.2.2, ())) fun y4 =>
  some (((0 : Int), IntKind.wrap .i64 ((3 : Int) + y3.1), y4, y3.2.1, y3.2.2.1, y3.2.2.2))) (
  ac (x0 == 18) (
  Option.bind (fT N ((7 : Int), x2, x3, x4)) fun y5 =>
  Option.bind (d9 N (y5.2.1, y5.2.2.1, y5.2.2.2, ())) fun y6 =>
  some (((0 : Int), IntKind.wrap .i64 ((11 : Int) + y5.1), y6, y5.2.1, y5.2.2.1, y5.2.2.2))) (
  Option.bind (d9 N (x2, x3, x4, ())) fun y7 =>
  some ((x0, (1 : Int), y7, x2, x3, x4)))))
noncomputable def WH (N : Nat) : Pk → Tr Pk := aj s165 w165 (wS N)
theorem PQ (N : Nat) : aO Tryz.prog 165 (WH N) :=
  (ag ah aB (H1 N) Tryz.func165 s165 w165 [0] (cuts := []) trivial (fun _ => by kernel_rfl) (by kernel_rfl) (wS N) (fun x => by kernel_rfl))
@[reducible] def s149 : SP := ⟨[.adr 0 []], [.var (.agg [.str, .int .i64, .int .i64])]⟩
noncomputable def Sm (N : Nat) : au := [(120, wP N), (121, zO N), (163, WI N), (164, PR N), (151, Qa N), (165, WH N)]
theorem lS (N : Nat) : ai Tryz.prog (Sm N) := ⟨fL N, gY N, PS N, zM N, zN N, PQ N, trivial⟩
@[reducible] def jc : LD := ⟨508, [9, 5, 6, 0, 10], [(.ret, [2, 3, 4]), (.exit 1, [10, 5])], ⟨[.nilp, .int .i64, .int .i64, .adr 0 [], .sl 1], [.var (.agg [.str, .int .i64, .int .i64]), .row (.int .i64) 3]⟩, [(.exit 1, ⟨[.sl 1, .int .i64], [.var (.agg [.str, .int .i64, .int .i64]), .row (.int .i64) 3]⟩)]⟩
abbrev u3 : Type := Int × Int × ByteArray × Int × Int × (List Int)
abbrev uF : Type := Int × ByteArray × Int × Int × (List Int)
noncomputable def DX (N : Nat) (f : u3 → Option uF) : u3 → Option uF
  | (x0, x1, x2, x3, x4, x5) =>
  ac (decide ((↑(List.length x5) : Int) < IntKind.wrap .i64 (x0 + x1))) (
  none) (
  some ((x0, x2, x3, x4, x5)))
noncomputable def gH (N : Nat) : Nat → u3 → Option uF
  | 0, _ => none
  | k + 1, x => DX N (gH N k) x
theorem lN (N : Nat) (k : Nat) : ap Tryz.prog Tryz.f149 [0] 508 (jc.cut (gH N k)) :=
  jc.loopT ah aB (lS N) Tryz.f149 [0] (cuts := []) trivial (by decide +kernel) (by kernel_rfl) (DX N) (gH N) (fun _ => rfl) (fun _ _ => rfl) (fun f x => by kernel_rfl) k
@[reducible] def hJ : LD := ⟨260286, [10, 84, 83, 0, 6, 5, 9, 13], [(.ret, [2, 3, 4]), (.exit 4, [9, 5, 6, 0, 10]), (.exit 2, [9, 5, 6, 0, 10]), (.exit 1, [10, 5])], ⟨[.sl 1, .int .i64, .int .i64, .adr 0 [], .int .i64, .int .i64, .adr 2 [], .int .i64], [.var (.agg [.str, .int .i64, .int .i64]), .row (.int .i64) 3, .var (.agg [.arr (.int .i64) 16, .sl 3, .int .i64]), .row (.int .i64) 3]⟩, [(.exit 4, ⟨[.adr 1 [], .int .i64, .int .i64, .adr 0 [], .sl 2], [.var (.agg [.str, .int .i64, .int .i64]), .var (.agg [.arr (.int .i64) 16, .sl 3, .int .i64]), .row (.int .i64) 3, .row (.int .i64) 3]⟩)]⟩
abbrev lu : Type := Int × Int × Int × Int × Int × ByteArray × Int × Int × (List Int) × (List Int) × Int × (List Int)
abbrev ln : Type := Int × Int × ByteArray × Int × Int × (List Int) × Int × (List Int) × (List Int)
noncomputable def il (N : Nat) (f : lu → Option ln) : lu → Option ln
  | (x0, x1, x2, x3, x4, x5, x6, x7, x8, x9, x10, x11) =>
  ac (decide (x0 < x1)) (
  ac (decide ((List.length x8 + List.length [x4]) * 8 ≤ (140737488355328 : Nat) ∧ List.length x8 + List.length [x4] ≤ 140737488355328)) (
  Option.bind (f (IntKind.wrap .i64 (x0 + 1), x1, x2, x3, x4, x5, x6, x7, x8 ++ [x4], x9, x10, x11)) fun r => some r) (
  none)) (
  some ((x3, x2, x5, x6, x7, x9, x10, x8, x11)))
noncomputable def bW (N : Nat) : Nat → lu → Option ln
  | 0, _ => none
  | k + 1, x => il N (bW N k) x
theorem lO (N : Nat) (k : Nat) : ap Tryz.prog Tryz.f149 [0] 260286 (hJ.cut (bW N k)) :=
  hJ.loopT ah aB (lS N) Tryz.f149 [0] (cuts := [(508, jc.cut (gH N N))]) ⟨lN N N, trivial⟩ (by decide +kernel) (by kernel_rfl) (il N) (bW N) (fun _ => rfl) (fun _ _ => rfl) (fun f x => by kernel_rfl) k
@[reducible] def qH : LD := ⟨508, [9, 5, 6, 0, 10], [(.ret, [2, 3, 4]), (.exit 1, [10, 5])], ⟨[.adr 1 [], .int .i64, .int .i64, .adr 0 [], .sl 2], [.var (.agg [.str, .int .i64, .int .i64]), .var (.agg [.arr (.int .i64) 16, .sl 3, .int .i64]), .row (.int .i64) 3, .row (.int .i64) 3]⟩, [(.ret, ⟨[.sl 1, .sl 2, .int .i64], [.var (.agg [.str, .int .i64, .int .i64]), .row (.int .i64) 3, .row (.int .i64) 3]⟩), (.exit 1, ⟨[.sl 1, .int .i64], [.var (.agg [.str, .int .i64, .int .i64]), .row (.int .i64) 3]⟩)]⟩
abbrev qD : Type := Int × Int × ByteArray × Int × Int × (List Int) × Int × (List Int) × (List Int)
abbrev qs : Type := ((Int × ByteArray × Int × Int × (List Int) × (List Int)) ⊕ (Int × ByteArray × Int × Int × (List Int)))
noncomputable def gi (N : Nat) (f : qD → Option qs) : qD → Option qs
  | (x0, x1, x2, x3, x4, x5, x6, x7, x8) =>
  ac (decide ((↑(List.length x7) : Int) < IntKind.wrap .i64 (x0 + x1))) (
  Option.bind (wT N (x5, x6, x2, x3, x4, x8)) fun y0 =>
  ac (y0.2.1 != 0) (
  Option.bind (rQ N y0.2.1) fun y1 =>
  some (.inl ((y1, y0.2.2.2.2.1, y0.2.2.2.2.2.1, y0.2.2.2.2.2.2.1, [], [])))) (
  Option.bind (wS N (y0.1, x7, y0.2.2.2.2.1, y0.2.2.2.2.2.1, y0.2.2.2.2.2.2.1)) fun y2 =>
  ac (y2.2.2.1 != 0) (
  some (.inl ((y2.2.2.1, y2.2.2.2.1, y2.2.2.2.2.1, y2.2.2.2.2.2, [], [])))) (
  ac (decide (IntKind.wrap .i64 ((↑(List.length x7) : Int) + y2.2.1) > IntKind.wrap .i64 (x0 + x1))) (
  some (.inl (((80 : Int), y2.2.2.2.1, y2.2.2.2.2.1, y2.2.2.2.2.2, [], [])))) (
  Option.bind (bW N N ((0 : Int), y2.2.1, x1, x0, y2.1, y2.2.2.2.1, y2.2.2.2.2.1, y2.2.2.2.2.2, x7, y0.2.2.1, y0.2.2.2.1, y0.2.2.2.2.2.2.2)) fun y3 =>
  Option.bind (f (y3.1, y3.2.1, y3.2.2.1, y3.2.2.2.1, y3.2.2.2.2.1, y3.2.2.2.2.2.1, y3.2.2.2.2.2.2.1, y3.2.2.2.2.2.2.2.1, y3.2.2.2.2.2.2.2.2)) fun r => match r with | .inl y => some (.inl y) | .inr y => some (.inr y))))) (
  some (.inr ((x0, x2, x3, x4, x7))))
noncomputable def bH (N : Nat) : Nat → qD → Option qs
  | 0, _ => none
  | k + 1, x => gi N (bH N k) x
theorem Ba (N : Nat) (k : Nat) : ap Tryz.prog Tryz.f149 [0] 508 (qH.cut (bH N k)) :=
  qH.loopT ah aB (lS N) Tryz.f149 [0] (cuts := [(508, jc.cut (gH N N)), (260286, hJ.cut (bW N N))]) ⟨lN N N, lO N N, trivial⟩ (by decide +kernel) (by kernel_rfl) (gi N) (bH N) (fun _ => rfl) (fun _ _ => rfl) (fun f x => by kernel_rfl) k
@[reducible] def w149 : List SP := [⟨[.tup [.sl 1, .sl 2, .int .i64]], [.var (.agg [.str, .int .i64, .int .i64]), .row (.int .i64) 3, .row (.int .i64) 3]⟩, ⟨[.tup [.slp 1 (.c 0) .h, .slp 1 .h .h, .int .i64]], [.var (.agg [.str, .int .i64, .int .i64]), .row (.int .i64) 3]⟩]
noncomputable def Gf (N : Nat) : (ByteArray × Int × Int) → Option (((Int × ByteArray × Int × Int × (List Int) × (List Int)) ⊕ (Nat × Nat × Nat × Int × ByteArray × Int × Int × (List Int))))
  | (x0, x1, x2) =>
  Option.bind (fT N ((5 : Int), x0, x1, x2)) fun y0 =>
  Option.bind (fT N ((5 : Int), y0.2.1, y0.2.2.1, y0.2.2.2)) fun y1 =>
  Option.bind (fT N ((4 : Int), y1.2.1, y1.2.2.1, y1.2.2.2)) fun y2 =>
  Option.bind (d9 N (y2.2.1, y2.2.2.1, y2.2.2.2, ())) fun y3 =>
  ac (y3 != 0) (
    some (.inl ((y3, y2.2.1, y2.2.2.1, y2.2.2.2, [], [])))) (
    ac (decide (IntKind.wrap .i64 (y0.1 + 257) > 286)) (
      some (.inl (((80 : Int), y2.2.1, y2.2.2.1, y2.2.2.2, [], [])))) (
      ac (decide (IntKind.wrap .i64 (y1.1 + 1) > 30)) (
        some (.inl (((80 : Int), y2.2.1, y2.2.2.1, y2.2.2.2, [], [])))) (
        Option.bind (Gb N (IntKind.wrap .i64 (y2.1 + 4), y2.2.1, y2.2.2.1, y2.2.2.2)) fun y4 =>
        match y4 with
        | .inl y5 =>
          ac (y5.1 != 0) (
            some (.inl ((y5.1, y5.2.1, y5.2.2.1, y5.2.2.2, [], [])))) (
            Option.bind (gH N N (IntKind.wrap .i64 (y0.1 + 257), IntKind.wrap .i64 (y1.1 + 1), y5.2.1, y5.2.2.1, y5.2.2.2, [])) fun y6 =>
            ac (decide ((0 : Int) ≤ y6.1 ∧ y6.1 ≤ y6.1 ∧ y6.1 ≤ (↑(List.length y6.2.2.2.2) : Int))) (
              ac (decide ((0 : Int) ≤ y6.1 ∧ y6.1 ≤ (↑(List.length y6.2.2.2.2) : Int))) (
                some (.inr ((Int.toNat y6.1, Int.toNat y6.1, List.length y6.2.2.2.2 - Int.toNat y6.1, (0 : Int), y6.2.1, y6.2.2.1, y6.2.2.2.1, y6.2.2.2.2)))) (
                none)) (
              none))
        | .inr y5 =>
          ac (y5.1 != 0) (
            some (.inl ((y5.1, y5.2.1, y5.2.2.1, y5.2.2.2.1, [], [])))) (
            Option.bind (bH N N (IntKind.wrap .i64 (y0.1 + 257), IntKind.wrap .i64 (y1.1 + 1), y5.2.1, y5.2.2.1, y5.2.2.2.1, y5.2.2.2.2.1, y5.2.2.2.2.2.1, [], y5.2.2.2.2.2.2)) fun y7 =>
            match y7 with
            | .inl y8 =>
              some (.inl ((y8.1, y8.2.1, y8.2.2.1, y8.2.2.2.1, y8.2.2.2.2.1, y8.2.2.2.2.2)))
            | .inr y8 =>
              ac (decide ((0 : Int) ≤ y8.1 ∧ y8.1 ≤ y8.1 ∧ y8.1 ≤ (↑(List.length y8.2.2.2.2) : Int))) (
                ac (decide ((0 : Int) ≤ y8.1 ∧ y8.1 ≤ (↑(List.length y8.2.2.2.2) : Int))) (
                  some (.inr ((Int.toNat y8.1, Int.toNat y8.1, List.length y8.2.2.2.2 - Int.toNat y8.1, (0 : Int), y8.2.1, y8.2.2.1, y8.2.2.2.1, y8.2.2.2.2)))) (
                  none)) (
                none)))))
noncomputable def WR (N : Nat) : Pk → Tr Pk := aj s149 w149 (Gf N)
theorem Qc (N : Nat) : aO Tryz.prog 149 (WR N) :=
  (ag ah aB (lS N) Tryz.func149 s149 w149 [0] (cuts := [(508, IX jc.s.I (jc.cut (gH N N)) (qH.cut (bH N N))), (260286, hJ.cut (bW N N))]) ⟨fun c' h => gu (lN N N c' h) (Ba N N c' h) rfl rfl, lO N N, trivial⟩ (fun _ => by kernel_rfl) (by kernel_rfl) (Gf N) (fun x => by kernel_rfl))
@[reducible] def s172a : SP := ⟨[.adr 0 [], .int .i64, .fn 131], [.var (.agg [.str, .int .i64, .int .i64])]⟩
noncomputable def OS (N : Nat) : au := [(120, wP N), (121, zO N), (131, Ug N)]
theorem D7 (N : Nat) : ai Tryz.prog (OS N) := ⟨fL N, gY N, Hs N, trivial⟩
@[reducible] def w172a : List SP := [⟨[.tup [.int .i64, .int .i64]], [.var (.agg [.str, .int .i64, .int .i64])]⟩]
noncomputable def Df (N : Nat) : (Int × ByteArray × Int × Int) → Option (Int × Int × ByteArray × Int × Int)
  | (x0, x1, x2, x3) =>
  Option.bind (vW N x0) fun y0 =>
  Option.bind (fT N (y0.2, x1, x2, x3)) fun y1 =>
  Option.bind (d9 N (y1.2.1, y1.2.2.1, y1.2.2.2, ())) fun y2 =>
  some ((IntKind.wrap .i64 (y0.1 + y1.1), y2, y1.2.1, y1.2.2.1, y1.2.2.2))
noncomputable def Ru (N : Nat) : Pk → Tr Pk := aj s172a w172a (Df N)
theorem M9 (N : Nat) : aO Tryz.prog 172 (Ru N) :=
  (ag ah aB (D7 N) Tryz.func172 s172a w172a [0] (cuts := []) trivial (fun _ => by kernel_rfl) (by kernel_rfl) (Df N) (fun x => by kernel_rfl))
@[reducible] def s172b : SP := ⟨[.adr 0 [], .int .i64, .fn 132], [.var (.agg [.str, .int .i64, .int .i64])]⟩
noncomputable def OR (N : Nat) : au := [(120, wP N), (121, zO N), (132, Uf N)]
theorem D6 (N : Nat) : ai Tryz.prog (OR N) := ⟨fL N, gY N, Hr N, trivial⟩
@[reducible] def w172b : List SP := [⟨[.tup [.int .i64, .int .i64]], [.var (.agg [.str, .int .i64, .int .i64])]⟩]
noncomputable def De (N : Nat) : (Int × ByteArray × Int × Int) → Option (Int × Int × ByteArray × Int × Int)
  | (x0, x1, x2, x3) =>
  Option.bind (vV N x0) fun y0 =>
  Option.bind (fT N (y0.2, x1, x2, x3)) fun y1 =>
  Option.bind (d9 N (y1.2.1, y1.2.2.1, y1.2.2.2, ())) fun y2 =>
  some ((IntKind.wrap .i64 (y0.1 + y1.1), y2, y1.2.1, y1.2.2.1, y1.2.2.2))
noncomputable def Rt (N : Nat) : Pk → Tr Pk := aj s172b w172b (De N)
theorem M8 (N : Nat) : aO Tryz.prog 172 (Rt N) :=
  (ag ah aB (D6 N) Tryz.func172 s172b w172b [0] (cuts := []) trivial (fun _ => by kernel_rfl) (by kernel_rfl) (De N) (fun x => by kernel_rfl))
noncomputable def WA (N : Nat) : Pk → Tr Pk := (Xz s172a.I (Ru N) (Rt N))
theorem PK (N : Nat) : aO Tryz.prog 172 (WA N) := (LL (M9 N) (M8 N))
@[reducible] def s167 : SP := ⟨[.adr 0 [], .int .i64, .adr 1 []], [.var (.agg [.str, .int .i64, .int .i64]), .var (.agg [.arr (.int .i64) 16, .sl 2, .int .i64]), .row (.int .i64) 3]⟩
noncomputable def RV (N : Nat) : au := [(172, WA N), (164, PR N)]
theorem H0 (N : Nat) : ai Tryz.prog (RV N) := ⟨PK N, zM N, trivial⟩
@[reducible] def w167 : List SP := [⟨[.tup [.agg [.int .i64, .int .i64, .int .i64], .int .i64]], [.var (.agg [.str, .int .i64, .int .i64]), .var (.agg [.arr (.int .i64) 16, .sl 2, .int .i64]), .row (.int .i64) 3]⟩]
noncomputable def JG (N : Nat) : (Int × ByteArray × Int × Int × (List Int) × Int × (List Int)) → Option (Int × Int × Int × Int × ByteArray × Int × Int × (List Int) × Int × (List Int))
  | (x0, x1, x2, x3, x4, x5, x6) =>
  ac (decide (x0 > 285)) (
  some (((0 : Int), (0 : Int), (0 : Int), (3 : Int), x1, x2, x3, x4, x5, x6))) (
  Option.bind (Df N (x0, x1, x2, x3)) fun y0 =>
  ac (y0.2.1 != 0) (
  some (((0 : Int), (0 : Int), (0 : Int), y0.2.1, y0.2.2.1, y0.2.2.2.1, y0.2.2.2.2, x4, x5, x6))) (
  Option.bind (wT N (x4, x5, y0.2.2.1, y0.2.2.2.1, y0.2.2.2.2, x6)) fun y1 =>
  ac (y1.2.1 != 0) (
  some (((0 : Int), (0 : Int), (0 : Int), y1.2.1, y1.2.2.2.2.1, y1.2.2.2.2.2.1, y1.2.2.2.2.2.2.1, y1.2.2.1, y1.2.2.2.1, y1.2.2.2.2.2.2.2))) (
  ac (decide (y1.1 ≥ 30)) (
  some (((0 : Int), (0 : Int), (0 : Int), (3 : Int), y1.2.2.2.2.1, y1.2.2.2.2.2.1, y1.2.2.2.2.2.2.1, y1.2.2.1, y1.2.2.2.1, y1.2.2.2.2.2.2.2))) (
  Option.bind (De N (y1.1, y1.2.2.2.2.1, y1.2.2.2.2.2.1, y1.2.2.2.2.2.2.1)) fun y2 =>
  some (((0 : Int), y0.1, y2.1, y2.2.1, y2.2.2.1, y2.2.2.2.1, y2.2.2.2.2, y1.2.2.1, y1.2.2.2.1, y1.2.2.2.2.2.2.2))))))
noncomputable def WG (N : Nat) : Pk → Tr Pk := aj s167 w167 (JG N)
theorem PP (N : Nat) : aO Tryz.prog 167 (WG N) :=
  (ag ah aB (H0 N) Tryz.func167 s167 w167 [0, 1] (cuts := []) trivial (fun _ => by kernel_rfl) (by kernel_rfl) (JG N) (fun x => by kernel_rfl))
@[reducible] def s150 : SP := ⟨[.adr 0 [], .ro (.int .i64), .ro (.int .i64), .int .i64], [.var (.agg [.str, .int .i64, .int .i64])]⟩
noncomputable def Sl (N : Nat) : au := [(166, TX N), (164, PR N), (167, WG N)]
theorem iF (N : Nat) : ai Tryz.prog (Sl N) := ⟨Hk N, zM N, PP N, trivial⟩
@[reducible] def dY : LD := ⟨254, [14, 10, 0, 12, 3, 15], [(.ret, [8, 9]), (.exit 0, [8, 9])], ⟨[.sl 1, .nilp, .adr 0 [], .nilp, .int .i64, .int .i64], [.var (.agg [.str, .int .i64, .int .i64]), .row y0 52]⟩, []⟩
abbrev u0 : Type := Int × Int × ByteArray × Int × Int × (List (Int × (Int × (Int × Unit))))
abbrev uE : Type := Unit
noncomputable def DW (N : Nat) (f : u0 → Option uE) : u0 → Option uE
  | (x0, x1, x2, x3, x4, x5) =>
  none
noncomputable def fu (N : Nat) : Nat → u0 → Option uE
  | 0, _ => none
  | k + 1, x => DW N (fu N k) x
theorem ij (N : Nat) (k : Nat) : ap Tryz.prog Tryz.f150 [0] 254 (dY.cut (fu N k)) :=
  dY.loopT ah aB (iF N) Tryz.f150 [0] (cuts := []) trivial (by decide +kernel) (by kernel_rfl) (DW N) (fu N) (fun _ => rfl) (fun _ _ => rfl) (fun f x => by kernel_rfl) k
@[reducible] def eH : LD := ⟨254, [14, 10, 0, 12, 3, 15], [(.ret, [8, 9]), (.exit 0, [8, 9])], ⟨[.sl 1, .nilp, .adr 0 [], .adr 2 [], .int .i64, .int .i64], [.var (.agg [.str, .int .i64, .int .i64]), .row y0 52, .var (.agg [.arr (.int .i64) 16, .sl 3, .int .i64]), .row (.int .i64) 3]⟩, []⟩
abbrev qC : Type := Int × Int × ByteArray × Int × Int × (List (Int × (Int × (Int × Unit)))) × (List Int) × Int × (List Int)
abbrev qq : Type := Unit
noncomputable def yD (N : Nat) (f : qC → Option qq) : qC → Option qq
  | (x0, x1, x2, x3, x4, x5, x6, x7, x8) =>
  none
noncomputable def eI (N : Nat) : Nat → qC → Option qq
  | 0, _ => none
  | k + 1, x => yD N (eI N k) x
theorem jV (N : Nat) (k : Nat) : ap Tryz.prog Tryz.f150 [0] 254 (eH.cut (eI N k)) :=
  eH.loopT ah aB (iF N) Tryz.f150 [0] (cuts := [(254, dY.cut (fu N N))]) ⟨ij N N, trivial⟩ (by decide +kernel) (by kernel_rfl) (yD N) (eI N) (fun _ => rfl) (fun _ _ => rfl) (fun f x => by kernel_rfl) k
@[reducible] def jb : LD := ⟨254, [14, 10, 0, 12, 3, 15], [(.ret, [8, 9]), (.exit 0, [8, 9])], ⟨[.sl 1, .adr 2 [], .adr 0 [], .nilp, .int .i64, .int .i64], [.var (.agg [.str, .int .i64, .int .i64]), .row y0 52, .var (.agg [.arr (.int .i64) 16, .sl 3, .int .i64]), .row (.int .i64) 3]⟩, [(.ret, ⟨[.sl 1, .int .i64], [.var (.agg [.str, .int .i64, .int .i64]), .row y0 52]⟩)]⟩
abbrev qB : Type := Int × Int × ByteArray × Int × Int × (List (Int × (Int × (Int × Unit)))) × (List Int) × Int × (List Int)
abbrev qp : Type := Int × ByteArray × Int × Int × (List (Int × (Int × (Int × Unit))))
noncomputable def yC (N : Nat) (f : qB → Option qp) : qB → Option qp
  | (x0, x1, x2, x3, x4, x5, x6, x7, x8) =>
  Option.bind (wT N (x6, x7, x2, x3, x4, x8)) fun y0 =>
  ac (y0.2.1 != 0) (
  some ((y0.2.1, y0.2.2.2.2.1, y0.2.2.2.2.2.1, y0.2.2.2.2.2.2.1, []))) (
  ac (y0.1 == 256) (
  some (((0 : Int), y0.2.2.2.2.1, y0.2.2.2.2.2.1, y0.2.2.2.2.2.2.1, x5))) (
  ac (decide (y0.1 > 256)) (
  none) (
  ac (decide (IntKind.wrap .i64 (x1 + 1) > x0)) (
  some (((4 : Int), y0.2.2.2.2.1, y0.2.2.2.2.2.1, y0.2.2.2.2.2.2.1, []))) (
  ac (decide ((List.length x5 + List.length [(y0.1, (0 : Int), (0 : Int), ())]) * 24 ≤ (140737488355328 : Nat) ∧ List.length x5 + List.length [(y0.1, (0 : Int), (0 : Int), ())] ≤ 140737488355328)) (
  Option.bind (f (x0, IntKind.wrap .i64 (x1 + 1), y0.2.2.2.2.1, y0.2.2.2.2.2.1, y0.2.2.2.2.2.2.1, x5 ++ [(y0.1, (0 : Int), (0 : Int), ())], y0.2.2.1, y0.2.2.2.1, y0.2.2.2.2.2.2.2)) fun r => some r) (
  none)))))
noncomputable def ga (N : Nat) : Nat → qB → Option qp
  | 0, _ => none
  | k + 1, x => yC N (ga N k) x
theorem pb (N : Nat) (k : Nat) : ap Tryz.prog Tryz.f150 [0] 254 (jb.cut (ga N k)) :=
  jb.loopT ah aB (iF N) Tryz.f150 [0] (cuts := [(254, IX dY.s.I (dY.cut (fu N N)) (eH.cut (eI N N)))]) ⟨fun c' h => gu (ij N N c' h) (jV N N c' h) rfl rfl, trivial⟩ (by decide +kernel) (by kernel_rfl) (yC N) (ga N) (fun _ => rfl) (fun _ _ => rfl) (fun f x => by kernel_rfl) k
@[reducible] def qG : LD := ⟨254, [14, 10, 0, 12, 3, 15], [(.ret, [8, 9]), (.exit 0, [8, 9])], ⟨[.sl 1, .adr 2 [], .adr 0 [], .adr 3 [], .int .i64, .int .i64], [.var (.agg [.str, .int .i64, .int .i64]), .row y0 52, .var (.agg [.arr (.int .i64) 16, .sl 4, .int .i64]), .var (.agg [.arr (.int .i64) 16, .sl 5, .int .i64]), .row (.int .i64) 3, .row (.int .i64) 3]⟩, [(.ret, ⟨[.sl 1, .int .i64], [.var (.agg [.str, .int .i64, .int .i64]), .row y0 52]⟩)]⟩
abbrev qA : Type := Int × Int × ByteArray × Int × Int × (List (Int × (Int × (Int × Unit)))) × (List Int) × Int × (List Int) × Int × (List Int) × (List Int)
abbrev qo : Type := Int × ByteArray × Int × Int × (List (Int × (Int × (Int × Unit))))
noncomputable def gh (N : Nat) (f : qA → Option qo) : qA → Option qo
  | (x0, x1, x2, x3, x4, x5, x6, x7, x8, x9, x10, x11) =>
  Option.bind (wT N (x6, x7, x2, x3, x4, x10)) fun y0 =>
  ac (y0.2.1 != 0) (
  some ((y0.2.1, y0.2.2.2.2.1, y0.2.2.2.2.2.1, y0.2.2.2.2.2.2.1, []))) (
  ac (y0.1 == 256) (
  some (((0 : Int), y0.2.2.2.2.1, y0.2.2.2.2.2.1, y0.2.2.2.2.2.2.1, x5))) (
  ac (decide (y0.1 > 256)) (
  Option.bind (JG N (y0.1, y0.2.2.2.2.1, y0.2.2.2.2.2.1, y0.2.2.2.2.2.2.1, x8, x9, x11)) fun y1 =>
  ac (y1.2.2.2.1 != 0) (
  some ((y1.2.2.2.1, y1.2.2.2.2.1, y1.2.2.2.2.2.1, y1.2.2.2.2.2.2.1, []))) (
  ac (decide (IntKind.wrap .i64 (x1 + if (1 : Int) > y1.2.1 then (1 : Int) else y1.2.1) > x0)) (
  some (((4 : Int), y1.2.2.2.2.1, y1.2.2.2.2.2.1, y1.2.2.2.2.2.2.1, []))) (
  ac (decide ((List.length x5 + List.length [(y1.1, y1.2.1, y1.2.2.1, ())]) * 24 ≤ (140737488355328 : Nat) ∧ List.length x5 + List.length [(y1.1, y1.2.1, y1.2.2.1, ())] ≤ 140737488355328)) (
  Option.bind (f (x0, IntKind.wrap .i64 (x1 + if (1 : Int) > y1.2.1 then (1 : Int) else y1.2.1), y1.2.2.2.2.1, y1.2.2.2.2.2.1, y1.2.2.2.2.2.2.1, x5 ++ [(y1.1, y1.2.1, y1.2.2.1, ())], y0.2.2.1, y0.2.2.2.1, y1.2.2.2.2.2.2.2.1, y1.2.2.2.2.2.2.2.2.1, y0.2.2.2.2.2.2.2, y1.2.2.2.2.2.2.2.2.2)) fun r => some r) (
  none)))) (
  ac (decide (IntKind.wrap .i64 (x1 + 1) > x0)) (
  some (((4 : Int), y0.2.2.2.2.1, y0.2.2.2.2.2.1, y0.2.2.2.2.2.2.1, []))) (
  ac (decide ((List.length x5 + List.length [(y0.1, (0 : Int), (0 : Int), ())]) * 24 ≤ (140737488355328 : Nat) ∧ List.length x5 + List.length [(y0.1, (0 : Int), (0 : Int), ())] ≤ 140737488355328)) (
  Option.bind (f (x0, IntKind.wrap .i64 (x1 + 1), y0.2.2.2.2.1, y0.2.2.2.2.2.1, y0.2.2.2.2.2.2.1, x5 ++ [(y0.1, (0 : Int), (0 : Int), ())], y0.2.2.1, y0.2.2.2.1, x8, x9, y0.2.2.2.2.2.2.2, x11)) fun r => some r) (
  none)))))
noncomputable def bP (N : Nat) : Nat → qA → Option qo
  | 0, _ => none
  | k + 1, x => gh N (bP N k) x
theorem A9 (N : Nat) (k : Nat) : ap Tryz.prog Tryz.f150 [0] 254 (qG.cut (bP N k)) :=
  qG.loopT ah aB (iF N) Tryz.f150 [0] (cuts := [(254, IX dY.s.I (dY.cut (fu N N)) (IX eH.s.I (eH.cut (eI N N)) (jb.cut (ga N N))))]) ⟨fun c' h => gu (ij N N c' h) (gu (jV N N c' h) (pb N N c' h) rfl rfl) rfl rfl, trivial⟩ (by decide +kernel) (by kernel_rfl) (gh N) (bP N) (fun _ => rfl) (fun _ _ => rfl) (fun f x => by kernel_rfl) k
@[reducible] def w150 : List SP := [⟨[.tup [.sl 1, .int .i64]], [.var (.agg [.str, .int .i64, .int .i64]), .row y0 52]⟩]
noncomputable def wU (N : Nat) : ((List Int) × (List Int) × Int × ByteArray × Int × Int) → Option (Int × ByteArray × Int × Int × (List (Int × (Int × (Int × Unit)))))
  | (x0, x1, x2, x3, x4, x5) =>
  Option.bind (Dj N x0) fun y0 =>
  match y0 with
  | .inl y1 =>
    Option.bind (Dj N x1) fun y2 =>
    match y2 with
    | .inl y3 =>
      ac (y1 != 0) (
        some (((50 : Int), x3, x4, x5, []))) (
        ac (y3 != 0) (
          some (((50 : Int), x3, x4, x5, []))) (
          Option.bind (fu N N (x2, (0 : Int), x3, x4, x5, [])) fun y4 =>
          none))
    | .inr y3 =>
      ac (y1 != 0) (
        some (((50 : Int), x3, x4, x5, []))) (
        ac (y3.1 != 0) (
          some (((50 : Int), x3, x4, x5, []))) (
          Option.bind (eI N N (x2, (0 : Int), x3, x4, x5, [], y3.2.1, y3.2.2.1, y3.2.2.2)) fun y5 =>
          none))
  | .inr y1 =>
    Option.bind (Dj N x1) fun y6 =>
    match y6 with
    | .inl y7 =>
      ac (y1.1 != 0) (
        some (((50 : Int), x3, x4, x5, []))) (
        ac (y7 != 0) (
          some (((50 : Int), x3, x4, x5, []))) (
          Option.bind (ga N N (x2, (0 : Int), x3, x4, x5, [], y1.2.1, y1.2.2.1, y1.2.2.2)) fun y8 =>
          some ((y8.1, y8.2.1, y8.2.2.1, y8.2.2.2.1, y8.2.2.2.2))))
    | .inr y7 =>
      ac (y1.1 != 0) (
        some (((50 : Int), x3, x4, x5, []))) (
        ac (y7.1 != 0) (
          some (((50 : Int), x3, x4, x5, []))) (
          Option.bind (bP N N (x2, (0 : Int), x3, x4, x5, [], y1.2.1, y1.2.2.1, y7.2.1, y7.2.2.1, y1.2.2.2, y7.2.2.2)) fun y9 =>
          some ((y9.1, y9.2.1, y9.2.2.1, y9.2.2.2.1, y9.2.2.2.2))))
noncomputable def WQ (N : Nat) : Pk → Tr Pk := aj s150 w150 (wU N)
theorem Qb (N : Nat) : aO Tryz.prog 150 (WQ N) :=
  (ag ah aB (iF N) Tryz.func150 s150 w150 [0] (cuts := [(254, IX dY.s.I (dY.cut (fu N N)) (IX eH.s.I (eH.cut (eI N N)) (IX jb.s.I (jb.cut (ga N N)) (qG.cut (bP N N)))))]) ⟨fun c' h => gu (ij N N c' h) (gu (jV N N c' h) (gu (pb N N c' h) (A9 N N c' h) rfl rfl) rfl rfl) rfl rfl, trivial⟩ (fun _ => by kernel_rfl) (by kernel_rfl) (wU N) (fun x => by kernel_rfl))
@[reducible] def s152 : SP := ⟨[.str, .ro y0], []⟩
noncomputable def Sj (N : Nat) : au := [(88, UJ N), (27, Wx N)]
theorem pE (N : Nat) : ai Tryz.prog (Sj N) := ⟨uo N, zL N, trivial⟩
@[reducible] def jN : LD := ⟨62670, [6, 43, 42, 15, 7, 16, 17, 9], [(.ret, [4, 5]), (.exit 3, [17, 16, 7, 15, 6]), (.exit 1, [17, 16, 7, 15, 6]), (.exit 0, [6, 7])], ⟨[.sl 0, .int .i64, .int .i64, .ro y0, .int .i64, .int .i64, .int .i64, .adr 1 []], [.row (.int .u8) 5, .var (.agg [.int .i64, .int .i64, .int .i64])]⟩, [(.exit 3, ⟨[.int .i64, .int .i64, .int .i64, .ro y0, .sl 0], [.row (.int .u8) 5]⟩)]⟩
abbrev nI : Type := Int × Int × (List (Int × (Int × (Int × Unit)))) × Int × Int × Int × (List Int) × Int × Int × Int
abbrev nA : Type := Int × Int × Int × (List (Int × (Int × (Int × Unit)))) × (List Int)
noncomputable def gO (N : Nat) (f : nI → Option nA) : nI → Option nA
  | (x0, x1, x2, x3, x4, x5, x6, x7, x8, x9) =>
  ac (decide (x0 < x1)) (
  ac (within (IntKind.wrap .i64 ((↑(List.length x6) : Int) - x9)) (List.length x6)) (
  Option.bind (x6[Int.toNat (IntKind.wrap .i64 ((↑(List.length x6) : Int) - x9))]?) fun y0 =>
  ac (decide ((List.length x6 + List.length [y0]) * 1 ≤ (140737488355328 : Nat) ∧ List.length x6 + List.length [y0] ≤ 140737488355328)) (
  Option.bind (f (IntKind.wrap .i64 (x0 + 1), x1, x2, x3, x4, x5, x6 ++ [y0], x7, x8, x9)) fun r => some r) (
  none)) (
  none)) (
  some ((x5, x4, x3, x2, x6)))
noncomputable def bC (N : Nat) : Nat → nI → Option nA
  | 0, _ => none
  | k + 1, x => gO N (bC N k) x
theorem mV (N : Nat) (k : Nat) : ap Tryz.prog Tryz.f152 [] 62670 (jN.cut (bC N k)) :=
  jN.loopT ah aB (pE N) Tryz.f152 [] (cuts := []) trivial (by decide +kernel) (by kernel_rfl) (gO N) (bC N) (fun _ => rfl) (fun _ _ => rfl) (fun f x => by kernel_rfl) k
@[reducible] def vt : LD := ⟨122, [17, 16, 7, 15, 6], [(.ret, [4, 5]), (.exit 0, [6, 7])], ⟨[.int .i64, .int .i64, .int .i64, .ro y0, .sl 0], [.row (.int .u8) 5]⟩, [(.ret, ⟨[.str, .int .i64], []⟩), (.exit 0, ⟨[.sl 0, .int .i64], [.row (.int .u8) 5]⟩)]⟩
abbrev uZ : Type := Int × Int × Int × (List (Int × (Int × (Int × Unit)))) × (List Int)
abbrev uD : Type := ((ByteArray × Int) ⊕ (Int × (List Int)))
noncomputable def pv (N : Nat) (f : uZ → Option uD) : uZ → Option uD
  | (x0, x1, x2, x3, x4) =>
  ac (decide (x0 < x1)) (
  ac (within x0 (List.length x3)) (
  Option.bind (x3[Int.toNat x0]?) fun y0 =>
  Option.bind (RN N (y0.1, y0.2.1, y0.2.2.1)) fun y1 =>
  ac (!y1) (
  some (.inl ((ByteArray.mk #[], (1 : Int))))) (
  ac (y0.2.1 == 0) (
  ac (decide ((List.length x4 + List.length [IntKind.wrap .u8 y0.1]) * 1 ≤ (140737488355328 : Nat) ∧ List.length x4 + List.length [IntKind.wrap .u8 y0.1] ≤ 140737488355328)) (
  Option.bind (bC N N ((0 : Int), y0.2.1, x3, x2, x1, x0, x4 ++ [IntKind.wrap .u8 y0.1], y0.1, y0.2.1, y0.2.2.1)) fun y2 =>
  Option.bind (f (IntKind.wrap .i64 (y2.1 + 1), y2.2.1, y2.2.2.1, y2.2.2.2.1, y2.2.2.2.2)) fun r => match r with | .inl y => some (.inl y) | .inr y => some (.inr y)) (
  none)) (
  ac (decide (y0.2.2.1 > (↑(List.length x4) : Int))) (
  some (.inl ((ByteArray.mk #[], (60 : Int))))) (
  Option.bind (bC N N ((0 : Int), y0.2.1, x3, x2, x1, x0, x4, y0.1, y0.2.1, y0.2.2.1)) fun y3 =>
  Option.bind (f (IntKind.wrap .i64 (y3.1 + 1), y3.2.1, y3.2.2.1, y3.2.2.2.1, y3.2.2.2.2)) fun r => match r with | .inl y => some (.inl y) | .inr y => some (.inr y))))) (
  none)) (
  some (.inr ((x2, x4))))
noncomputable def ft (N : Nat) : Nat → uZ → Option uD
  | 0, _ => none
  | k + 1, x => pv N (ft N k) x
theorem DI (N : Nat) (k : Nat) : ap Tryz.prog Tryz.f152 [] 122 (vt.cut (ft N k)) :=
  vt.loopT ah aB (pE N) Tryz.f152 [] (cuts := [(62670, jN.cut (bC N N))]) ⟨mV N N, trivial⟩ (by decide +kernel) (by kernel_rfl) (pv N) (ft N) (fun _ => rfl) (fun _ _ => rfl) (fun f x => by kernel_rfl) k
@[reducible] def w152 : List SP := [⟨[.tup [.str, .int .i64]], []⟩]
noncomputable def Dk (N : Nat) : (ByteArray × (List (Int × (Int × (Int × Unit))))) → Option (ByteArray × Int)
  | (x0, x1) =>
  Option.bind (NX N x0) fun y0 =>
  ac (decide (ByteArray.size y0 ≤ 140737488355328)) (
  Option.bind (ft N N ((0 : Int), (↑(List.length x1) : Int), (↑(List.length (bytesOf y0)) : Int), x1, bytesOf y0)) fun y1 =>
  match y1 with
  | .inl y2 =>
  some ((y2.1, y2.2))
  | .inr y2 =>
  ac (decide ((0 : Int) ≤ y2.1 ∧ y2.1 ≤ (↑(List.length y2.2) : Int))) (
  some ((aN (List.take (List.length y2.2 - Int.toNat y2.1) (List.drop (Int.toNat y2.1) y2.2)), (0 : Int)))) (
  none)) (
  none)
noncomputable def WP (N : Nat) : Pk → Tr Pk := aj s152 w152 (Dk N)
theorem PZ (N : Nat) : aO Tryz.prog 152 (WP N) :=
  (ag ah aB (pE N) Tryz.func152 s152 w152 [] (cuts := [(62670, jN.cut (bC N N)), (122, vt.cut (ft N N))]) ⟨mV N N, DI N N, trivial⟩ (fun _ => by kernel_rfl) (by kernel_rfl) (Dk N) (fun x => by kernel_rfl))
@[reducible] def s123 : SP := ⟨[.adr 0 [], .int .i64, .str, .int .i64], [.var (.agg [.str, .int .i64, .int .i64])]⟩
noncomputable def SH (N : Nat) : au := [(64, Yc N), (149, WR N), (150, WQ N), (151, Qa N), (152, WP N)]
theorem It (N : Nat) : ai Tryz.prog (SH N) := ⟨Nu N, Qc N, Qb N, zN N, PZ N, trivial⟩
@[reducible] def w123 : List SP := [⟨[.tup [.str, .int .i64]], [.var (.agg [.str, .int .i64, .int .i64])]⟩]
noncomputable def wV (N : Nat) : (Int × ByteArray × Int × ByteArray × Int × Int) → Option (ByteArray × Int × ByteArray × Int × Int)
  | (x0, x1, x2, x3, x4, x5) =>
  Option.bind (Xq N ()) fun y0 =>
  ac (x0 == 2) (
  Option.bind (Gf N (x3, x4, x5)) fun y1 =>
  match y1 with
  | .inl y2 =>
  ac (y2.1 != 0) (
  some ((ByteArray.mk #[], y2.1, y2.2.1, y2.2.2.1, y2.2.2.2.1))) (
  Option.bind (wU N (y2.2.2.2.2.1, y2.2.2.2.2.2, x2, y2.2.1, y2.2.2.1, y2.2.2.2.1)) fun y3 =>
  ac (y3.1 != 0) (
  Option.bind (rQ N y3.1) fun y4 =>
  some ((ByteArray.mk #[], y4, y3.2.1, y3.2.2.1, y3.2.2.2.1))) (
  Option.bind (Dk N (x1, y3.2.2.2.2)) fun y5 =>
  some ((y5.1, y5.2, y3.2.1, y3.2.2.1, y3.2.2.2.1))))
  | .inr y2 =>
  ac (y2.2.2.2.1 != 0) (
  some ((ByteArray.mk #[], y2.2.2.2.1, y2.2.2.2.2.1, y2.2.2.2.2.2.1, y2.2.2.2.2.2.2.1))) (
  Option.bind (wU N (List.take y2.1 (List.drop (0 : Nat) y2.2.2.2.2.2.2.2), List.take y2.2.2.1 (List.drop y2.2.1 y2.2.2.2.2.2.2.2), x2, y2.2.2.2.2.1, y2.2.2.2.2.2.1, y2.2.2.2.2.2.2.1)) fun y6 =>
  ac (y6.1 != 0) (
  Option.bind (rQ N y6.1) fun y7 =>
  some ((ByteArray.mk #[], y7, y6.2.1, y6.2.2.1, y6.2.2.2.1))) (
  Option.bind (Dk N (x1, y6.2.2.2.2)) fun y8 =>
  some ((y8.1, y8.2, y6.2.1, y6.2.2.1, y6.2.2.2.1))))) (
  Option.bind (wU N (y0.1, y0.2, x2, x3, x4, x5)) fun y9 =>
  ac (y9.1 != 0) (
  Option.bind (rQ N y9.1) fun y10 =>
  some ((ByteArray.mk #[], y10, y9.2.1, y9.2.2.1, y9.2.2.2.1))) (
  Option.bind (Dk N (x1, y9.2.2.2.2)) fun y11 =>
  some ((y11.1, y11.2, y9.2.1, y9.2.2.1, y9.2.2.2.1))))
noncomputable def W9 (N : Nat) : Pk → Tr Pk := aj s123 w123 (wV N)
theorem Qt (N : Nat) : aO Tryz.prog 123 (W9 N) :=
  (ag ah aB (It N) Tryz.func123 s123 w123 [0] (cuts := []) trivial (fun _ => by kernel_rfl) (by kernel_rfl) (wV N) (fun x => by kernel_rfl))
@[reducible] def s87 : SP := ⟨[.adr 0 [], .str, .int .i64], [.var (.agg [.str, .int .i64, .int .i64])]⟩
noncomputable def Va (N : Nat) : au := [(120, wP N), (121, zO N), (122, Xa N), (123, W9 N)]
theorem KT (N : Nat) : ai Tryz.prog (Va N) := ⟨fL N, gY N, Qu N, Qt N, trivial⟩
@[reducible] def w87 : List SP := [⟨[.tup [.str, .bool, .int .i64, .int .i64]], [.var (.agg [.str, .int .i64, .int .i64])]⟩]
noncomputable def Kr (N : Nat) : (ByteArray × Int × ByteArray × Int × Int) → Option (ByteArray × Bool × Int × Int × ByteArray × Int × Int)
  | (x0, x1, x2, x3, x4) =>
  Option.bind (fT N ((1 : Int), x2, x3, x4)) fun y0 =>
  Option.bind (fT N ((2 : Int), y0.2.1, y0.2.2.1, y0.2.2.2)) fun y1 =>
  Option.bind (d9 N (y1.2.1, y1.2.2.1, y1.2.2.2, ())) fun y2 =>
  ac (y2 != 0) (
  some ((ByteArray.mk #[], false, (0 : Int), y2, y1.2.1, y1.2.2.1, y1.2.2.2))) (
  ac (y1.1 == 0) (
  Option.bind (Gi N (x1, y1.2.1, y1.2.2.1, y1.2.2.2)) fun y3 =>
  ac (y3.2.1 != 0) (
  some ((ByteArray.mk #[], false, (0 : Int), y3.2.1, y3.2.2.1, y3.2.2.2.1, y3.2.2.2.2))) (
  some ((y3.1, y0.1 == 1, y1.1, (0 : Int), y3.2.2.1, y3.2.2.2.1, y3.2.2.2.2)))) (
  ac (y1.1 == 1) (
  Option.bind (wV N (y1.1, x0, x1, y1.2.1, y1.2.2.1, y1.2.2.2)) fun y4 =>
  ac (y4.2.1 != 0) (
  some ((ByteArray.mk #[], false, (0 : Int), y4.2.1, y4.2.2.1, y4.2.2.2.1, y4.2.2.2.2))) (
  some ((y4.1, y0.1 == 1, y1.1, (0 : Int), y4.2.2.1, y4.2.2.2.1, y4.2.2.2.2)))) (
  ac (y1.1 == 2) (
  Option.bind (wV N (y1.1, x0, x1, y1.2.1, y1.2.2.1, y1.2.2.2)) fun y5 =>
  ac (y5.2.1 != 0) (
  some ((ByteArray.mk #[], false, (0 : Int), y5.2.1, y5.2.2.1, y5.2.2.2.1, y5.2.2.2.2))) (
  some ((y5.1, y0.1 == 1, y1.1, (0 : Int), y5.2.2.1, y5.2.2.2.1, y5.2.2.2.2)))) (
  some ((ByteArray.mk #[], false, (0 : Int), (80 : Int), y1.2.1, y1.2.2.1, y1.2.2.2))))))
noncomputable def X3 (N : Nat) : Pk → Tr Pk := aj s87 w87 (Kr N)
theorem Nl (N : Nat) : aO Tryz.prog 87 (X3 N) :=
  (ag ah aB (KT N) Tryz.func87 s87 w87 [0] (cuts := []) trivial (fun _ => by kernel_rfl) (by kernel_rfl) (Kr N) (fun x => by kernel_rfl))
@[reducible] def s41 : SP := ⟨[.str, .str, .int .i64], []⟩
noncomputable def VF (N : Nat) : au := [(85, X4 N), (86, XF N), (88, UJ N), (87, X3 N)]
theorem BI (N : Nat) : ai Tryz.prog (VF N) := ⟨Nm N, E3 N, uo N, Nl N, trivial⟩
@[reducible] def AQ : LD := ⟨124, [10, 9, 8, 0, 2], [(.ret, [6, 7]), (.exit 0, [10, 9])], ⟨[.bool, .str, .adr 0 [], .str, .int .i64], [.var (.agg [.str, .int .i64, .int .i64])]⟩, [(.ret, ⟨[.str, .int .i64], []⟩), (.exit 0, ⟨[.bool, .str], []⟩)]⟩
abbrev As : Type := Bool × ByteArray × ByteArray × Int × ByteArray × Int × Int
abbrev zW : Type := ((ByteArray × Int) ⊕ (Bool × ByteArray))
noncomputable def mz (N : Nat) (f : As → Option zW) : As → Option zW
  | (x0, x1, x2, x3, x4, x5, x6) =>
  Option.bind (OH N (x4, x5, x6, ())) fun y0 =>
  ac (decide (y0 > 0)) (
  ac (decide ((↑(ByteArray.size x2 + ByteArray.size x1) : Int) > (9223372036854775807 : Int))) (
  none) (
  Option.bind (NX N (x2 ++ x1)) fun y1 =>
  Option.bind (Kr N (y1, IntKind.wrap .i64 (x3 - (↑(ByteArray.size x1) : Int)), x4, x5, x6)) fun y2 =>
  ac (y2.2.2.2.1 != 0) (
  some (.inl ((ByteArray.mk #[], y2.2.2.2.1)))) (
  ac y2.2.1 (
  some (.inl ((ByteArray.mk #[], (81 : Int))))) (
  ac (decide ((↑(ByteArray.size x1 + ByteArray.size y2.1) : Int) > (9223372036854775807 : Int))) (
  none) (
  ac (y2.2.2.1 == 0) (
  Option.bind (f (ByteArray.toList y2.1 == [], x1 ++ y2.1, x2, x3, y2.2.2.2.2.1, y2.2.2.2.2.2.1, y2.2.2.2.2.2.2)) fun r => match r with | .inl y => some (.inl y) | .inr y => some (.inr y)) (
  Option.bind (f (false, x1 ++ y2.1, x2, x3, y2.2.2.2.2.1, y2.2.2.2.2.2.1, y2.2.2.2.2.2.2)) fun r => match r with | .inl y => some (.inl y) | .inr y => some (.inr y))))))) (
  some (.inr ((x0, x1))))
noncomputable def bw (N : Nat) : Nat → As → Option zW
  | 0, _ => none
  | k + 1, x => mz N (bw N k) x
theorem Gr (N : Nat) (k : Nat) : ap Tryz.prog Tryz.f41 [] 124 (AQ.cut (bw N k)) :=
  AQ.loopT ah aB (BI N) Tryz.f41 [] (cuts := []) trivial (by decide +kernel) (by kernel_rfl) (mz N) (bw N) (fun _ => rfl) (fun _ _ => rfl) (fun f x => by kernel_rfl) k
@[reducible] def w41 : List SP := [⟨[.tup [.str, .int .i64]], []⟩]
noncomputable def RI (N : Nat) : (ByteArray × ByteArray × Int) → Option (ByteArray × Int)
  | (x0, x1, x2) =>
  Option.bind (UO N x1) fun y0 =>
  Option.bind (bw N N (false, ByteArray.mk #[], x0, x2, y0.1, y0.2.1, y0.2.2)) fun y1 =>
  match y1 with
  | .inl y2 =>
  some ((y2.1, y2.2))
  | .inr y2 =>
  ac (!y2.1) (
  some ((ByteArray.mk #[], (81 : Int)))) (
  some ((y2.2, (0 : Int))))
noncomputable def YR (N : Nat) : Pk → Tr Pk := aj s41 w41 (RI N)
theorem TO (N : Nat) : aO Tryz.prog 41 (YR N) :=
  (ag ah aB (BI N) Tryz.func41 s41 w41 [] (cuts := [(124, AQ.cut (bw N N))]) ⟨Gr N N, trivial⟩ (fun _ => by kernel_rfl) (by kernel_rfl) (RI N) (fun x => by kernel_rfl))
@[reducible] def y7 : Ty := (.cons (.cons .bool (.cons .str .unit)) (.cons (.int .i64) .unit))
@[reducible] def s89 : SP := ⟨[.radr y7 [.i 0 3], .str, .int .i64], []⟩
noncomputable def U8 (N : Nat) : au := [(35, XH N), (41, YR N)]
theorem KR (N : Nat) : ai Tryz.prog (U8 N) := ⟨E5 N, TO N, trivial⟩
@[reducible] def w89 : List SP := [⟨[.tup [.str, .int .i64]], []⟩]
noncomputable def UN (N : Nat) : (((Bool × (ByteArray × Unit)) × (Int × Unit)) × ByteArray × Int) → Option (ByteArray × Int)
  | (x0, x1, x2) =>
  ac (!x0.1.1) (
  Option.bind (FU N x1) fun y0 =>
  ac (y0 != 0) (
  some ((ByteArray.mk #[], y0))) (
  ac (decide ((0 : Int) ≤ (2 : Int) ∧ (2 : Int) ≤ (↑(ByteArray.size x1) : Int))) (
  Option.bind (RI N (x0.1.2.1, ByteArray.extract x1 (2 : Nat) (ByteArray.size x1), x2)) fun y1 =>
  some ((y1.1, y1.2))) (
  none))) (
  Option.bind (RI N (x0.1.2.1, x1, x2)) fun y2 =>
  some ((y2.1, y2.2)))
noncomputable def YH (N : Nat) : Pk → Tr Pk := aj s89 w89 (UN N)
theorem TE (N : Nat) : aO Tryz.prog 89 (YH N) :=
  (ag ah aB (KR N) Tryz.func89 s89 w89 [] (cuts := []) trivial (fun _ => by kernel_rfl) (by kernel_rfl) (UN N) (fun x => by kernel_rfl))
@[reducible] def s42 : SP := ⟨[.adr 0 [], .str, .int .i64], [.var (.agg [.agg [.bool, .str], .int .i64])]⟩
noncomputable def VE (N : Nat) : au := [(89, YH N), (80, X6 N)]
theorem Le (N : Nat) : ai Tryz.prog (VE N) := ⟨TE N, No N, trivial⟩
@[reducible] def w42 : List SP := [⟨[.tup [.str, .int .i64]], [.var (.agg [.agg [.bool, .str], .int .i64])]⟩]
noncomputable def FT (N : Nat) : (ByteArray × Int × Bool × ByteArray × Int) → Option (ByteArray × Int × Bool × ByteArray × Int)
  | (x0, x1, x2, x3, x4) =>
  ac (x4 != 0) (
  some ((ByteArray.mk #[], x4, x2, x3, x4))) (
  Option.bind (UN N (((x2, x3, ()), x4, ()), x0, x1)) fun y0 =>
  ac (decide ((↑(ByteArray.size x3 + ByteArray.size y0.1) : Int) > (9223372036854775807 : Int))) (
  none) (
  Option.bind (NX N (x3 ++ y0.1)) fun y1 =>
  some ((y0.1, y0.2, true, y1, y0.2))))
noncomputable def Yn (N : Nat) : Pk → Tr Pk := aj s42 w42 (FT N)
theorem NF (N : Nat) : aO Tryz.prog 42 (Yn N) :=
  (ag ah aB (Le N) Tryz.func42 s42 w42 [0] (cuts := []) trivial (fun _ => by kernel_rfl) (by kernel_rfl) (FT N) (fun x => by kernel_rfl))
@[reducible] def s145 : SP := ⟨[.int .i64], []⟩
noncomputable def Sr (N : Nat) : au := []
theorem Ic (N : Nat) : ai Tryz.prog (Sr N) := trivial
@[reducible] def w145 : List SP := [⟨[.tup [.int .i64, .int .i64]], []⟩]
noncomputable def Uv (N : Nat) : (Int) → Option (Int × Int)
  | x0 =>
  some ((IntKind.wrap .i64 (↑(BitVec.toNat (BitVec.ofInt (64 : Nat) x0 &&& BitVec.ofInt (64 : Nat) (65535 : Int))) : Int), IntKind.wrap .i64 (↑(BitVec.toNat (BitVec.ofInt (64 : Nat) (Int.fdiv x0 (65536 : Int)) &&& BitVec.ofInt (64 : Nat) (65535 : Int))) : Int)))
noncomputable def WV (N : Nat) : Pk → Tr Pk := aj s145 w145 (Uv N)
theorem Qf (N : Nat) : aO Tryz.prog 145 (WV N) :=
  (ag ah aB (Ic N) Tryz.func145 s145 w145 [] (cuts := []) trivial (fun _ => by kernel_rfl) (by kernel_rfl) (Uv N) (fun x => by kernel_rfl))
@[reducible] def s117 : SP := ⟨[.int .i64, .str], []⟩
noncomputable def SL (N : Nat) : au := [(145, WV N)]
theorem pH (N : Nat) : ai Tryz.prog (SL N) := ⟨Qf N, trivial⟩
@[reducible] def ml : LD := ⟨3626, [5, 6, 21, 20, 7, 1], [(.ret, [4]), (.exit 2, [5, 6, 1, 7]), (.exit 1, [5, 6, 1]), (.exit 0, [6, 5])], ⟨[.int .i64, .int .i64, .int .i64, .int .i64, .int .i64, .str], []⟩, [(.exit 2, ⟨[.int .i64, .int .i64, .str, .int .i64], []⟩)]⟩
abbrev qE : Type := Int × Int × Int × Int × Int × ByteArray
abbrev qt : Type := Int × Int × ByteArray × Int
noncomputable def yE (N : Nat) (f : qE → Option qt) : qE → Option qt
  | (x0, x1, x2, x3, x4, x5) =>
  ac (decide (x2 < x3)) (
  ac (decide ((0 : Int) ≤ x2)) (
  Option.bind (x5[Int.toNat x2]?) fun y0 =>
  Option.bind (f (IntKind.wrap .i64 (x0 + IntKind.wrap .i64 (↑(UInt8.toNat y0) : Int)), IntKind.wrap .i64 (x1 + IntKind.wrap .i64 (x0 + IntKind.wrap .i64 (↑(UInt8.toNat y0) : Int))), IntKind.wrap .i64 (x2 + 1), x3, x4, x5)) fun r => some r) (
  none)) (
  some ((x0, x1, x5, x4)))
noncomputable def gf (N : Nat) : Nat → qE → Option qt
  | 0, _ => none
  | k + 1, x => yE N (gf N k) x
theorem pe (N : Nat) (k : Nat) : ap Tryz.prog Tryz.f117 [] 3626 (ml.cut (gf N k)) :=
  ml.loopT ah aB (pH N) Tryz.f117 [] (cuts := []) trivial (by decide +kernel) (by kernel_rfl) (yE N) (gf N) (fun _ => rfl) (fun _ _ => rfl) (fun f x => by kernel_rfl) k
@[reducible] def AY : LD := ⟨28, [5, 6, 1], [(.ret, [4]), (.exit 0, [6, 5])], ⟨[.int .i64, .int .i64, .str], []⟩, [(.exit 0, ⟨[.int .i64, .int .i64], []⟩)]⟩
abbrev AE : Type := Int × Int × ByteArray
abbrev Ag : Type := Int × Int
noncomputable def HK (N : Nat) (f : AE → Option Ag) : AE → Option Ag
  | (x0, x1, x2) =>
  ac (decide ((↑(ByteArray.size x2) : Int) > (0 : Int))) (
  Option.bind (gf N N (x0, x1, (0 : Int), if (4096 : Int) < (↑(ByteArray.size x2) : Int) then (4096 : Int) else (↑(ByteArray.size x2) : Int), if (4096 : Int) < (↑(ByteArray.size x2) : Int) then (4096 : Int) else (↑(ByteArray.size x2) : Int), x2)) fun y0 =>
  ac (decide ((0 : Int) ≤ y0.2.2.2 ∧ y0.2.2.2 ≤ (↑(ByteArray.size y0.2.2.1) : Int))) (
  Option.bind (f (Int.tmod y0.1 (65521 : Int), Int.tmod y0.2.1 (65521 : Int), ByteArray.extract y0.2.2.1 (Int.toNat y0.2.2.2) (ByteArray.size y0.2.2.1))) fun r => some r) (
  none)) (
  some ((x1, x0)))
noncomputable def o8 (N : Nat) : Nat → AE → Option Ag
  | 0, _ => none
  | k + 1, x => HK N (o8 N k) x
theorem Gz (N : Nat) (k : Nat) : ap Tryz.prog Tryz.f117 [] 28 (AY.cut (o8 N k)) :=
  AY.loopT ah aB (pH N) Tryz.f117 [] (cuts := [(3626, ml.cut (gf N N))]) ⟨pe N N, trivial⟩ (by decide +kernel) (by kernel_rfl) (HK N) (o8 N) (fun _ => rfl) (fun _ _ => rfl) (fun f x => by kernel_rfl) k
@[reducible] def w117 : List SP := [⟨[.int .i64], []⟩]
noncomputable def UA (N : Nat) : (Int × ByteArray) → Option (Int)
  | (x0, x1) =>
  Option.bind (Uv N x0) fun y0 =>
  Option.bind (o8 N N (y0.1, y0.2, x1)) fun y1 =>
  some (IntKind.wrap .i64 (↑(BitVec.toNat (BitVec.ofInt (64 : Nat) (IntKind.wrap .i64 (y1.1 * 65536)) ||| BitVec.ofInt (64 : Nat) y1.2)) : Int))
noncomputable def Xb (N : Nat) : Pk → Tr Pk := aj s117 w117 (UA N)
theorem Qv (N : Nat) : aO Tryz.prog 117 (Xb N) :=
  (ag ah aB (pH N) Tryz.func117 s117 w117 [] (cuts := [(3626, ml.cut (gf N N)), (28, AY.cut (o8 N N))]) ⟨pe N N, Gz N N, trivial⟩ (fun _ => by kernel_rfl) (by kernel_rfl) (UA N) (fun x => by kernel_rfl))
@[reducible] def s82 : SP := ⟨[.ro (.str)], []⟩
noncomputable def Ve (N : Nat) : au := [(117, Xb N)]
theorem BE (N : Nat) : ai Tryz.prog (Ve N) := ⟨Qv N, trivial⟩
@[reducible] def FH : LD := ⟨58, [3, 8, 7, 6], [(.ret, [2]), (.exit 0, [3])], ⟨[.int .i64, .int .i64, .int .i64, .ro (.str)], []⟩, [(.exit 0, ⟨[.int .i64], []⟩)]⟩
abbrev Fu : Type := Int × Int × Int × (List ByteArray)
abbrev Fb : Type := Int
noncomputable def OD (N : Nat) (f : Fu → Option Fb) : Fu → Option Fb
  | (x0, x1, x2, x3) =>
  ac (decide (x1 < x2)) (
  ac (within x1 (List.length x3)) (
  Option.bind (x3[Int.toNat x1]?) fun y0 =>
  Option.bind (UA N (x0, y0)) fun y1 =>
  Option.bind (f (y1, IntKind.wrap .i64 (x1 + 1), x2, x3)) fun r => some r) (
  none)) (
  some (x0))
noncomputable def vH (N : Nat) : Nat → Fu → Option Fb
  | 0, _ => none
  | k + 1, x => OD N (vH N k) x
theorem Kf (N : Nat) (k : Nat) : ap Tryz.prog Tryz.f82 [] 58 (FH.cut (vH N k)) :=
  FH.loopT ah aB (BE N) Tryz.f82 [] (cuts := []) trivial (by decide +kernel) (by kernel_rfl) (OD N) (vH N) (fun _ => rfl) (fun _ _ => rfl) (fun f x => by kernel_rfl) k
@[reducible] def w82 : List SP := [⟨[.int .i64], []⟩]
noncomputable def XI (N : Nat) : ((List ByteArray)) → Option (Int)
  | x0 =>
  Option.bind (vH N N ((1 : Int), (0 : Int), (↑(List.length x0) : Int), x0)) fun y0 =>
  some (y0)
noncomputable def X5 (N : Nat) : Pk → Tr Pk := aj s82 w82 (XI N)
theorem Nn (N : Nat) : aO Tryz.prog 82 (X5 N) :=
  (ag ah aB (BE N) Tryz.func82 s82 w82 [] (cuts := [(58, FH.cut (vH N N))]) ⟨Kf N N, trivial⟩ (fun _ => by kernel_rfl) (by kernel_rfl) (XI N) (fun x => by kernel_rfl))
@[reducible] def s116 : SP := ⟨[.int .i64, .int .i64], []⟩
noncomputable def SN (N : Nat) : au := [(141, Ud N)]
theorem xm (N : Nat) : ai Tryz.prog (SN N) := ⟨Hq N, trivial⟩
@[reducible] def vB : LD := ⟨122, [25, 24, 6, 1], [(.ret, [4, 5]), (.exit 0, [6])], ⟨[.int .i64, .int .i64, .sl 0, .int .i64], [.row (.int .u8) 5]⟩, [(.exit 0, ⟨[.sl 0], [.row (.int .u8) 5]⟩)]⟩
abbrev vb : Type := Int × Int × Int × (List Int)
abbrev uL : Type := (List Int)
noncomputable def DY (N : Nat) (f : vb → Option uL) : vb → Option uL
  | (x0, x1, x2, x3) =>
  ac (decide (x0 < x1)) (
  ac (decide (IntKind.wrap .i64 ((8 : Int) * x0) < 0)) (
  none) (
  ac (within x0 (List.length x3)) (
  Option.bind (x3[Int.toNat x0]?) fun y0 =>
  Option.bind (f (IntKind.wrap .i64 (x0 + 1), x1, x2, List.set x3 (Int.toNat x0) (IntKind.wrap .u8 (Int.fdiv x2 ((2 : Int) ^ min (Int.toNat (IntKind.wrap .i64 ((8 : Int) * x0))) (64 : Nat)))))) fun r => some r) (
  none))) (
  some (x3))
noncomputable def lH (N : Nat) : Nat → vb → Option uL
  | 0, _ => none
  | k + 1, x => DY N (lH N k) x
theorem DT (N : Nat) (k : Nat) : ap Tryz.prog Tryz.f116 [] 122 (vB.cut (lH N k)) :=
  vB.loopT ah aB (xm N) Tryz.f116 [] (cuts := []) trivial (by decide +kernel) (by kernel_rfl) (DY N) (lH N) (fun _ => rfl) (fun _ _ => rfl) (fun f x => by kernel_rfl) k
@[reducible] def w116 : List SP := [⟨[.tup [.str, .int .i64]], []⟩]
noncomputable def UB (N : Nat) : (Int × Int) → Option (ByteArray × Int)
  | (x0, x1) =>
  Option.bind (JW N x0) fun y0 =>
  ac (!y0) (
  some ((ByteArray.mk #[], (1 : Int)))) (
  ac (decide (x1 < 0)) (
  some ((ByteArray.mk #[], (1 : Int)))) (
  ac (decide (IntKind.wrap .i64 ((8 : Int) * x0) < 0)) (
  none) (
  ac (Int.fdiv x1 ((2 : Int) ^ min (Int.toNat (IntKind.wrap .i64 ((8 : Int) * x0))) (64 : Nat)) != 0) (
  some ((ByteArray.mk #[], (1 : Int)))) (
  ac (decide ((0 : Int) ≤ x0 ∧ x0 ≤ x0 ∧ x0 * 1 ≤ (140737488355328 : Int) ∧ x0 ≤ 140737488355328)) (
  Option.bind (lH N N ((0 : Int), x0, x1, List.replicate (Int.toNat x0) (0 : Int))) fun y1 =>
  some ((aN y1, (0 : Int)))) (
  none)))))
noncomputable def Xc (N : Nat) : Pk → Tr Pk := aj s116 w116 (UB N)
theorem Qw (N : Nat) : aO Tryz.prog 116 (Xc N) :=
  (ag ah aB (xm N) Tryz.func116 s116 w116 [] (cuts := [(122, vB.cut (lH N N))]) ⟨DT N N, trivial⟩ (fun _ => by kernel_rfl) (by kernel_rfl) (UB N) (fun x => by kernel_rfl))
@[reducible] def s81 : SP := ⟨[.int .i64, .int .i64], []⟩
noncomputable def Vf (N : Nat) : au := [(116, Xc N), (115, Uj N)]
theorem KW (N : Nat) : ai Tryz.prog (Vf N) := ⟨Qw N, Hu N, trivial⟩
@[reducible] def w81 : List SP := [⟨[.tup [.str, .int .i64]], []⟩]
noncomputable def Yu (N : Nat) : (Int × Int) → Option (ByteArray × Int)
  | (x0, x1) =>
  Option.bind (UB N (x0, x1)) fun y0 =>
  Option.bind (A8 N y0.1) fun y1 =>
  some ((y1, y0.2))
noncomputable def YI (N : Nat) : Pk → Tr Pk := aj s81 w81 (Yu N)
theorem TF (N : Nat) : aO Tryz.prog 81 (YI N) :=
  (ag ah aB (KW N) Tryz.func81 s81 w81 [] (cuts := []) trivial (fun _ => by kernel_rfl) (by kernel_rfl) (Yu N) (fun x => by kernel_rfl))
@[reducible] def s39 : SP := ⟨[.str], []⟩
noncomputable def VG (N : Nat) : au := [(82, X5 N), (81, YI N), (30, YV N)]
theorem Lh (N : Nat) : ai Tryz.prog (VG N) := ⟨Nn N, TF N, TS N, trivial⟩
@[reducible] def w39 : List SP := [⟨[.str], []⟩]
noncomputable def XK (N : Nat) : (ByteArray) → Option (ByteArray)
  | x0 =>
  Option.bind (XI N [x0]) fun y0 =>
  Option.bind (Yu N ((4 : Int), y0)) fun y1 =>
  Option.bind (Yv N (ByteArray.mk #[], x0)) fun y2 =>
  ac (decide ((↑((2 : Nat) + ByteArray.size y2) : Int) > (9223372036854775807 : Int))) (
  none) (
  ac (decide ((↑(ByteArray.size (ByteArray.mk #[(120 : UInt8), (156 : UInt8)] ++ y2) + ByteArray.size y1.1) : Int) > (9223372036854775807 : Int))) (
  none) (
  some (ByteArray.mk #[(120 : UInt8), (156 : UInt8)] ++ y2 ++ y1.1)))
noncomputable def YS (N : Nat) : Pk → Tr Pk := aj s39 w39 (XK N)
theorem TP (N : Nat) : aO Tryz.prog 39 (YS N) :=
  (ag ah aB (Lh N) Tryz.func39 s39 w39 [] (cuts := []) trivial (fun _ => by kernel_rfl) (by kernel_rfl) (XK N) (fun x => by kernel_rfl))
@[reducible] def s139 : SP := ⟨[.adr 0 [], .str, .int .i64], [.var (.agg [.str, .int .i64, .int .i64])]⟩
noncomputable def Sy (N : Nat) : au := [(87, X3 N)]
theorem Ii (N : Nat) : ai Tryz.prog (Sy N) := ⟨Nl N, trivial⟩
@[reducible] def w139 : List SP := [⟨[.tup [.str, .bool, .int .i64]], [.var (.agg [.str, .int .i64, .int .i64])]⟩]
noncomputable def Ux (N : Nat) : (ByteArray × Int × ByteArray × Int × Int) → Option (ByteArray × Bool × Int × ByteArray × Int × Int)
  | (x0, x1, x2, x3, x4) =>
  Option.bind (Kr N (x0, x1, x2, x3, x4)) fun y0 =>
  some ((y0.1, y0.2.1, y0.2.2.2.1, y0.2.2.2.2.1, y0.2.2.2.2.2.1, y0.2.2.2.2.2.2))
noncomputable def WZ (N : Nat) : Pk → Tr Pk := aj s139 w139 (Ux N)
theorem Qj (N : Nat) : aO Tryz.prog 139 (WZ N) :=
  (ag ah aB (Ii N) Tryz.func139 s139 w139 [0] (cuts := []) trivial (fun _ => by kernel_rfl) (by kernel_rfl) (Ux N) (fun x => by kernel_rfl))
@[reducible] def s140 : SP := ⟨[.radr y6 [.i 0 3]], []⟩
noncomputable def Sx (N : Nat) : au := []
theorem Ih (N : Nat) : ai Tryz.prog (Sx N) := trivial
@[reducible] def w140 : List SP := [⟨[.int .i64], []⟩]
noncomputable def Uw (N : Nat) : ((ByteArray × (Int × (Int × Unit)))) → Option (Int)
  | x0 =>
  some x0.2.1
noncomputable def WY (N : Nat) : Pk → Tr Pk := aj s140 w140 (Uw N)
theorem Qi (N : Nat) : aO Tryz.prog 140 (WY N) :=
  (ag ah aB (Ih N) Tryz.func140 s140 w140 [] (cuts := []) trivial (fun _ => by kernel_rfl) (by kernel_rfl) (Uw N) (fun x => by kernel_rfl))
@[reducible] def s112 : SP := ⟨[.str, .str, .int .i64], []⟩
noncomputable def SS (N : Nat) : au := [(85, X4 N), (88, UJ N), (139, WZ N), (140, WY N)]
theorem xn (N : Nat) : ai Tryz.prog (SS N) := ⟨Nm N, uo N, Qj N, Qi N, trivial⟩
@[reducible] def vC : LD := ⟨122, [11, 9, 0, 2, 10], [(.ret, [6, 7, 8]), (.exit 0, [10, 9])], ⟨[.bool, .adr 0 [], .str, .int .i64, .str], [.var (.agg [.str, .int .i64, .int .i64])]⟩, [(.ret, ⟨[.str, .int .i64, .int .i64], []⟩), (.exit 0, ⟨[.str, .adr 0 []], [.var (.agg [.str, .int .i64, .int .i64])]⟩)]⟩
abbrev vd : Type := Bool × ByteArray × Int × ByteArray × ByteArray × Int × Int
abbrev uM : Type := ((ByteArray × Int × Int) ⊕ (ByteArray × ByteArray × Int × Int))
noncomputable def DZ (N : Nat) (f : vd → Option uM) : vd → Option uM
  | (x0, x1, x2, x3, x4, x5, x6) =>
  ac (!x0) (
  ac (decide ((↑(ByteArray.size x1 + ByteArray.size x3) : Int) > (9223372036854775807 : Int))) (
  none) (
  Option.bind (NX N (x1 ++ x3)) fun y0 =>
  Option.bind (Ux N (y0, IntKind.wrap .i64 (x2 - (↑(ByteArray.size x3) : Int)), x4, x5, x6)) fun y1 =>
  ac (y1.2.2.1 != 0) (
  some (.inl ((ByteArray.mk #[], (0 : Int), y1.2.2.1)))) (
  ac (decide ((↑(ByteArray.size x3 + ByteArray.size y1.1) : Int) > (9223372036854775807 : Int))) (
  none) (
  Option.bind (f (y1.2.1, x1, x2, x3 ++ y1.1, y1.2.2.2.1, y1.2.2.2.2.1, y1.2.2.2.2.2)) fun r => match r with | .inl y => some (.inl y) | .inr y => some (.inr y))))) (
  some (.inr ((x3, x4, x5, x6))))
noncomputable def lI (N : Nat) : Nat → vd → Option uM
  | 0, _ => none
  | k + 1, x => DZ N (lI N k) x
theorem DU (N : Nat) (k : Nat) : ap Tryz.prog Tryz.f112 [] 122 (vC.cut (lI N k)) :=
  vC.loopT ah aB (xn N) Tryz.f112 [] (cuts := []) trivial (by decide +kernel) (by kernel_rfl) (DZ N) (lI N) (fun _ => rfl) (fun _ _ => rfl) (fun f x => by kernel_rfl) k
@[reducible] def w112 : List SP := [⟨[.tup [.str, .int .i64, .int .i64]], []⟩]
noncomputable def UD (N : Nat) : (ByteArray × ByteArray × Int) → Option (ByteArray × Int × Int)
  | (x0, x1, x2) =>
  Option.bind (UO N x1) fun y0 =>
  Option.bind (lI N N (false, x0, x2, ByteArray.mk #[], y0.1, y0.2.1, y0.2.2)) fun y1 =>
  match y1 with
  | .inl y2 =>
  some ((y2.1, y2.2.1, y2.2.2))
  | .inr y2 =>
  Option.bind (Uw N (y2.2.1, y2.2.2.1, y2.2.2.2, ())) fun y3 =>
  some ((y2.1, IntKind.wrap .i64 (Int.tdiv (IntKind.wrap .i64 (y3 + 7)) (8 : Int)), (0 : Int)))
noncomputable def Xf (N : Nat) : Pk → Tr Pk := aj s112 w112 (UD N)
theorem Qz (N : Nat) : aO Tryz.prog 112 (Xf N) :=
  (ag ah aB (xn N) Tryz.func112 s112 w112 [] (cuts := [(122, vC.cut (lI N N))]) ⟨DU N N, trivial⟩ (fun _ => by kernel_rfl) (by kernel_rfl) (UD N) (fun x => by kernel_rfl))
@[reducible] def s113 : SP := ⟨[.radr y6 [.i 0 3]], []⟩
noncomputable def SR (N : Nat) : au := []
theorem Ix (N : Nat) : ai Tryz.prog (SR N) := trivial
@[reducible] def w113 : List SP := [⟨[.int .i64], []⟩]
noncomputable def UC (N : Nat) : ((ByteArray × (Int × (Int × Unit)))) → Option (Int)
  | x0 =>
  some x0.2.1
noncomputable def Xe (N : Nat) : Pk → Tr Pk := aj s113 w113 (UC N)
theorem Qy (N : Nat) : aO Tryz.prog 113 (Xe N) :=
  (ag ah aB (Ix N) Tryz.func113 s113 w113 [] (cuts := []) trivial (fun _ => by kernel_rfl) (by kernel_rfl) (UC N) (fun x => by kernel_rfl))
@[reducible] def s76 : SP := ⟨[.str, .int .i64], []⟩
noncomputable def Vj (N : Nat) : au := [(35, XH N), (112, Xf N), (77, X9 N), (78, X8 N), (79, X7 N), (82, X5 N), (113, Xe N)]
theorem K2 (N : Nat) : ai Tryz.prog (Vj N) := ⟨E5 N, Qz N, Nr N, Nq N, Np N, Nn N, Qy N, trivial⟩
@[reducible] def w76 : List SP := [⟨[.tup [.str, .int .i64, .int .i64]], []⟩]
noncomputable def XJ (N : Nat) : (ByteArray × Int) → Option (ByteArray × Int × Int)
  | (x0, x1) =>
  Option.bind (FU N x0) fun y0 =>
  ac (y0 != 0) (
  some ((ByteArray.mk #[], (0 : Int), y0))) (
  ac (decide ((0 : Int) ≤ (2 : Int) ∧ (2 : Int) ≤ (↑(ByteArray.size x0) : Int))) (
  Option.bind (UD N (ByteArray.mk #[], ByteArray.extract x0 (2 : Nat) (ByteArray.size x0), x1)) fun y1 =>
  ac (y1.2.2 != 0) (
  some ((ByteArray.mk #[], (0 : Int), y1.2.2))) (
  ac (decide ((0 : Int) ≤ IntKind.wrap .i64 ((2 : Int) + y1.2.1) ∧ IntKind.wrap .i64 ((2 : Int) + y1.2.1) ≤ (↑(ByteArray.size x0) : Int))) (
  Option.bind (Un N (ByteArray.extract x0 (Int.toNat (IntKind.wrap .i64 ((2 : Int) + y1.2.1))) (ByteArray.size x0))) fun y2 =>
  Option.bind (QN N ((4 : Int), y2.1, y2.2.1, y2.2.2)) fun y3 =>
  Option.bind (QM N (y3.2.1, y3.2.2.1, y3.2.2.2, ())) fun y4 =>
  ac (y4 != 0) (
  Option.bind (QM N (y3.2.1, y3.2.2.1, y3.2.2.2, ())) fun y5 =>
  some ((ByteArray.mk #[], (0 : Int), y5))) (
  Option.bind (XI N [y1.1]) fun y6 =>
  ac (y3.1 != y6) (
  some ((ByteArray.mk #[], (0 : Int), (101 : Int)))) (
  Option.bind (UC N (y3.2.1, y3.2.2.1, y3.2.2.2, ())) fun y7 =>
  some ((y1.1, IntKind.wrap .i64 (IntKind.wrap .i64 ((2 : Int) + y1.2.1) + y7), (0 : Int)))))) (
  none))) (
  none))
noncomputable def YJ (N : Nat) : Pk → Tr Pk := aj s76 w76 (XJ N)
theorem TG (N : Nat) : aO Tryz.prog 76 (YJ N) :=
  (ag ah aB (K2 N) Tryz.func76 s76 w76 [] (cuts := []) trivial (fun _ => by kernel_rfl) (by kernel_rfl) (XJ N) (fun x => by kernel_rfl))
@[reducible] def s43 : SP := ⟨[.radr y7 [.i 0 3]], []⟩
noncomputable def VD (N : Nat) : au := []
theorem Ld (N : Nat) : ai Tryz.prog (VD N) := trivial
@[reducible] def w43 : List SP := [⟨[.int .i64], []⟩]
noncomputable def Ur (N : Nat) : (((Bool × (ByteArray × Unit)) × (Int × Unit))) → Option (Int)
  | x0 =>
  some x0.2.1
noncomputable def Ym (N : Nat) : Pk → Tr Pk := aj s43 w43 (Ur N)
theorem NE (N : Nat) : aO Tryz.prog 43 (Ym N) :=
  (ag ah aB (Ld N) Tryz.func43 s43 w43 [] (cuts := []) trivial (fun _ => by kernel_rfl) (by kernel_rfl) (Ur N) (fun x => by kernel_rfl))
@[reducible] def s34 : SP := ⟨[], []⟩
noncomputable def VJ (N : Nat) : au := [(37, Yo N), (42, Yn N), (39, YS N), (76, YJ N), (35, XH N), (43, Ym N)]
theorem Lk (N : Nat) : ai Tryz.prog (VJ N) := ⟨NG N, NF N, TP N, TG N, E5 N, NE N, trivial⟩
@[reducible] def w34 : List SP := [⟨[.bool], []⟩]
noncomputable def UU (N : Nat) : (Unit) → Option (Bool)
  | () =>
  Option.bind (QX N (ByteArray.mk #[(97 : UInt8), (98 : UInt8), (99 : UInt8)], false, ByteArray.mk #[])) fun y0 =>
  Option.bind (FT N (y0.1, (9 : Int), false, ByteArray.mk #[], (0 : Int))) fun y1 =>
  Option.bind (QX N (ByteArray.mk #[(97 : UInt8), (98 : UInt8), (99 : UInt8), (97 : UInt8), (98 : UInt8), (99 : UInt8)], y0.2.1, y0.2.2)) fun y2 =>
  Option.bind (FT N (y2.1, (9 : Int), y1.2.2.1, y1.2.2.2.1, y1.2.2.2.2)) fun y3 =>
  Option.bind (XK N (ByteArray.mk #[(97 : UInt8), (98 : UInt8), (99 : UInt8)])) fun y4 =>
  ac (decide ((↑(ByteArray.size y4 + 1) : Int) > (9223372036854775807 : Int))) (
  none) (
  Option.bind (XJ N (y4 ++ ByteArray.mk #[(120 : UInt8)], (9 : Int))) fun y5 =>
  Option.bind (FU N (ByteArray.mk #[(120 : UInt8), (156 : UInt8)])) fun y6 =>
  ac (y6 == 0) (
  Option.bind (FU N (ByteArray.mk #[(120 : UInt8), (157 : UInt8)])) fun y7 =>
  ac (y7 == 100) (
  ac (ByteArray.toList y1.1 == [(97 : UInt8), (98 : UInt8), (99 : UInt8)]) (
  ac (y1.2.1 == 0) (
  ac (ByteArray.toList y3.1 == [(97 : UInt8), (98 : UInt8), (99 : UInt8), (97 : UInt8), (98 : UInt8), (99 : UInt8)]) (
  ac (y3.2.1 == 0) (
  ac (ByteArray.toList y5.1 == [(97 : UInt8), (98 : UInt8), (99 : UInt8)]) (
  ac (decide (y5.2.1 > 6)) (
  ac (y5.2.2 == 0) (
  Option.bind (Ur N ((y3.2.2.1, y3.2.2.2.1, ()), y3.2.2.2.2, ())) fun y8 =>
  some (y8 == 0)) (
  some (false))) (
  some (false))) (
  some (false))) (
  some (false))) (
  some (false))) (
  some (false))) (
  some (false))) (
  some (false))) (
  some (false)))
noncomputable def YT (N : Nat) : Pk → Tr Pk := aj s34 w34 (UU N)
theorem TQ (N : Nat) : aO Tryz.prog 34 (YT N) :=
  (ag ah aB (Lk N) Tryz.func34 s34 w34 [] (cuts := []) trivial (fun _ => by kernel_rfl) (by kernel_rfl) (UU N) (fun x => by kernel_rfl))
noncomputable def RJ (N : Nat) : (ByteArray) → Option (Int)
  | x0 =>
  ac (decide ((↑(ByteArray.size x0) : Int) < (2 : Int))) (
  some ((2 : Int))) (
  Option.bind (x0[(0 : Nat)]?) fun y0 =>
  Option.bind (x0[(1 : Nat)]?) fun y1 =>
  ac (Int.tmod (IntKind.wrap .i64 (↑(UInt8.toNat y0) : Int)) (16 : Int) != (8 : Int)) (
  some ((100 : Int))) (
  ac (decide (IntKind.wrap .i64 (Int.tdiv (IntKind.wrap .i64 (↑(UInt8.toNat y0) : Int)) (16 : Int)) > 7)) (
  some ((100 : Int))) (
  ac (Int.tmod (IntKind.wrap .i64 (Int.tdiv (IntKind.wrap .i64 (↑(UInt8.toNat y1) : Int)) (32 : Int))) (2 : Int) == (1 : Int)) (
  some ((100 : Int))) (
  ac (Int.tmod (IntKind.wrap .i64 (IntKind.wrap .i64 (IntKind.wrap .i64 (↑(UInt8.toNat y0) : Int) * (256 : Int)) + IntKind.wrap .i64 (↑(UInt8.toNat y1) : Int))) (31 : Int) != (0 : Int)) (
  some ((100 : Int))) (
  some ((0 : Int)))))))
@[reducible] def s12 : SP := ⟨[.str, .str, .str], []⟩
noncomputable def VT (N : Nat) : au := [(34, YT N), (42, Yn N), (37, Yo N), (43, Ym N)]
theorem BM (N : Nat) : ai Tryz.prog (VT N) := ⟨TQ N, NF N, NG N, NE N, trivial⟩
@[reducible] def FQ : LD := ⟨31, [0, 1, 2, 7], [(.ret, [6]), (.normal, [6])], ⟨[.str, .str, .str, .bool], []⟩, [(.ret, ⟨[.bool], []⟩)]⟩
noncomputable def vX (N : Nat) : (ByteArray × ByteArray × ByteArray × Bool) → Option (Bool)
  | (x0, x1, x2, x3) =>
  Option.bind (FT N (x0, (5000 : Int), false, ByteArray.mk #[], (0 : Int))) fun y0 =>
  Option.bind (FT N (x1, (5000 : Int), y0.2.2.1, y0.2.2.2.1, y0.2.2.2.2)) fun y1 =>
  Option.bind (QX N (x2, false, ByteArray.mk #[])) fun y2 =>
  Option.bind (FT N (y2.1, (5000 : Int), false, ByteArray.mk #[], (0 : Int))) fun y3 =>
  ac (!ByteArray.toList y3.1 == ByteArray.toList x2) (
  some (false)) (
  ac (y3.2.1 != 0) (
  some (false)) (
  ac (y0.2.1 == 0) (
  ac (x3) (
  Option.bind (Ur N ((y1.2.2.1, y1.2.2.2.1, ()), y1.2.2.2.2, ())) fun y4 =>
  some (y4 == y1.2.1)) (
  some (false))) (
  ac (x3) (
  ac (ByteArray.toList y1.1 == []) (
  ac (y1.2.1 == y0.2.1) (
  Option.bind (Ur N ((y1.2.2.1, y1.2.2.2.1, ()), y1.2.2.2.2, ())) fun y5 =>
  some (y5 == y0.2.1)) (
  some (false))) (
  some (false))) (
  some (false)))))
theorem Ko (N : Nat) (k : Nat) : ap Tryz.prog Tryz.f12 [] 31 (FQ.cut (vX N)) :=
  FQ.pieceT ah aB (BM N) Tryz.f12 [] (cuts := []) trivial (by decide +kernel) (by kernel_rfl) (vX N) (fun x => by kernel_rfl)
@[reducible] def w12 : List SP := [⟨[.bool], []⟩]
noncomputable def Uz (N : Nat) : (ByteArray × ByteArray × ByteArray) → Option (Bool)
  | (x0, x1, x2) =>
  Option.bind (UU N ()) fun y0 =>
  ac (!y0) (
  some (false)) (
  ac (decide ((↑(ByteArray.size x0) : Int) > (250 : Int))) (
  some (y0)) (
  ac (decide ((↑(ByteArray.size x1) : Int) > (250 : Int))) (
  some (y0)) (
  ac (decide ((↑(ByteArray.size x2) : Int) > (600 : Int))) (
  some (y0)) (
  Option.bind (vX N (x0, x1, x2, y0)) fun y1 =>
  some (y1)))))
noncomputable def Y4 (N : Nat) : Pk → Tr Pk := aj s12 w12 (Uz N)
theorem Ui (N : Nat) : aO Tryz.prog 12 (Y4 N) :=
  (ag ah aB (BM N) Tryz.func12 s12 w12 [] (cuts := [(31, FQ.cut (vX N))]) ⟨Ko N N, trivial⟩ (fun _ => by kernel_rfl) (by kernel_rfl) (Uz N) (fun x => by kernel_rfl))
end Go.Proofs.YteddgkplkjldcaaGreat.Am
