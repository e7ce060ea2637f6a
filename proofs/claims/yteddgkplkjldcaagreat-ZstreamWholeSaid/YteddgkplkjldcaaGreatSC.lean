/- The seat's Go functions come to the Lean functions written here, wherever these give an answer (part C). -/
import Derived.Test.YteddgkplkjldcaaGreatSB
set_option linter.unusedSimpArgs false
set_option linter.unusedVariables false
set_option maxRecDepth 100000
namespace Go.Proofs.YteddgkplkjldcaaGreat.Am
open Go.Am
@[reducible] def s120 : SP := ⟨[.adr 0 [], .int .i64], [.var (.agg [.str, .int .i64, .int .i64])]⟩
noncomputable def WW (N : Nat) : av := [(44, T44 N), (146, Yq N)]
theorem zr (N : Nat) : aj Tryz.prog (WW N) := ⟨HU N, Kj N, trivial⟩
@[reducible] def xP : LD := ⟨250, [5, 15, 14, 1, 0], [(.ret, [4]), (.exit 0, [0, 1, 5])], ⟨[.int .i64, .int .i64, .int .i64, .int .i64, .adr 0 []], [.var (.agg [.str, .int .i64, .int .i64])]⟩, [(.exit 0, ⟨[.adr 0 [], .int .i64, .int .i64], [.var (.agg [.str, .int .i64, .int .i64])]⟩)]⟩
abbrev xr : Type := Int × Int × Int × Int × ByteArray × Int × Int
abbrev wR : Type := Int × Int × ByteArray × Int × Int
noncomputable def qK (N : Nat) (f : xr → Option wR) : xr → Option wR
  | (x0, x1, x2, x3, x4, x5, x6) =>
  ac (decide (x1 < x2)) (
  ac (decide ((0 : Int) ≤ IntKind.wrap .i64 (Int.tdiv (IntKind.wrap .i64 (x5 + x1)) (8 : Int)))) (
  Option.bind (x4[Int.toNat (IntKind.wrap .i64 (Int.tdiv (IntKind.wrap .i64 (x5 + x1)) (8 : Int)))]?) fun y0 =>
  ac (decide (Int.tmod (IntKind.wrap .i64 (x5 + x1)) (8 : Int) < (0 : Int))) (
  none) (
  ac (decide (x1 < 0)) (
  none) (
  Option.bind (f (IntKind.wrap .i64 (↑(BitVec.toNat (BitVec.ofInt (64 : Nat) x0 ||| BitVec.ofInt (64 : Nat) (IntKind.wrap .i64 (IntKind.wrap .i64 (↑(BitVec.toNat (BitVec.ofInt (64 : Nat) (Int.fdiv (IntKind.wrap .i64 (↑(UInt8.toNat y0) : Int)) ((2 : Int) ^ min (Int.toNat (Int.tmod (IntKind.wrap .i64 (x5 + x1)) (8 : Int))) (64 : Nat))) &&& BitVec.ofInt (64 : Nat) (1 : Int))) : Int) * (2 : Int) ^ min (Int.toNat x1) (64 : Nat))))) : Int), IntKind.wrap .i64 (x1 + 1), x2, x3, x4, x5, x6)) fun r => some r))) (
  none)) (
  some ((x3, x0, x4, x5, x6)))
noncomputable def fY (N : Nat) : Nat → xr → Option wR
  | 0, _ => none
  | k + 1, x => qK N (fY N k) x
theorem GH (N : Nat) (k : Nat) : ar Tryz.prog Tryz.f120 [0] 250 (xP.cut (fY N k)) :=
  xP.loopT ai aA (zr N) Tryz.f120 [0] (cuts := []) trivial (by decide +kernel) (by kernel_rfl) (qK N) (fY N) (fun _ => rfl) (fun _ _ => rfl) (fun f x => by kernel_rfl) k
@[reducible] def w120 : List SP := [⟨[.int .i64], [.var (.agg [.str, .int .i64, .int .i64])]⟩]
noncomputable def iA (N : Nat) : (Int × ByteArray × Int × Int) → Option (Int × ByteArray × Int × Int)
  | (x0, x1, x2, x3) =>
  Option.bind (Zb N x0) fun y0 =>
  Option.bind (yj N (y0, x1, x2, x3)) fun y1 =>
  ac (!y1.1) (
  some (((0 : Int), y1.2.1, y1.2.2.1, y1.2.2.2))) (
  Option.bind (fY N N ((0 : Int), (0 : Int), y0, y0, y1.2.1, y1.2.2.1, y1.2.2.2)) fun y2 =>
  some ((y2.2.1, y2.2.2.1, IntKind.wrap .i64 (y2.2.2.2.1 + y2.1), y2.2.2.2.2)))
noncomputable def yU (N : Nat) : Pk → Tr Pk := ak s120 w120 (iA N)
theorem gv (N : Nat) : aO Tryz.prog 120 (yU N) :=
  (ah ai aA (zr N) Tryz.func120 s120 w120 [0] (cuts := [(250, xP.cut (fY N N))]) ⟨GH N N, trivial⟩ (fun _ => by kernel_rfl) (by kernel_rfl) (iA N) (fun x => by kernel_rfl))
@[reducible] def s121 : SP := ⟨[.radr y6 [.i 0 3]], []⟩
noncomputable def WV (N : Nat) : av := []
theorem Lx (N : Nat) : aj Tryz.prog (WV N) := trivial
@[reducible] def w121 : List SP := [⟨[.int .i64], []⟩]
noncomputable def gH (N : Nat) : ((ByteArray × (Int × (Int × Unit)))) → Option (Int)
  | x0 =>
  some x0.2.2.1
noncomputable def BK (N : Nat) : Pk → Tr Pk := ak s121 w121 (gH N)
theorem iP (N : Nat) : aO Tryz.prog 121 (BK N) :=
  (ah ai aA (Lx N) Tryz.func121 s121 w121 [] (cuts := []) trivial (fun _ => by kernel_rfl) (by kernel_rfl) (gH N) (fun x => by kernel_rfl))
@[reducible] def s162 : SP := ⟨[.radr y6 [.i 0 3]], []⟩
noncomputable def Wl (N : Nat) : av := []
theorem K1 (N : Nat) : aj Tryz.prog (Wl N) := trivial
@[reducible] def w162 : List SP := [⟨[.int .i64], []⟩]
noncomputable def I5 (N : Nat) : ((ByteArray × (Int × (Int × Unit)))) → Option (Int)
  | x0 =>
  some (Int.tmod (IntKind.wrap .i64 ((8 : Int) - Int.tmod x0.2.1 (8 : Int))) (8 : Int))
noncomputable def Yn (N : Nat) : Pk → Tr Pk := ak s162 w162 (I5 N)
theorem Kg (N : Nat) : aO Tryz.prog 162 (Yn N) :=
  (ah ai aA (K1 N) Tryz.func162 s162 w162 [] (cuts := []) trivial (fun _ => by kernel_rfl) (by kernel_rfl) (I5 N) (fun x => by kernel_rfl))
@[reducible] def s147 : SP := ⟨[.adr 0 []], [.var (.agg [.str, .int .i64, .int .i64])]⟩
noncomputable def Wy (N : Nat) : av := [(162, Yn N), (120, yU N)]
theorem La (N : Nat) : aj Tryz.prog (Wy N) := ⟨Kg N, gv N, trivial⟩
@[reducible] def w147 : List SP := [⟨[.int .i64], [.var (.agg [.str, .int .i64, .int .i64])]⟩]
noncomputable def Vt (N : Nat) : (ByteArray × Int × Int) → Option (Int × ByteArray × Int × Int)
  | (x0, x1, x2) =>
  Option.bind (I5 N (x0, x1, x2, ())) fun y0 =>
  Option.bind (iA N (y0, x0, x1, x2)) fun y1 =>
  some ((y1.1, y1.2.1, y1.2.2.1, y1.2.2.2))
noncomputable def aj0 (N : Nat) : Pk → Tr Pk := ak s147 w147 (Vt N)
theorem Uw (N : Nat) : aO Tryz.prog 147 (aj0 N) :=
  (ah ai aA (La N) Tryz.func147 s147 w147 [0] (cuts := []) trivial (fun _ => by kernel_rfl) (by kernel_rfl) (Vt N) (fun x => by kernel_rfl))
@[reducible] def s148 : SP := ⟨[.adr 0 [], .int .i64], [.var (.agg [.str, .int .i64, .int .i64])]⟩
noncomputable def Wx (N : Nat) : av := [(162, Yn N), (146, Yq N), (86, T86 N)]
theorem K9 (N : Nat) : aj Tryz.prog (Wx N) := ⟨Kg N, Kj N, HS N, trivial⟩
@[reducible] def w148 : List SP := [⟨[.str], [.var (.agg [.str, .int .i64, .int .i64])]⟩]
noncomputable def Sw (N : Nat) : (Int × ByteArray × Int × Int) → Option (ByteArray × ByteArray × Int × Int)
  | (x0, x1, x2, x3) =>
  ac (decide ((if (0 : Int) > x0 then (0 : Int) else x0) > (↑(ByteArray.size x1) : Int))) (
  Option.bind (U8 N (x1, x2, x3, ())) fun y0 =>
  Option.bind (yj N (IntKind.wrap .i64 (y0 + 1), x1, x2, x3)) fun y1 =>
  some ((ByteArray.mk #[], y1.2.1, y1.2.2.1, y1.2.2.2))) (
  Option.bind (I5 N (x1, x2, x3, ())) fun y2 =>
  Option.bind (yj N (IntKind.wrap .i64 (y2 + IntKind.wrap .i64 ((8 : Int) * if (0 : Int) > x0 then (0 : Int) else x0)), x1, x2, x3)) fun y3 =>
  ac (!y3.1) (
  Option.bind (U8 N (y3.2.1, y3.2.2.1, y3.2.2.2, ())) fun y4 =>
  Option.bind (yj N (IntKind.wrap .i64 (y4 + 1), y3.2.1, y3.2.2.1, y3.2.2.2)) fun y5 =>
  some ((ByteArray.mk #[], y5.2.1, y5.2.2.1, y5.2.2.2))) (
  Option.bind (I5 N (y3.2.1, y3.2.2.1, y3.2.2.2, ())) fun y6 =>
  ac (decide ((0 : Int) ≤ IntKind.wrap .i64 (IntKind.wrap .i64 (Int.tdiv (IntKind.wrap .i64 (y3.2.2.1 + y6)) (8 : Int)) + if (0 : Int) > x0 then (0 : Int) else x0) ∧ IntKind.wrap .i64 (IntKind.wrap .i64 (Int.tdiv (IntKind.wrap .i64 (y3.2.2.1 + y6)) (8 : Int)) + if (0 : Int) > x0 then (0 : Int) else x0) ≤ (↑(ByteArray.size y3.2.1) : Int))) (
  ac (decide ((0 : Int) ≤ IntKind.wrap .i64 (Int.tdiv (IntKind.wrap .i64 (y3.2.2.1 + y6)) (8 : Int)) ∧ IntKind.wrap .i64 (Int.tdiv (IntKind.wrap .i64 (y3.2.2.1 + y6)) (8 : Int)) ≤ (↑(Int.toNat (IntKind.wrap .i64 (IntKind.wrap .i64 (Int.tdiv (IntKind.wrap .i64 (y3.2.2.1 + y6)) (8 : Int)) + if (0 : Int) > x0 then (0 : Int) else x0))) : Int))) (
  some ((ByteArray.extract y3.2.1 (Int.toNat (IntKind.wrap .i64 (Int.tdiv (IntKind.wrap .i64 (y3.2.2.1 + y6)) (8 : Int)))) (Int.toNat (IntKind.wrap .i64 (IntKind.wrap .i64 (Int.tdiv (IntKind.wrap .i64 (y3.2.2.1 + y6)) (8 : Int)) + if (0 : Int) > x0 then (0 : Int) else x0))), y3.2.1, IntKind.wrap .i64 ((8 : Int) * IntKind.wrap .i64 (IntKind.wrap .i64 (Int.tdiv (IntKind.wrap .i64 (y3.2.2.1 + y6)) (8 : Int)) + if (0 : Int) > x0 then (0 : Int) else x0)), y3.2.2.2))) (
  none)) (
  none)))
noncomputable def ai9 (N : Nat) : Pk → Tr Pk := ak s148 w148 (Sw N)
theorem Uv (N : Nat) : aO Tryz.prog 148 (ai9 N) :=
  (ah ai aA (K9 N) Tryz.func148 s148 w148 [0] (cuts := []) trivial (fun _ => by kernel_rfl) (by kernel_rfl) (Sw N) (fun x => by kernel_rfl))
@[reducible] def s122 : SP := ⟨[.adr 0 [], .int .i64], [.var (.agg [.str, .int .i64, .int .i64])]⟩
noncomputable def WU (N : Nat) : av := [(147, aj0 N), (120, yU N), (121, BK N), (148, ai9 N)]
theorem Lw (N : Nat) : aj Tryz.prog (WU N) := ⟨Uw N, gv N, iP N, Uv N, trivial⟩
@[reducible] def w122 : List SP := [⟨[.tup [.str, .int .i64]], [.var (.agg [.str, .int .i64, .int .i64])]⟩]
noncomputable def SG (N : Nat) : (Int × ByteArray × Int × Int) → Option (ByteArray × Int × ByteArray × Int × Int)
  | (x0, x1, x2, x3) =>
  Option.bind (Vt N (x1, x2, x3)) fun y0 =>
  Option.bind (iA N ((16 : Int), y0.2.1, y0.2.2.1, y0.2.2.2)) fun y1 =>
  Option.bind (iA N ((16 : Int), y1.2.1, y1.2.2.1, y1.2.2.2)) fun y2 =>
  Option.bind (gH N (y2.2.1, y2.2.2.1, y2.2.2.2, ())) fun y3 =>
  ac (y3 != 0) (
  some ((ByteArray.mk #[], y3, y2.2.1, y2.2.2.1, y2.2.2.2))) (
  ac (IntKind.wrap .i64 (↑(BitVec.toNat (BitVec.ofInt (64 : Nat) y1.1 ^^^ BitVec.ofInt (64 : Nat) y2.1)) : Int) != (65535 : Int)) (
  some ((ByteArray.mk #[], (80 : Int), y2.2.1, y2.2.2.1, y2.2.2.2))) (
  ac (decide (y1.1 > x0)) (
  some ((ByteArray.mk #[], (4 : Int), y2.2.1, y2.2.2.1, y2.2.2.2))) (
  Option.bind (Sw N (y1.1, y2.2.1, y2.2.2.1, y2.2.2.2)) fun y4 =>
  Option.bind (gH N (y4.2.1, y4.2.2.1, y4.2.2.2, ())) fun y5 =>
  some ((y4.1, y5, y4.2.1, y4.2.2.1, y4.2.2.2)))))
noncomputable def ak8 (N : Nat) : Pk → Tr Pk := ak s122 w122 (SG N)
theorem UO (N : Nat) : aO Tryz.prog 122 (ak8 N) :=
  (ah ai aA (Lw N) Tryz.func122 s122 w122 [0] (cuts := []) trivial (fun _ => by kernel_rfl) (by kernel_rfl) (SG N) (fun x => by kernel_rfl))
@[reducible] def s166 : SP := ⟨[.ro (.int .i64)], []⟩
noncomputable def Wh (N : Nat) : av := [(96, T96 N), (97, T97 N)]
theorem qP (N : Nat) : aj Tryz.prog (Wh N) := ⟨QY N, HR N, trivial⟩
@[reducible] def kO : LD := ⟨16018, [34, 33, 0, 32, 6, 7], [(.ret, [2, 3]), (.exit 2, [7, 0, 6]), (.exit 1, [7, 0, 6]), (.exit 0, [6])], ⟨[.int .i64, .int .i64, .ro (.int .i64), .ro (.int .i64), .adr 0 [], .int .i64], [.var (.agg [.arr (.int .i64) 16, .sl 1, .int .i64]), .row (.int .i64) 3]⟩, [(.exit 2, ⟨[.int .i64, .ro (.int .i64), .adr 0 []], [.var (.agg [.arr (.int .i64) 16, .sl 1, .int .i64]), .row (.int .i64) 3]⟩)]⟩
abbrev o8 : Type := Int × Int × (List Int) × (List Int) × Int × (List Int) × Int × (List Int)
abbrev oS : Type := Int × (List Int) × (List Int) × Int × (List Int)
noncomputable def lh (N : Nat) (f : o8 → Option oS) : o8 → Option oS
  | (x0, x1, x2, x3, x4, x5, x6, x7) =>
  ac (decide (x0 < x1)) (
  ac (within x0 (List.length x3)) (
  Option.bind (x3[Int.toNat x0]?) fun y0 =>
  ac (y0 == x4) (
  ac (decide ((List.length x7 + List.length [x0]) * 8 ≤ (140737488355328 : Nat) ∧ List.length x7 + List.length [x0] ≤ 140737488355328)) (
  Option.bind (f (IntKind.wrap .i64 (x0 + 1), x1, x2, x3, x4, x5, x4, x7 ++ [x0])) fun r => some r) (
  none)) (
  Option.bind (f (IntKind.wrap .i64 (x0 + 1), x1, x2, x3, x4, x5, x6, x7)) fun r => some r)) (
  none)) (
  some ((x4, x2, x5, x6, x7)))
noncomputable def cL (N : Nat) : Nat → o8 → Option oS
  | 0, _ => none
  | k + 1, x => lh N (cL N k) x
theorem ot (N : Nat) (k : Nat) : ar Tryz.prog Tryz.f166 [] 16018 (kO.cut (cL N k)) :=
  kO.loopT ai aA (qP N) Tryz.f166 [] (cuts := []) trivial (by decide +kernel) (by kernel_rfl) (lh N) (cL N) (fun _ => rfl) (fun _ _ => rfl) (fun f x => by kernel_rfl) k
@[reducible] def xG : LD := ⟨250, [0, 6, 7], [(.ret, [2, 3]), (.exit 0, [6])], ⟨[.ro (.int .i64), .adr 0 [], .int .i64], [.var (.agg [.arr (.int .i64) 16, .sl 1, .int .i64]), .row (.int .i64) 3]⟩, [(.exit 0, ⟨[.adr 0 []], [.var (.agg [.arr (.int .i64) 16, .sl 1, .int .i64]), .row (.int .i64) 3]⟩)]⟩
abbrev xh : Type := (List Int) × Int × (List Int) × Int × (List Int)
abbrev wE : Type := (List Int) × Int × (List Int)
noncomputable def qG (N : Nat) (f : xh → Option wE) : xh → Option wE
  | (x0, x1, x2, x3, x4) =>
  ac (decide (x1 ≤ 15)) (
  Option.bind (cL N N ((0 : Int), (↑(List.length x0) : Int), x0, x0, x1, x2, x3, x4)) fun y0 =>
  Option.bind (f (y0.2.1, IntKind.wrap .i64 (y0.1 + 1), y0.2.2.1, y0.2.2.2.1, y0.2.2.2.2)) fun r => some r) (
  some ((x2, x3, x4)))
noncomputable def eO (N : Nat) : Nat → xh → Option wE
  | 0, _ => none
  | k + 1, x => qG N (eO N k) x
theorem Gz (N : Nat) (k : Nat) : ar Tryz.prog Tryz.f166 [] 250 (xG.cut (eO N k)) :=
  xG.loopT ai aA (qP N) Tryz.f166 [] (cuts := [(16018, kO.cut (cL N N))]) ⟨ot N N, trivial⟩ (by decide +kernel) (by kernel_rfl) (qG N) (eO N) (fun _ => rfl) (fun _ _ => rfl) (fun f x => by kernel_rfl) k
@[reducible] def w166 : List SP := [⟨[.tup [.nilp, .int .i64]], []⟩, ⟨[.tup [.adr 0 [], .int .i64]], [.var (.agg [.arr (.int .i64) 16, .sl 1, .int .i64]), .row (.int .i64) 3]⟩]
noncomputable def Gc (N : Nat) : ((List Int)) → Option (((Int) ⊕ (Int × (List Int) × Int × (List Int))))
  | x0 =>
  Option.bind (Y3 N x0) fun y0 =>
  ac (y0.2 != 0) (
  some (.inl y0.2)) (
  Option.bind (YC N x0) fun y1 =>
  Option.bind (eO N N (x0, (1 : Int), y1.1, (0 : Int), [])) fun y2 =>
  some (.inr (((0 : Int), y2.1, y2.2.1, y2.2.2))))
noncomputable def Ym (N : Nat) : Pk → Tr Pk := ak s166 w166 (Gc N)
theorem Kf (N : Nat) : aO Tryz.prog 166 (Ym N) :=
  (ah ai aA (qP N) Tryz.func166 s166 w166 [] (cuts := [(16018, kO.cut (cL N N)), (250, xG.cut (eO N N))]) ⟨ot N N, Gz N N, trivial⟩ (fun _ => by kernel_rfl) (by kernel_rfl) (Gc N) (fun x => by kernel_rfl))
@[reducible] def s151 : SP := ⟨[.int .i64], []⟩
noncomputable def Wu (N : Nat) : av := []
theorem K8 (N : Nat) : aj Tryz.prog (Wu N) := trivial
@[reducible] def w151 : List SP := [⟨[.int .i64], []⟩]
noncomputable def DD (N : Nat) : (Int) → Option (Int)
  | x0 =>
  ac (x0 == 50) (
  some ((80 : Int))) (
  ac (x0 == 3) (
  some ((80 : Int))) (
  some (x0)))
noncomputable def Us (N : Nat) : Pk → Tr Pk := ak s151 w151 (DD N)
theorem BJ (N : Nat) : aO Tryz.prog 151 (Us N) :=
  (ah ai aA (K8 N) Tryz.func151 s151 w151 [] (cuts := []) trivial (fun _ => by kernel_rfl) (by kernel_rfl) (DD N) (fun x => by kernel_rfl))
@[reducible] def s163 : SP := ⟨[.adr 0 [], .int .i64], [.var (.agg [.str, .int .i64, .int .i64])]⟩
noncomputable def Wk (N : Nat) : av := [(58, T58 N), (120, yU N), (121, BK N), (166, Ym N), (151, Us N)]
theorem zm (N : Nat) : aj Tryz.prog (Wk N) := ⟨Re N, gv N, iP N, Kf N, BJ N, trivial⟩
@[reducible] def Dj : LD := ⟨58, [17, 16, 15, 6, 0], [(.ret, [4, 5]), (.exit 0, [0, 6])], ⟨[.int .i64, .int .i64, .slp 1 (.c 0) .h, .sl 2, .adr 0 []], [.var (.agg [.str, .int .i64, .int .i64]), .row (.int .i64) 3, .row (.int .i64) 3]⟩, [(.exit 0, ⟨[.adr 0 [], .sl 1], [.var (.agg [.str, .int .i64, .int .i64]), .row (.int .i64) 3]⟩)]⟩
abbrev CN : Type := Int × Int × Nat × ByteArray × Int × Int × (List Int) × (List Int)
abbrev Cg : Type := ByteArray × Int × Int × (List Int)
noncomputable def uh (N : Nat) (f : CN → Option Cg) : CN → Option Cg
  | (x0, x1, x2, x3, x4, x5, x6, x7) =>
  ac (decide (x0 < x1)) (
  ac (within x0 x2) (
  Option.bind (x6[(0 : Nat) + Int.toNat x0]?) fun y0 =>
  Option.bind (iA N ((3 : Int), x3, x4, x5)) fun y1 =>
  ac (within y0 (List.length x7)) (
  Option.bind (x7[Int.toNat y0]?) fun y2 =>
  Option.bind (f (IntKind.wrap .i64 (x0 + 1), x1, x2, y1.2.1, y1.2.2.1, y1.2.2.2, x6, List.set x7 (Int.toNat y0) y1.1)) fun r => some r) (
  none)) (
  none)) (
  some ((x3, x4, x5, x7)))
noncomputable def iZ (N : Nat) : Nat → CN → Option Cg
  | 0, _ => none
  | k + 1, x => uh N (iZ N k) x
theorem Jv (N : Nat) (k : Nat) : ar Tryz.prog Tryz.f163 [0] 58 (Dj.cut (iZ N k)) :=
  Dj.loopT ai aA (zm N) Tryz.f163 [0] (cuts := []) trivial (by decide +kernel) (by kernel_rfl) (uh N) (iZ N) (fun _ => rfl) (fun _ _ => rfl) (fun f x => by kernel_rfl) k
@[reducible] def w163 : List SP := [⟨[.tup [.nilp, .int .i64]], [.var (.agg [.str, .int .i64, .int .i64])]⟩, ⟨[.tup [.adr 1 [], .int .i64]], [.var (.agg [.str, .int .i64, .int .i64]), .var (.agg [.arr (.int .i64) 16, .sl 2, .int .i64]), .row (.int .i64) 3]⟩]
noncomputable def Sn (N : Nat) : (Int × ByteArray × Int × Int) → Option (((Int × ByteArray × Int × Int) ⊕ (Int × ByteArray × Int × Int × (List Int) × Int × (List Int))))
  | (x0, x1, x2, x3) =>
  Option.bind (F58 N ()) fun y0 =>
  ac (decide ((0 : Int) ≤ x0 ∧ x0 ≤ (↑(List.length y0) : Int))) (
  Option.bind (iZ N N ((0 : Int), (↑(Int.toNat x0 - 0) : Int), Int.toNat x0 - 0, x1, x2, x3, y0, List.replicate (19 : Nat) (0 : Int))) fun y1 =>
  Option.bind (gH N (y1.1, y1.2.1, y1.2.2.1, ())) fun y2 =>
  ac (y2 != 0) (
  some (.inl ((y2, y1.1, y1.2.1, y1.2.2.1)))) (
  Option.bind (Gc N y1.2.2.2) fun y3 =>
  match y3 with
  | .inl y4 =>
  Option.bind (DD N y4) fun y5 =>
  some (.inl ((y5, y1.1, y1.2.1, y1.2.2.1)))
  | .inr y4 =>
  Option.bind (DD N y4.1) fun y6 =>
  some (.inr ((y6, y1.1, y1.2.1, y1.2.2.1, y4.2.1, y4.2.2.1, y4.2.2.2))))) (
  none)
noncomputable def ah8 (N : Nat) : Pk → Tr Pk := ak s163 w163 (Sn N)
theorem Uj (N : Nat) : aO Tryz.prog 163 (ah8 N) :=
  (ah ai aA (zm N) Tryz.func163 s163 w163 [0] (cuts := [(58, Dj.cut (iZ N N))]) ⟨Jv N N, trivial⟩ (fun _ => by kernel_rfl) (by kernel_rfl) (Sn N) (fun x => by kernel_rfl))
@[reducible] def s171 : SP := ⟨[.adr 0 [], .int .i64], [.var (.agg [.arr (.int .i64) 16, .sl 1, .int .i64]), .row (.int .i64) 3]⟩
noncomputable def Wd (N : Nat) : av := []
theorem zk (N : Nat) : aj Tryz.prog (Wd N) := trivial
@[reducible] def Df : LD := ⟨58, [5, 6, 1, 0], [(.ret, [4]), (.exit 0, [5])], ⟨[.int .i64, .int .i64, .int .i64, .adr 0 []], [.var (.agg [.arr (.int .i64) 16, .sl 1, .int .i64]), .row (.int .i64) 3]⟩, [(.exit 0, ⟨[.int .i64], [.var (.agg [.arr (.int .i64) 16, .sl 1, .int .i64]), .row (.int .i64) 3]⟩)]⟩
abbrev CK : Type := Int × Int × Int × (List Int) × Int × (List Int)
abbrev Cd : Type := Int × (List Int) × Int × (List Int)
noncomputable def uf (N : Nat) (f : CK → Option Cd) : CK → Option Cd
  | (x0, x1, x2, x3, x4, x5) =>
  ac (decide (x1 > x2)) (
  ac (within x1 (16 : Nat)) (
  Option.bind (x3[Int.toNat x1]?) fun y0 =>
  Option.bind (f (IntKind.wrap .i64 (Int.tdiv (IntKind.wrap .i64 (IntKind.wrap .i64 (x0 + y0) + 1)) (2 : Int)), IntKind.wrap .i64 (x1 - 1), x2, x3, x4, x5)) fun r => some r) (
  none)) (
  some ((x0, x3, x4, x5)))
noncomputable def iY (N : Nat) : Nat → CK → Option Cd
  | 0, _ => none
  | k + 1, x => uf N (iY N k) x
theorem Js (N : Nat) (k : Nat) : ar Tryz.prog Tryz.f171 [0] 58 (Df.cut (iY N k)) :=
  Df.loopT ai aA (zk N) Tryz.f171 [0] (cuts := []) trivial (by decide +kernel) (by kernel_rfl) (uf N) (iY N) (fun _ => rfl) (fun _ _ => rfl) (fun f x => by kernel_rfl) k
@[reducible] def w171 : List SP := [⟨[.int .i64], [.var (.agg [.arr (.int .i64) 16, .sl 1, .int .i64]), .row (.int .i64) 3]⟩]
noncomputable def Sl (N : Nat) : (Int × (List Int) × Int × (List Int)) → Option (Int × (List Int) × Int × (List Int))
  | (x0, x1, x2, x3) =>
  Option.bind (iY N N ((0 : Int), x2, x0, x1, x2, x3)) fun y0 =>
  some ((y0.1, y0.2.1, y0.2.2.1, y0.2.2.2))
noncomputable def ah2 (N : Nat) : Pk → Tr Pk := ak s171 w171 (Sl N)
theorem Uc (N : Nat) : aO Tryz.prog 171 (ah2 N) :=
  (ah ai aA (zk N) Tryz.func171 s171 w171 [0] (cuts := [(58, Df.cut (iY N N))]) ⟨Js N N, trivial⟩ (fun _ => by kernel_rfl) (by kernel_rfl) (Sl N) (fun x => by kernel_rfl))
@[reducible] def s164 : SP := ⟨[.adr 0 [], .adr 1 []], [.var (.agg [.arr (.int .i64) 16, .sl 2, .int .i64]), .var (.agg [.str, .int .i64, .int .i64]), .row (.int .i64) 3]⟩
noncomputable def Wj (N : Nat) : av := [(120, yU N), (121, BK N), (171, ah2 N)]
theorem zl (N : Nat) : aj Tryz.prog (Wj N) := ⟨gv N, iP N, Uc N, trivial⟩
@[reducible] def Di : LD := ⟨58, [8, 0, 7, 1, 9, 6], [(.ret, [4, 5]), (.exit 0, [])], ⟨[.int .i64, .adr 0 [], .int .i64, .adr 1 [], .int .i64, .int .i64], [.var (.agg [.arr (.int .i64) 16, .sl 2, .int .i64]), .var (.agg [.str, .int .i64, .int .i64]), .row (.int .i64) 3]⟩, [(.ret, ⟨[.int .i64, .int .i64], [.var (.agg [.arr (.int .i64) 16, .sl 2, .int .i64]), .var (.agg [.str, .int .i64, .int .i64]), .row (.int .i64) 3]⟩), (.exit 0, ⟨[], [.var (.agg [.arr (.int .i64) 16, .sl 2, .int .i64]), .var (.agg [.str, .int .i64, .int .i64]), .row (.int .i64) 3]⟩)]⟩
abbrev CM : Type := Int × Int × Int × Int × (List Int) × Int × ByteArray × Int × Int × (List Int)
abbrev Cf : Type := ((Int × Int × (List Int) × Int × ByteArray × Int × Int × (List Int)) ⊕ ((List Int) × Int × ByteArray × Int × Int × (List Int)))
noncomputable def ug (N : Nat) (f : CM → Option Cf) : CM → Option Cf
  | (x0, x1, x2, x3, x4, x5, x6, x7, x8, x9) =>
  ac (decide (x2 ≤ x5)) (
  Option.bind (iA N ((1 : Int), x6, x7, x8)) fun y0 =>
  Option.bind (gH N (y0.2.1, y0.2.2.1, y0.2.2.2, ())) fun y1 =>
  ac (y1 != 0) (
  some (.inl (((0 : Int), y1, x4, x5, y0.2.1, y0.2.2.1, y0.2.2.2, x9)))) (
  ac (within x2 (16 : Nat)) (
  Option.bind (x4[Int.toNat x2]?) fun y2 =>
  ac (decide (IntKind.wrap .i64 (IntKind.wrap .i64 (↑(BitVec.toNat (BitVec.ofInt (64 : Nat) x3 ||| BitVec.ofInt (64 : Nat) y0.1)) : Int) - x1) < y2)) (
  ac (within (IntKind.wrap .i64 (x0 + IntKind.wrap .i64 (IntKind.wrap .i64 (↑(BitVec.toNat (BitVec.ofInt (64 : Nat) x3 ||| BitVec.ofInt (64 : Nat) y0.1)) : Int) - x1))) (List.length x9)) (
  Option.bind (x9[Int.toNat (IntKind.wrap .i64 (x0 + IntKind.wrap .i64 (IntKind.wrap .i64 (↑(BitVec.toNat (BitVec.ofInt (64 : Nat) x3 ||| BitVec.ofInt (64 : Nat) y0.1)) : Int) - x1)))]?) fun y3 =>
  some (.inl ((y3, (0 : Int), x4, x5, y0.2.1, y0.2.2.1, y0.2.2.2, x9)))) (
  none)) (
  ac (within x2 (16 : Nat)) (
  Option.bind (x4[Int.toNat x2]?) fun y4 =>
  ac (within x2 (16 : Nat)) (
  Option.bind (x4[Int.toNat x2]?) fun y5 =>
  Option.bind (Sl N (x2, x4, x5, x9)) fun y6 =>
  ac (decide (IntKind.wrap .i64 (Int.fdiv (IntKind.wrap .i64 (IntKind.wrap .i64 (↑(BitVec.toNat (BitVec.ofInt (64 : Nat) x3 ||| BitVec.ofInt (64 : Nat) y0.1)) : Int) * (2 : Int))) (2 : Int) - Int.fdiv (IntKind.wrap .i64 (IntKind.wrap .i64 (x1 + y5) * 2)) (2 : Int)) ≥ y6.1)) (
  some (.inl (((0 : Int), (3 : Int), y6.2.1, y6.2.2.1, y0.2.1, y0.2.2.1, y0.2.2.2, y6.2.2.2)))) (
  Option.bind (f (IntKind.wrap .i64 (x0 + y4), IntKind.wrap .i64 (IntKind.wrap .i64 (x1 + y5) * 2), IntKind.wrap .i64 (x2 + 1), IntKind.wrap .i64 (IntKind.wrap .i64 (↑(BitVec.toNat (BitVec.ofInt (64 : Nat) x3 ||| BitVec.ofInt (64 : Nat) y0.1)) : Int) * (2 : Int)), y6.2.1, y6.2.2.1, y0.2.1, y0.2.2.1, y0.2.2.2, y6.2.2.2)) fun r => match r with | .inl y => some (.inl y) | .inr y => some (.inr y))) (
  none)) (
  none))) (
  none))) (
  some (.inr ((x4, x5, x6, x7, x8, x9))))
noncomputable def gF (N : Nat) : Nat → CM → Option Cf
  | 0, _ => none
  | k + 1, x => ug N (gF N k) x
theorem Ju (N : Nat) (k : Nat) : ar Tryz.prog Tryz.f164 [0, 1] 58 (Di.cut (gF N k)) :=
  Di.loopT ai aA (zl N) Tryz.f164 [0, 1] (cuts := []) trivial (by decide +kernel) (by kernel_rfl) (ug N) (gF N) (fun _ => rfl) (fun _ _ => rfl) (fun f x => by kernel_rfl) k
@[reducible] def w164 : List SP := [⟨[.tup [.int .i64, .int .i64]], [.var (.agg [.arr (.int .i64) 16, .sl 2, .int .i64]), .var (.agg [.str, .int .i64, .int .i64]), .row (.int .i64) 3]⟩]
noncomputable def Dx (N : Nat) : ((List Int) × Int × ByteArray × Int × Int × (List Int)) → Option (Int × Int × (List Int) × Int × ByteArray × Int × Int × (List Int))
  | (x0, x1, x2, x3, x4, x5) =>
  Option.bind (gF N N ((0 : Int), (0 : Int), (1 : Int), (0 : Int), x0, x1, x2, x3, x4, x5)) fun y0 =>
  match y0 with
  | .inl y1 =>
  some ((y1.1, y1.2.1, y1.2.2.1, y1.2.2.2.1, y1.2.2.2.2.1, y1.2.2.2.2.2.1, y1.2.2.2.2.2.2.1, y1.2.2.2.2.2.2.2))
  | .inr y1 =>
  some (((0 : Int), (3 : Int), y1.1, y1.2.1, y1.2.2.1, y1.2.2.2.1, y1.2.2.2.2.1, y1.2.2.2.2.2))
noncomputable def Ui (N : Nat) : Pk → Tr Pk := ak s164 w164 (Dx N)
theorem BI (N : Nat) : aO Tryz.prog 164 (Ui N) :=
  (ah ai aA (zl N) Tryz.func164 s164 w164 [0, 1] (cuts := [(58, Di.cut (gF N N))]) ⟨Ju N N, trivial⟩ (fun _ => by kernel_rfl) (by kernel_rfl) (Dx N) (fun x => by kernel_rfl))
@[reducible] def s165 : SP := ⟨[.adr 0 [], .int .i64, .ro (.int .i64)], [.var (.agg [.str, .int .i64, .int .i64])]⟩
noncomputable def Wi (N : Nat) : av := [(120, yU N), (121, BK N)]
theorem K0 (N : Nat) : aj Tryz.prog (Wi N) := ⟨gv N, iP N, trivial⟩
@[reducible] def w165 : List SP := [⟨[.tup [.int .i64, .int .i64, .int .i64]], [.var (.agg [.str, .int .i64, .int .i64])]⟩]
noncomputable def Ge (N : Nat) : (Int × (List Int) × ByteArray × Int × Int) → Option (Int × Int × Int × ByteArray × Int × Int)
  | (x0, x1, x2, x3, x4) =>
  ac (x0 == 16) (
  ac ((↑(List.length x1) : Int) == (0 : Int)) (
  some (((0 : Int), (0 : Int), (80 : Int), x2, x3, x4))) (
  ac (within (IntKind.wrap .i64 ((↑(List.length x1) : Int) - (1 : Int))) (List.length x1)) (
  Option.bind (x1[Int.toNat (IntKind.wrap .i64 ((↑(List.length x1) : Int) - (1 : Int)))]?) fun y0 =>
  Option.bind (iA N ((2 : Int), x2, x3, x4)) fun y1 =>
  Option.bind (gH N (y1.2.1, y1.2.2.1, y1.2.2.2, ())) fun y2 =>
  some ((y0, IntKind.wrap .i64 ((3 : Int) + y1.1), y2, y1.2.1, y1.2.2.1, y1.2.2.2))) (
  none))) (
  ac (x0 == 17) (
  Option.bind (iA N ((3 : Int), x2, x3, x4)) fun y3 =>
  Option.bind (gH N (y3.2.1, y3.2.2.1, y3.2.2.2, ())) fun y4 =>
  some (((0 : Int), IntKind.wrap .i64 ((3 : Int) + y3.1), y4, y3.2.1, y3.2.2.1, y3.2.2.2))) (
  ac (x0 == 18) (
  Option.bind (iA N ((7 : Int), x2, x3, x4)) fun y5 =>
  Option.bind (gH N (y5.2.1, y5.2.2.1, y5.2.2.2, ())) fun y6 =>
  some (((0 : Int), IntKind.wrap .i64 ((11 : Int) + y5.1), y6, y5.2.1, y5.2.2.1, y5.2.2.2))) (
  Option.bind (gH N (x2, x3, x4, ())) fun y7 =>
  some ((x0, (1 : Int), y7, x2, x3, x4)))))
noncomputable def ah7 (N : Nat) : Pk → Tr Pk := ak s165 w165 (Ge N)
theorem Uh (N : Nat) : aO Tryz.prog 165 (ah7 N) :=
  (ah ai aA (K0 N) Tryz.func165 s165 w165 [0] (cuts := []) trivial (fun _ => by kernel_rfl) (by kernel_rfl) (Ge N) (fun x => by kernel_rfl))
@[reducible] def s149 : SP := ⟨[.adr 0 []], [.var (.agg [.str, .int .i64, .int .i64])]⟩
noncomputable def Ww (N : Nat) : av := [(120, yU N), (121, BK N), (163, ah8 N), (164, Ui N), (151, Us N), (165, ah7 N)]
theorem nh (N : Nat) : aj Tryz.prog (Ww N) := ⟨gv N, iP N, Uj N, BI N, BJ N, Uh N, trivial⟩
@[reducible] def j4 : LD := ⟨508, [9, 5, 6, 0, 10], [(.ret, [2, 3, 4]), (.exit 1, [10, 5])], ⟨[.nilp, .int .i64, .int .i64, .adr 0 [], .sl 1], [.var (.agg [.str, .int .i64, .int .i64]), .row (.int .i64) 3]⟩, [(.exit 1, ⟨[.sl 1, .int .i64], [.var (.agg [.str, .int .i64, .int .i64]), .row (.int .i64) 3]⟩)]⟩
abbrev xm : Type := Int × Int × ByteArray × Int × Int × (List Int)
abbrev wL : Type := Int × ByteArray × Int × Int × (List Int)
noncomputable def GM (N : Nat) (f : xm → Option wL) : xm → Option wL
  | (x0, x1, x2, x3, x4, x5) =>
  ac (decide ((↑(List.length x5) : Int) < IntKind.wrap .i64 (x0 + x1))) (
  none) (
  some ((x0, x2, x3, x4, x5)))
noncomputable def ix (N : Nat) : Nat → xm → Option wL
  | 0, _ => none
  | k + 1, x => GM N (ix N k) x
theorem mZ (N : Nat) (k : Nat) : ar Tryz.prog Tryz.f149 [0] 508 (j4.cut (ix N k)) :=
  j4.loopT ai aA (nh N) Tryz.f149 [0] (cuts := []) trivial (by decide +kernel) (by kernel_rfl) (GM N) (ix N) (fun _ => rfl) (fun _ _ => rfl) (fun f x => by kernel_rfl) k
@[reducible] def iR : LD := ⟨260286, [10, 84, 83, 0, 6, 5, 9, 13], [(.ret, [2, 3, 4]), (.exit 4, [9, 5, 6, 0, 10]), (.exit 2, [9, 5, 6, 0, 10]), (.exit 1, [10, 5])], ⟨[.sl 1, .int .i64, .int .i64, .adr 0 [], .int .i64, .int .i64, .adr 2 [], .int .i64], [.var (.agg [.str, .int .i64, .int .i64]), .row (.int .i64) 3, .var (.agg [.arr (.int .i64) 16, .sl 3, .int .i64]), .row (.int .i64) 3]⟩, [(.exit 4, ⟨[.adr 1 [], .int .i64, .int .i64, .adr 0 [], .sl 2], [.var (.agg [.str, .int .i64, .int .i64]), .var (.agg [.arr (.int .i64) 16, .sl 3, .int .i64]), .row (.int .i64) 3, .row (.int .i64) 3]⟩)]⟩
abbrev my : Type := Int × Int × Int × Int × Int × ByteArray × Int × Int × (List Int) × (List Int) × Int × (List Int)
abbrev mn : Type := Int × Int × ByteArray × Int × Int × (List Int) × Int × (List Int) × (List Int)
noncomputable def jf (N : Nat) (f : my → Option mn) : my → Option mn
  | (x0, x1, x2, x3, x4, x5, x6, x7, x8, x9, x10, x11) =>
  ac (decide (x0 < x1)) (
  ac (decide ((List.length x8 + List.length [x4]) * 8 ≤ (140737488355328 : Nat) ∧ List.length x8 + List.length [x4] ≤ 140737488355328)) (
  Option.bind (f (IntKind.wrap .i64 (x0 + 1), x1, x2, x3, x4, x5, x6, x7, x8 ++ [x4], x9, x10, x11)) fun r => some r) (
  none)) (
  some ((x3, x2, x5, x6, x7, x9, x10, x8, x11)))
noncomputable def ce (N : Nat) : Nat → my → Option mn
  | 0, _ => none
  | k + 1, x => jf N (ce N k) x
theorem na (N : Nat) (k : Nat) : ar Tryz.prog Tryz.f149 [0] 260286 (iR.cut (ce N k)) :=
  iR.loopT ai aA (nh N) Tryz.f149 [0] (cuts := [(508, j4.cut (ix N N))]) ⟨mZ N N, trivial⟩ (by decide +kernel) (by kernel_rfl) (jf N) (ce N) (fun _ => rfl) (fun _ _ => rfl) (fun f x => by kernel_rfl) k
@[reducible] def r9 : LD := ⟨508, [9, 5, 6, 0, 10], [(.ret, [2, 3, 4]), (.exit 1, [10, 5])], ⟨[.adr 1 [], .int .i64, .int .i64, .adr 0 [], .sl 2], [.var (.agg [.str, .int .i64, .int .i64]), .var (.agg [.arr (.int .i64) 16, .sl 3, .int .i64]), .row (.int .i64) 3, .row (.int .i64) 3]⟩, [(.ret, ⟨[.sl 1, .sl 2, .int .i64], [.var (.agg [.str, .int .i64, .int .i64]), .row (.int .i64) 3, .row (.int .i64) 3]⟩), (.exit 1, ⟨[.sl 1, .int .i64], [.var (.agg [.str, .int .i64, .int .i64]), .row (.int .i64) 3]⟩)]⟩
abbrev rZ : Type := Int × Int × ByteArray × Int × Int × (List Int) × Int × (List Int) × (List Int)
abbrev rN : Type := ((Int × ByteArray × Int × Int × (List Int) × (List Int)) ⊕ (Int × ByteArray × Int × Int × (List Int)))
noncomputable def nY (N : Nat) (f : rZ → Option rN) : rZ → Option rN
  | (x0, x1, x2, x3, x4, x5, x6, x7, x8) =>
  ac (decide ((↑(List.length x7) : Int) < IntKind.wrap .i64 (x0 + x1))) (
  Option.bind (Dx N (x5, x6, x2, x3, x4, x8)) fun y0 =>
  ac (y0.2.1 != 0) (
  Option.bind (DD N y0.2.1) fun y1 =>
  some (.inl ((y1, y0.2.2.2.2.1, y0.2.2.2.2.2.1, y0.2.2.2.2.2.2.1, [], [])))) (
  Option.bind (Ge N (y0.1, x7, y0.2.2.2.2.1, y0.2.2.2.2.2.1, y0.2.2.2.2.2.2.1)) fun y2 =>
  ac (y2.2.2.1 != 0) (
  some (.inl ((y2.2.2.1, y2.2.2.2.1, y2.2.2.2.2.1, y2.2.2.2.2.2, [], [])))) (
  ac (decide (IntKind.wrap .i64 ((↑(List.length x7) : Int) + y2.2.1) > IntKind.wrap .i64 (x0 + x1))) (
  some (.inl (((80 : Int), y2.2.2.2.1, y2.2.2.2.2.1, y2.2.2.2.2.2, [], [])))) (
  Option.bind (ce N N ((0 : Int), y2.2.1, x1, x0, y2.1, y2.2.2.2.1, y2.2.2.2.2.1, y2.2.2.2.2.2, x7, y0.2.2.1, y0.2.2.2.1, y0.2.2.2.2.2.2.2)) fun y3 =>
  Option.bind (f (y3.1, y3.2.1, y3.2.2.1, y3.2.2.2.1, y3.2.2.2.2.1, y3.2.2.2.2.2.1, y3.2.2.2.2.2.2.1, y3.2.2.2.2.2.2.2.1, y3.2.2.2.2.2.2.2.2)) fun r => match r with | .inl y => some (.inl y) | .inr y => some (.inr y))))) (
  some (.inr ((x0, x2, x3, x4, x7))))
noncomputable def dF (N : Nat) : Nat → rZ → Option rN
  | 0, _ => none
  | k + 1, x => nY N (dF N k) x
theorem DI (N : Nat) (k : Nat) : ar Tryz.prog Tryz.f149 [0] 508 (r9.cut (dF N k)) :=
  r9.loopT ai aA (nh N) Tryz.f149 [0] (cuts := [(508, j4.cut (ix N N)), (260286, iR.cut (ce N N))]) ⟨mZ N N, na N N, trivial⟩ (by decide +kernel) (by kernel_rfl) (nY N) (dF N) (fun _ => rfl) (fun _ _ => rfl) (fun f x => by kernel_rfl) k
@[reducible] def w149 : List SP := [⟨[.tup [.sl 1, .sl 2, .int .i64]], [.var (.agg [.str, .int .i64, .int .i64]), .row (.int .i64) 3, .row (.int .i64) 3]⟩, ⟨[.tup [.slp 1 (.c 0) .h, .slp 1 .h .h, .int .i64]], [.var (.agg [.str, .int .i64, .int .i64]), .row (.int .i64) 3]⟩]
noncomputable def Sv (N : Nat) : (ByteArray × Int × Int) → Option (((Int × ByteArray × Int × Int × (List Int) × (List Int)) ⊕ (Nat × Nat × Nat × Int × ByteArray × Int × Int × (List Int))))
  | (x0, x1, x2) =>
  Option.bind (iA N ((5 : Int), x0, x1, x2)) fun y0 =>
  Option.bind (iA N ((5 : Int), y0.2.1, y0.2.2.1, y0.2.2.2)) fun y1 =>
  Option.bind (iA N ((4 : Int), y1.2.1, y1.2.2.1, y1.2.2.2)) fun y2 =>
  Option.bind (gH N (y2.2.1, y2.2.2.1, y2.2.2.2, ())) fun y3 =>
  ac (y3 != 0) (
    some (.inl ((y3, y2.2.1, y2.2.2.1, y2.2.2.2, [], [])))) (
    ac (decide (IntKind.wrap .i64 (y0.1 + 257) > 286)) (
      some (.inl (((80 : Int), y2.2.1, y2.2.2.1, y2.2.2.2, [], [])))) (
      ac (decide (IntKind.wrap .i64 (y1.1 + 1) > 30)) (
        some (.inl (((80 : Int), y2.2.1, y2.2.2.1, y2.2.2.2, [], [])))) (
        Option.bind (Sn N (IntKind.wrap .i64 (y2.1 + 4), y2.2.1, y2.2.2.1, y2.2.2.2)) fun y4 =>
        match y4 with
        | .inl y5 =>
          ac (y5.1 != 0) (
            some (.inl ((y5.1, y5.2.1, y5.2.2.1, y5.2.2.2, [], [])))) (
            Option.bind (ix N N (IntKind.wrap .i64 (y0.1 + 257), IntKind.wrap .i64 (y1.1 + 1), y5.2.1, y5.2.2.1, y5.2.2.2, [])) fun y6 =>
            ac (decide ((0 : Int) ≤ y6.1 ∧ y6.1 ≤ y6.1 ∧ y6.1 ≤ (↑(List.length y6.2.2.2.2) : Int))) (
              ac (decide ((0 : Int) ≤ y6.1 ∧ y6.1 ≤ (↑(List.length y6.2.2.2.2) : Int))) (
                some (.inr ((Int.toNat y6.1, Int.toNat y6.1, List.length y6.2.2.2.2 - Int.toNat y6.1, (0 : Int), y6.2.1, y6.2.2.1, y6.2.2.2.1, y6.2.2.2.2)))) (
                none)) (
              none))
        | .inr y5 =>
          ac (y5.1 != 0) (
            some (.inl ((y5.1, y5.2.1, y5.2.2.1, y5.2.2.2.1, [], [])))) (
            Option.bind (dF N N (IntKind.wrap .i64 (y0.1 + 257), IntKind.wrap .i64 (y1.1 + 1), y5.2.1, y5.2.2.1, y5.2.2.2.1, y5.2.2.2.2.1, y5.2.2.2.2.2.1, [], y5.2.2.2.2.2.2)) fun y7 =>
            match y7 with
            | .inl y8 =>
              some (.inl ((y8.1, y8.2.1, y8.2.2.1, y8.2.2.2.1, y8.2.2.2.2.1, y8.2.2.2.2.2)))
            | .inr y8 =>
              ac (decide ((0 : Int) ≤ y8.1 ∧ y8.1 ≤ y8.1 ∧ y8.1 ≤ (↑(List.length y8.2.2.2.2) : Int))) (
                ac (decide ((0 : Int) ≤ y8.1 ∧ y8.1 ≤ (↑(List.length y8.2.2.2.2) : Int))) (
                  some (.inr ((Int.toNat y8.1, Int.toNat y8.1, List.length y8.2.2.2.2 - Int.toNat y8.1, (0 : Int), y8.2.1, y8.2.2.1, y8.2.2.2.1, y8.2.2.2.2)))) (
                  none)) (
                none)))))
noncomputable def ai8 (N : Nat) : Pk → Tr Pk := ak s149 w149 (Sv N)
theorem Uu (N : Nat) : aO Tryz.prog 149 (ai8 N) :=
  (ah ai aA (nh N) Tryz.func149 s149 w149 [0] (cuts := [(508, JP j4.s.I (j4.cut (ix N N)) (r9.cut (dF N N))), (260286, iR.cut (ce N N))]) ⟨fun c' h => gg (mZ N N c' h) (DI N N c' h) rfl rfl, na N N, trivial⟩ (fun _ => by kernel_rfl) (by kernel_rfl) (Sv N) (fun x => by kernel_rfl))
@[reducible] def s172a : SP := ⟨[.adr 0 [], .int .i64, .fn 131], [.var (.agg [.str, .int .i64, .int .i64])]⟩
noncomputable def Tb (N : Nat) : av := [(120, yU N), (121, BK N), (131, Yv N)]
theorem GW (N : Nat) : aj Tryz.prog (Tb N) := ⟨gv N, iP N, Kn N, trivial⟩
@[reducible] def w172a : List SP := [⟨[.tup [.int .i64, .int .i64]], [.var (.agg [.str, .int .i64, .int .i64])]⟩]
noncomputable def FZ (N : Nat) : (Int × ByteArray × Int × Int) → Option (Int × Int × ByteArray × Int × Int)
  | (x0, x1, x2, x3) =>
  Option.bind (ym N x0) fun y0 =>
  Option.bind (iA N (y0.2, x1, x2, x3)) fun y1 =>
  Option.bind (gH N (y1.2.1, y1.2.2.1, y1.2.2.2, ())) fun y2 =>
  some ((IntKind.wrap .i64 (y0.1 + y1.1), y2, y1.2.1, y1.2.2.1, y1.2.2.2))
noncomputable def VT (N : Nat) : Pk → Tr Pk := ak s172a w172a (FZ N)
theorem QP (N : Nat) : aO Tryz.prog 172 (VT N) :=
  (ah ai aA (GW N) Tryz.func172 s172a w172a [0] (cuts := []) trivial (fun _ => by kernel_rfl) (by kernel_rfl) (FZ N) (fun x => by kernel_rfl))
@[reducible] def s172b : SP := ⟨[.adr 0 [], .int .i64, .fn 132], [.var (.agg [.str, .int .i64, .int .i64])]⟩
noncomputable def Ta (N : Nat) : av := [(120, yU N), (121, BK N), (132, Yu N)]
theorem GV (N : Nat) : aj Tryz.prog (Ta N) := ⟨gv N, iP N, Km N, trivial⟩
@[reducible] def w172b : List SP := [⟨[.tup [.int .i64, .int .i64]], [.var (.agg [.str, .int .i64, .int .i64])]⟩]
noncomputable def FY (N : Nat) : (Int × ByteArray × Int × Int) → Option (Int × Int × ByteArray × Int × Int)
  | (x0, x1, x2, x3) =>
  Option.bind (yl N x0) fun y0 =>
  Option.bind (iA N (y0.2, x1, x2, x3)) fun y1 =>
  Option.bind (gH N (y1.2.1, y1.2.2.1, y1.2.2.2, ())) fun y2 =>
  some ((IntKind.wrap .i64 (y0.1 + y1.1), y2, y1.2.1, y1.2.2.1, y1.2.2.2))
noncomputable def VS (N : Nat) : Pk → Tr Pk := ak s172b w172b (FY N)
theorem QO (N : Nat) : aO Tryz.prog 172 (VS N) :=
  (ah ai aA (GV N) Tryz.func172 s172b w172b [0] (cuts := []) trivial (fun _ => by kernel_rfl) (by kernel_rfl) (FY N) (fun x => by kernel_rfl))
noncomputable def ah1 (N : Nat) : Pk → Tr Pk := (orT s172a.I (VT N) (VS N))
theorem Ub (N : Nat) : aO Tryz.prog 172 (ah1 N) := (Pq (QP N) (QO N))
@[reducible] def s167 : SP := ⟨[.adr 0 [], .int .i64, .adr 1 []], [.var (.agg [.str, .int .i64, .int .i64]), .var (.agg [.arr (.int .i64) 16, .sl 2, .int .i64]), .row (.int .i64) 3]⟩
noncomputable def Wg (N : Nat) : av := [(172, ah1 N), (164, Ui N)]
theorem KZ (N : Nat) : aj Tryz.prog (Wg N) := ⟨Ub N, BI N, trivial⟩
@[reducible] def w167 : List SP := [⟨[.tup [.agg [.int .i64, .int .i64, .int .i64], .int .i64]], [.var (.agg [.str, .int .i64, .int .i64]), .var (.agg [.arr (.int .i64) 16, .sl 2, .int .i64]), .row (.int .i64) 3]⟩]
noncomputable def Vq (N : Nat) : (Int × ByteArray × Int × Int × (List Int) × Int × (List Int)) → Option (Int × Int × Int × Int × ByteArray × Int × Int × (List Int) × Int × (List Int))
  | (x0, x1, x2, x3, x4, x5, x6) =>
  ac (decide (x0 > 285)) (
  some (((0 : Int), (0 : Int), (0 : Int), (3 : Int), x1, x2, x3, x4, x5, x6))) (
  Option.bind (FZ N (x0, x1, x2, x3)) fun y0 =>
  ac (y0.2.1 != 0) (
  some (((0 : Int), (0 : Int), (0 : Int), y0.2.1, y0.2.2.1, y0.2.2.2.1, y0.2.2.2.2, x4, x5, x6))) (
  Option.bind (Dx N (x4, x5, y0.2.2.1, y0.2.2.2.1, y0.2.2.2.2, x6)) fun y1 =>
  ac (y1.2.1 != 0) (
  some (((0 : Int), (0 : Int), (0 : Int), y1.2.1, y1.2.2.2.2.1, y1.2.2.2.2.2.1, y1.2.2.2.2.2.2.1, y1.2.2.1, y1.2.2.2.1, y1.2.2.2.2.2.2.2))) (
  ac (decide (y1.1 ≥ 30)) (
  some (((0 : Int), (0 : Int), (0 : Int), (3 : Int), y1.2.2.2.2.1, y1.2.2.2.2.2.1, y1.2.2.2.2.2.2.1, y1.2.2.1, y1.2.2.2.1, y1.2.2.2.2.2.2.2))) (
  Option.bind (FY N (y1.1, y1.2.2.2.2.1, y1.2.2.2.2.2.1, y1.2.2.2.2.2.2.1)) fun y2 =>
  some (((0 : Int), y0.1, y2.1, y2.2.1, y2.2.2.1, y2.2.2.2.1, y2.2.2.2.2, y1.2.2.1, y1.2.2.2.1, y1.2.2.2.2.2.2.2))))))
noncomputable def ah6 (N : Nat) : Pk → Tr Pk := ak s167 w167 (Vq N)
theorem Ug (N : Nat) : aO Tryz.prog 167 (ah6 N) :=
  (ah ai aA (KZ N) Tryz.func167 s167 w167 [0, 1] (cuts := []) trivial (fun _ => by kernel_rfl) (by kernel_rfl) (Vq N) (fun x => by kernel_rfl))
@[reducible] def s150 : SP := ⟨[.adr 0 [], .ro (.int .i64), .ro (.int .i64), .int .i64], [.var (.agg [.str, .int .i64, .int .i64])]⟩
noncomputable def Wv (N : Nat) : av := [(166, Ym N), (164, Ui N), (167, ah6 N)]
theorem jx (N : Nat) : aj Tryz.prog (Wv N) := ⟨Kf N, BI N, Ug N, trivial⟩
@[reducible] def eJ : LD := ⟨254, [14, 10, 0, 12, 3, 15], [(.ret, [8, 9]), (.exit 0, [8, 9])], ⟨[.sl 1, .nilp, .adr 0 [], .nilp, .int .i64, .int .i64], [.var (.agg [.str, .int .i64, .int .i64]), .row y0 52]⟩, []⟩
abbrev xl : Type := Int × Int × ByteArray × Int × Int × (List (Int × (Int × (Int × Unit))))
abbrev wI : Type := Unit
noncomputable def GL (N : Nat) (f : xl → Option wI) : xl → Option wI
  | (x0, x1, x2, x3, x4, x5) =>
  none
noncomputable def fW (N : Nat) : Nat → xl → Option wI
  | 0, _ => none
  | k + 1, x => GL N (fW N k) x
theorem jd (N : Nat) (k : Nat) : ar Tryz.prog Tryz.f150 [0] 254 (eJ.cut (fW N k)) :=
  eJ.loopT ai aA (jx N) Tryz.f150 [0] (cuts := []) trivial (by decide +kernel) (by kernel_rfl) (GL N) (fW N) (fun _ => rfl) (fun _ _ => rfl) (fun f x => by kernel_rfl) k
@[reducible] def fg : LD := ⟨254, [14, 10, 0, 12, 3, 15], [(.ret, [8, 9]), (.exit 0, [8, 9])], ⟨[.sl 1, .nilp, .adr 0 [], .adr 2 [], .int .i64, .int .i64], [.var (.agg [.str, .int .i64, .int .i64]), .row y0 52, .var (.agg [.arr (.int .i64) 16, .sl 3, .int .i64]), .row (.int .i64) 3]⟩, []⟩
abbrev rY : Type := Int × Int × ByteArray × Int × Int × (List (Int × (Int × (Int × Unit)))) × (List Int) × Int × (List Int)
abbrev rM : Type := Unit
noncomputable def AC (N : Nat) (f : rY → Option rM) : rY → Option rM
  | (x0, x1, x2, x3, x4, x5, x6, x7, x8) =>
  none
noncomputable def fh (N : Nat) : Nat → rY → Option rM
  | 0, _ => none
  | k + 1, x => AC N (fh N k) x
theorem kZ (N : Nat) (k : Nat) : ar Tryz.prog Tryz.f150 [0] 254 (fg.cut (fh N k)) :=
  fg.loopT ai aA (jx N) Tryz.f150 [0] (cuts := [(254, eJ.cut (fW N N))]) ⟨jd N N, trivial⟩ (by decide +kernel) (by kernel_rfl) (AC N) (fh N) (fun _ => rfl) (fun _ _ => rfl) (fun f x => by kernel_rfl) k
@[reducible] def jZ : LD := ⟨254, [14, 10, 0, 12, 3, 15], [(.ret, [8, 9]), (.exit 0, [8, 9])], ⟨[.sl 1, .adr 2 [], .adr 0 [], .nilp, .int .i64, .int .i64], [.var (.agg [.str, .int .i64, .int .i64]), .row y0 52, .var (.agg [.arr (.int .i64) 16, .sl 3, .int .i64]), .row (.int .i64) 3]⟩, [(.ret, ⟨[.sl 1, .int .i64], [.var (.agg [.str, .int .i64, .int .i64]), .row y0 52]⟩)]⟩
abbrev rX : Type := Int × Int × ByteArray × Int × Int × (List (Int × (Int × (Int × Unit)))) × (List Int) × Int × (List Int)
abbrev rL : Type := Int × ByteArray × Int × Int × (List (Int × (Int × (Int × Unit))))
noncomputable def AB (N : Nat) (f : rX → Option rL) : rX → Option rL
  | (x0, x1, x2, x3, x4, x5, x6, x7, x8) =>
  Option.bind (Dx N (x6, x7, x2, x3, x4, x8)) fun y0 =>
  ac (y0.2.1 != 0) (
  some ((y0.2.1, y0.2.2.2.2.1, y0.2.2.2.2.2.1, y0.2.2.2.2.2.2.1, []))) (
  ac (y0.1 == 256) (
  some (((0 : Int), y0.2.2.2.2.1, y0.2.2.2.2.2.1, y0.2.2.2.2.2.2.1, x5))) (
  ac (decide (y0.1 > 256)) (
  none) (
  ac (decide (IntKind.wrap .i64 (x1 + 1) > x0)) (
  some (((4 : Int), y0.2.2.2.2.1, y0.2.2.2.2.2.1, y0.2.2.2.2.2.2.1, []))) (
  ac (decide ((List.length x5 + List.length [(y0.1, (0 : Int), (0 : Int), ())]) * 24 ≤ (140737488355328 : Nat) ∧ List.length x5 + List.length [(y0.1, (0 : Int), (0 : Int), ())] ≤ 140737488355328)) (
  Option.bind (f (x0, IntKind.wrap .i64 (x1 + 1), y0.2.2.2.2.1, y0.2.2.2.2.2.1, y0.2.2.2.2.2.2.1, x5 ++ [(y0.1, (0 : Int), (0 : Int), ())], y0.2.2.1, y0.2.2.2.1, y0.2.2.2.2.2.2.2)) fun r => some r) (
  none)))))
noncomputable def gR (N : Nat) : Nat → rX → Option rL
  | 0, _ => none
  | k + 1, x => AB N (gR N k) x
theorem qv (N : Nat) (k : Nat) : ar Tryz.prog Tryz.f150 [0] 254 (jZ.cut (gR N k)) :=
  jZ.loopT ai aA (jx N) Tryz.f150 [0] (cuts := [(254, JP eJ.s.I (eJ.cut (fW N N)) (fg.cut (fh N N)))]) ⟨fun c' h => gg (jd N N c' h) (kZ N N c' h) rfl rfl, trivial⟩ (by decide +kernel) (by kernel_rfl) (AB N) (gR N) (fun _ => rfl) (fun _ _ => rfl) (fun f x => by kernel_rfl) k
@[reducible] def r8 : LD := ⟨254, [14, 10, 0, 12, 3, 15], [(.ret, [8, 9]), (.exit 0, [8, 9])], ⟨[.sl 1, .adr 2 [], .adr 0 [], .adr 3 [], .int .i64, .int .i64], [.var (.agg [.str, .int .i64, .int .i64]), .row y0 52, .var (.agg [.arr (.int .i64) 16, .sl 4, .int .i64]), .var (.agg [.arr (.int .i64) 16, .sl 5, .int .i64]), .row (.int .i64) 3, .row (.int .i64) 3]⟩, [(.ret, ⟨[.sl 1, .int .i64], [.var (.agg [.str, .int .i64, .int .i64]), .row y0 52]⟩)]⟩
abbrev rW : Type := Int × Int × ByteArray × Int × Int × (List (Int × (Int × (Int × Unit)))) × (List Int) × Int × (List Int) × Int × (List Int) × (List Int)
abbrev rK : Type := Int × ByteArray × Int × Int × (List (Int × (Int × (Int × Unit))))
noncomputable def nX (N : Nat) (f : rW → Option rK) : rW → Option rK
  | (x0, x1, x2, x3, x4, x5, x6, x7, x8, x9, x10, x11) =>
  Option.bind (Dx N (x6, x7, x2, x3, x4, x10)) fun y0 =>
  ac (y0.2.1 != 0) (
  some ((y0.2.1, y0.2.2.2.2.1, y0.2.2.2.2.2.1, y0.2.2.2.2.2.2.1, []))) (
  ac (y0.1 == 256) (
  some (((0 : Int), y0.2.2.2.2.1, y0.2.2.2.2.2.1, y0.2.2.2.2.2.2.1, x5))) (
  ac (decide (y0.1 > 256)) (
  Option.bind (Vq N (y0.1, y0.2.2.2.2.1, y0.2.2.2.2.2.1, y0.2.2.2.2.2.2.1, x8, x9, x11)) fun y1 =>
  ac (y1.2.2.2.1 != 0) (
  some ((y1.2.2.2.1, y1.2.2.2.2.1, y1.2.2.2.2.2.1, y1.2.2.2.2.2.2.1, []))) (
  ac (decide (IntKind.wrap .i64 (x1 + if (1 : Int) > y1.2.1 then (1 : Int) else y1.2.1) > x0)) (
  some (((4 : Int), y1.2.2.2.2.1, y1.2.2.2.2.2.1, y1.2.2.2.2.2.2.1, []))) (
  ac (decide ((List.length x5 + List.length [(y1.1, y1.2.1, y1.2.2.1, ())]) * 24 ≤ (140737488355328 : Nat) ∧ List.length x5 + List.length [(y1.1, y1.2.1, y1.2.2.1, ())] ≤ 140737488355328)) (
  Option.bind (f (x0, IntKind.wrap .i64 (x1 + if (1 : Int) > y1.2.1 then (1 : Int) else y1.2.1), y1.2.2.2.2.1, y1.2.2.2.2.2.1, y1.2.2.2.2.2.2.1, x5 ++ [(y1.1, y1.2.1, y1.2.2.1, ())], y0.2.2.1, y0.2.2.2.1, y1.2.2.2.2.2.2.2.1, y1.2.2.2.2.2.2.2.2.1, y0.2.2.2.2.2.2.2, y1.2.2.2.2.2.2.2.2.2)) fun r => some r) (
  none)))) (
  ac (decide (IntKind.wrap .i64 (x1 + 1) > x0)) (
  some (((4 : Int), y0.2.2.2.2.1, y0.2.2.2.2.2.1, y0.2.2.2.2.2.2.1, []))) (
  ac (decide ((List.length x5 + List.length [(y0.1, (0 : Int), (0 : Int), ())]) * 24 ≤ (140737488355328 : Nat) ∧ List.length x5 + List.length [(y0.1, (0 : Int), (0 : Int), ())] ≤ 140737488355328)) (
  Option.bind (f (x0, IntKind.wrap .i64 (x1 + 1), y0.2.2.2.2.1, y0.2.2.2.2.2.1, y0.2.2.2.2.2.2.1, x5 ++ [(y0.1, (0 : Int), (0 : Int), ())], y0.2.2.1, y0.2.2.2.1, x8, x9, y0.2.2.2.2.2.2.2, x11)) fun r => some r) (
  none)))))
noncomputable def en (N : Nat) : Nat → rW → Option rK
  | 0, _ => none
  | k + 1, x => nX N (en N k) x
theorem DG (N : Nat) (k : Nat) : ar Tryz.prog Tryz.f150 [0] 254 (r8.cut (en N k)) :=
  r8.loopT ai aA (jx N) Tryz.f150 [0] (cuts := [(254, JP eJ.s.I (eJ.cut (fW N N)) (JP fg.s.I (fg.cut (fh N N)) (jZ.cut (gR N N))))]) ⟨fun c' h => gg (jd N N c' h) (gg (kZ N N c' h) (qv N N c' h) rfl rfl) rfl rfl, trivial⟩ (by decide +kernel) (by kernel_rfl) (nX N) (en N) (fun _ => rfl) (fun _ _ => rfl) (fun f x => by kernel_rfl) k
@[reducible] def w150 : List SP := [⟨[.tup [.sl 1, .int .i64]], [.var (.agg [.str, .int .i64, .int .i64]), .row y0 52]⟩]
noncomputable def I8 (N : Nat) : ((List Int) × (List Int) × Int × ByteArray × Int × Int) → Option (Int × ByteArray × Int × Int × (List (Int × (Int × (Int × Unit)))))
  | (x0, x1, x2, x3, x4, x5) =>
  Option.bind (Gc N x0) fun y0 =>
  match y0 with
  | .inl y1 =>
    Option.bind (Gc N x1) fun y2 =>
    match y2 with
    | .inl y3 =>
      ac (y1 != 0) (
        some (((50 : Int), x3, x4, x5, []))) (
        ac (y3 != 0) (
          some (((50 : Int), x3, x4, x5, []))) (
          Option.bind (fW N N (x2, (0 : Int), x3, x4, x5, [])) fun y4 =>
          none))
    | .inr y3 =>
      ac (y1 != 0) (
        some (((50 : Int), x3, x4, x5, []))) (
        ac (y3.1 != 0) (
          some (((50 : Int), x3, x4, x5, []))) (
          Option.bind (fh N N (x2, (0 : Int), x3, x4, x5, [], y3.2.1, y3.2.2.1, y3.2.2.2)) fun y5 =>
          none))
  | .inr y1 =>
    Option.bind (Gc N x1) fun y6 =>
    match y6 with
    | .inl y7 =>
      ac (y1.1 != 0) (
        some (((50 : Int), x3, x4, x5, []))) (
        ac (y7 != 0) (
          some (((50 : Int), x3, x4, x5, []))) (
          Option.bind (gR N N (x2, (0 : Int), x3, x4, x5, [], y1.2.1, y1.2.2.1, y1.2.2.2)) fun y8 =>
          some ((y8.1, y8.2.1, y8.2.2.1, y8.2.2.2.1, y8.2.2.2.2))))
    | .inr y7 =>
      ac (y1.1 != 0) (
        some (((50 : Int), x3, x4, x5, []))) (
        ac (y7.1 != 0) (
          some (((50 : Int), x3, x4, x5, []))) (
          Option.bind (en N N (x2, (0 : Int), x3, x4, x5, [], y1.2.1, y1.2.2.1, y7.2.1, y7.2.2.1, y1.2.2.2, y7.2.2.2)) fun y9 =>
          some ((y9.1, y9.2.1, y9.2.2.1, y9.2.2.2.1, y9.2.2.2.2))))
noncomputable def ai7 (N : Nat) : Pk → Tr Pk := ak s150 w150 (I8 N)
theorem Ut (N : Nat) : aO Tryz.prog 150 (ai7 N) :=
  (ah ai aA (jx N) Tryz.func150 s150 w150 [0] (cuts := [(254, JP eJ.s.I (eJ.cut (fW N N)) (JP fg.s.I (fg.cut (fh N N)) (JP jZ.s.I (jZ.cut (gR N N)) (r8.cut (en N N)))))]) ⟨fun c' h => gg (jd N N c' h) (gg (kZ N N c' h) (gg (qv N N c' h) (DG N N c' h) rfl rfl) rfl rfl) rfl rfl, trivial⟩ (fun _ => by kernel_rfl) (by kernel_rfl) (I8 N) (fun x => by kernel_rfl))
@[reducible] def s152 : SP := ⟨[.str, .ro y0], []⟩
noncomputable def Wt (N : Nat) : av := [(88, YY N), (27, T27 N)]
theorem qQ (N : Nat) : aj Tryz.prog (Wt N) := ⟨wj N, BH N, trivial⟩
@[reducible] def kQ : LD := ⟨62670, [6, 43, 42, 15, 7, 16, 17, 9], [(.ret, [4, 5]), (.exit 3, [17, 16, 7, 15, 6]), (.exit 1, [17, 16, 7, 15, 6]), (.exit 0, [6, 7])], ⟨[.sl 0, .int .i64, .int .i64, .ro y0, .int .i64, .int .i64, .int .i64, .adr 1 []], [.row (.int .u8) 5, .var (.agg [.int .i64, .int .i64, .int .i64])]⟩, [(.exit 3, ⟨[.int .i64, .int .i64, .int .i64, .ro y0, .sl 0], [.row (.int .u8) 5]⟩)]⟩
abbrev pa : Type := Int × Int × (List (Int × (Int × (Int × Unit)))) × Int × Int × Int × (List Int) × Int × Int × Int
abbrev oU : Type := Int × Int × Int × (List (Int × (Int × (Int × Unit)))) × (List Int)
noncomputable def iD (N : Nat) (f : pa → Option oU) : pa → Option oU
  | (x0, x1, x2, x3, x4, x5, x6, x7, x8, x9) =>
  ac (decide (x0 < x1)) (
  ac (within (IntKind.wrap .i64 ((↑(List.length x6) : Int) - x9)) (List.length x6)) (
  Option.bind (x6[Int.toNat (IntKind.wrap .i64 ((↑(List.length x6) : Int) - x9))]?) fun y0 =>
  ac (decide ((List.length x6 + List.length [y0]) * 1 ≤ (140737488355328 : Nat) ∧ List.length x6 + List.length [y0] ≤ 140737488355328)) (
  Option.bind (f (IntKind.wrap .i64 (x0 + 1), x1, x2, x3, x4, x5, x6 ++ [y0], x7, x8, x9)) fun r => some r) (
  none)) (
  none)) (
  some ((x5, x4, x3, x2, x6)))
noncomputable def bI (N : Nat) : Nat → pa → Option oU
  | 0, _ => none
  | k + 1, x => iD N (bI N k) x
theorem ov (N : Nat) (k : Nat) : ar Tryz.prog Tryz.f152 [] 62670 (kQ.cut (bI N k)) :=
  kQ.loopT ai aA (qQ N) Tryz.f152 [] (cuts := []) trivial (by decide +kernel) (by kernel_rfl) (iD N) (bI N) (fun _ => rfl) (fun _ _ => rfl) (fun f x => by kernel_rfl) k
@[reducible] def xJ : LD := ⟨122, [17, 16, 7, 15, 6], [(.ret, [4, 5]), (.exit 0, [6, 7])], ⟨[.int .i64, .int .i64, .int .i64, .ro y0, .sl 0], [.row (.int .u8) 5]⟩, [(.ret, ⟨[.str, .int .i64], []⟩), (.exit 0, ⟨[.sl 0, .int .i64], [.row (.int .u8) 5]⟩)]⟩
abbrev xk : Type := Int × Int × Int × (List (Int × (Int × (Int × Unit)))) × (List Int)
abbrev wH : Type := ((ByteArray × Int) ⊕ (Int × (List Int)))
noncomputable def qJ (N : Nat) (f : xk → Option wH) : xk → Option wH
  | (x0, x1, x2, x3, x4) =>
  ac (decide (x0 < x1)) (
  ac (within x0 (List.length x3)) (
  Option.bind (x3[Int.toNat x0]?) fun y0 =>
  Option.bind (V8 N (y0.1, y0.2.1, y0.2.2.1)) fun y1 =>
  ac (!y1) (
  some (.inl ((ByteArray.mk #[], (1 : Int))))) (
  ac (y0.2.1 == 0) (
  ac (decide ((List.length x4 + List.length [IntKind.wrap .u8 y0.1]) * 1 ≤ (140737488355328 : Nat) ∧ List.length x4 + List.length [IntKind.wrap .u8 y0.1] ≤ 140737488355328)) (
  Option.bind (bI N N ((0 : Int), y0.2.1, x3, x2, x1, x0, x4 ++ [IntKind.wrap .u8 y0.1], y0.1, y0.2.1, y0.2.2.1)) fun y2 =>
  Option.bind (f (IntKind.wrap .i64 (y2.1 + 1), y2.2.1, y2.2.2.1, y2.2.2.2.1, y2.2.2.2.2)) fun r => match r with | .inl y => some (.inl y) | .inr y => some (.inr y)) (
  none)) (
  ac (decide (y0.2.2.1 > (↑(List.length x4) : Int))) (
  some (.inl ((ByteArray.mk #[], (60 : Int))))) (
  Option.bind (bI N N ((0 : Int), y0.2.1, x3, x2, x1, x0, x4, y0.1, y0.2.1, y0.2.2.1)) fun y3 =>
  Option.bind (f (IntKind.wrap .i64 (y3.1 + 1), y3.2.1, y3.2.2.1, y3.2.2.2.1, y3.2.2.2.2)) fun r => match r with | .inl y => some (.inl y) | .inr y => some (.inr y))))) (
  none)) (
  some (.inr ((x2, x4))))
noncomputable def fU (N : Nat) : Nat → xk → Option wH
  | 0, _ => none
  | k + 1, x => qJ N (fU N k) x
theorem GB (N : Nat) (k : Nat) : ar Tryz.prog Tryz.f152 [] 122 (xJ.cut (fU N k)) :=
  xJ.loopT ai aA (qQ N) Tryz.f152 [] (cuts := [(62670, kQ.cut (bI N N))]) ⟨ov N N, trivial⟩ (by decide +kernel) (by kernel_rfl) (qJ N) (fU N) (fun _ => rfl) (fun _ _ => rfl) (fun f x => by kernel_rfl) k
@[reducible] def w152 : List SP := [⟨[.tup [.str, .int .i64]], []⟩]
noncomputable def I7 (N : Nat) : (ByteArray × (List (Int × (Int × (Int × Unit))))) → Option (ByteArray × Int)
  | (x0, x1) =>
  Option.bind (RI N x0) fun y0 =>
  ac (decide (ByteArray.size y0 ≤ 140737488355328)) (
  Option.bind (fU N N ((0 : Int), (↑(List.length x1) : Int), (↑(List.length (bytesOf y0)) : Int), x1, bytesOf y0)) fun y1 =>
  match y1 with
  | .inl y2 =>
  some ((y2.1, y2.2))
  | .inr y2 =>
  ac (decide ((0 : Int) ≤ y2.1 ∧ y2.1 ≤ (↑(List.length y2.2) : Int))) (
  some ((aI (List.take (List.length y2.2 - Int.toNat y2.1) (List.drop (Int.toNat y2.1) y2.2)), (0 : Int)))) (
  none)) (
  none)
noncomputable def ai6 (N : Nat) : Pk → Tr Pk := ak s152 w152 (I7 N)
theorem Ur (N : Nat) : aO Tryz.prog 152 (ai6 N) :=
  (ah ai aA (qQ N) Tryz.func152 s152 w152 [] (cuts := [(62670, kQ.cut (bI N N)), (122, xJ.cut (fU N N))]) ⟨ov N N, GB N N, trivial⟩ (fun _ => by kernel_rfl) (by kernel_rfl) (I7 N) (fun x => by kernel_rfl))
@[reducible] def s123 : SP := ⟨[.adr 0 [], .int .i64, .str, .int .i64], [.var (.agg [.str, .int .i64, .int .i64])]⟩
noncomputable def WS (N : Nat) : av := [(64, T64 N), (149, ai8 N), (150, ai7 N), (151, Us N), (152, ai6 N)]
theorem Lv (N : Nat) : aj Tryz.prog (WS N) := ⟨Q9 N, Uu N, Ut N, BJ N, Ur N, trivial⟩
@[reducible] def w123 : List SP := [⟨[.tup [.str, .int .i64]], [.var (.agg [.str, .int .i64, .int .i64])]⟩]
noncomputable def Jb (N : Nat) : (Int × ByteArray × Int × ByteArray × Int × Int) → Option (ByteArray × Int × ByteArray × Int × Int)
  | (x0, x1, x2, x3, x4, x5) =>
  Option.bind (F64 N ()) fun y0 =>
  ac (x0 == 2) (
  Option.bind (Sv N (x3, x4, x5)) fun y1 =>
  match y1 with
  | .inl y2 =>
  ac (y2.1 != 0) (
  some ((ByteArray.mk #[], y2.1, y2.2.1, y2.2.2.1, y2.2.2.2.1))) (
  Option.bind (I8 N (y2.2.2.2.2.1, y2.2.2.2.2.2, x2, y2.2.1, y2.2.2.1, y2.2.2.2.1)) fun y3 =>
  ac (y3.1 != 0) (
  Option.bind (DD N y3.1) fun y4 =>
  some ((ByteArray.mk #[], y4, y3.2.1, y3.2.2.1, y3.2.2.2.1))) (
  Option.bind (I7 N (x1, y3.2.2.2.2)) fun y5 =>
  some ((y5.1, y5.2, y3.2.1, y3.2.2.1, y3.2.2.2.1))))
  | .inr y2 =>
  ac (y2.2.2.2.1 != 0) (
  some ((ByteArray.mk #[], y2.2.2.2.1, y2.2.2.2.2.1, y2.2.2.2.2.2.1, y2.2.2.2.2.2.2.1))) (
  Option.bind (I8 N (List.take y2.1 (List.drop (0 : Nat) y2.2.2.2.2.2.2.2), List.take y2.2.2.1 (List.drop y2.2.1 y2.2.2.2.2.2.2.2), x2, y2.2.2.2.2.1, y2.2.2.2.2.2.1, y2.2.2.2.2.2.2.1)) fun y6 =>
  ac (y6.1 != 0) (
  Option.bind (DD N y6.1) fun y7 =>
  some ((ByteArray.mk #[], y7, y6.2.1, y6.2.2.1, y6.2.2.2.1))) (
  Option.bind (I7 N (x1, y6.2.2.2.2)) fun y8 =>
  some ((y8.1, y8.2, y6.2.1, y6.2.2.1, y6.2.2.2.1))))) (
  Option.bind (I8 N (y0.1, y0.2, x2, x3, x4, x5)) fun y9 =>
  ac (y9.1 != 0) (
  Option.bind (DD N y9.1) fun y10 =>
  some ((ByteArray.mk #[], y10, y9.2.1, y9.2.2.1, y9.2.2.2.1))) (
  Option.bind (I7 N (x1, y9.2.2.2.2)) fun y11 =>
  some ((y11.1, y11.2, y9.2.1, y9.2.2.1, y9.2.2.2.1))))
noncomputable def ak7 (N : Nat) : Pk → Tr Pk := ak s123 w123 (Jb N)
theorem UN (N : Nat) : aO Tryz.prog 123 (ak7 N) :=
  (ah ai aA (Lv N) Tryz.func123 s123 w123 [0] (cuts := []) trivial (fun _ => by kernel_rfl) (by kernel_rfl) (Jb N) (fun x => by kernel_rfl))
@[reducible] def s87 : SP := ⟨[.adr 0 [], .str, .int .i64], [.var (.agg [.str, .int .i64, .int .i64])]⟩
noncomputable def Zx (N : Nat) : av := [(120, yU N), (121, BK N), (122, ak8 N), (123, ak7 N)]
theorem Ou (N : Nat) : aj Tryz.prog (Zx N) := ⟨gv N, iP N, UO N, UN N, trivial⟩
@[reducible] def w87 : List SP := [⟨[.tup [.str, .bool, .int .i64, .int .i64]], [.var (.agg [.str, .int .i64, .int .i64])]⟩]
noncomputable def SZ (N : Nat) : (ByteArray × Int × ByteArray × Int × Int) → Option (ByteArray × Bool × Int × Int × ByteArray × Int × Int)
  | (x0, x1, x2, x3, x4) =>
  Option.bind (iA N ((1 : Int), x2, x3, x4)) fun y0 =>
  Option.bind (iA N ((2 : Int), y0.2.1, y0.2.2.1, y0.2.2.2)) fun y1 =>
  Option.bind (gH N (y1.2.1, y1.2.2.1, y1.2.2.2, ())) fun y2 =>
  ac (y2 != 0) (
  some ((ByteArray.mk #[], false, (0 : Int), y2, y1.2.1, y1.2.2.1, y1.2.2.2))) (
  ac (y1.1 == 0) (
  Option.bind (SG N (x1, y1.2.1, y1.2.2.1, y1.2.2.2)) fun y3 =>
  ac (y3.2.1 != 0) (
  some ((ByteArray.mk #[], false, (0 : Int), y3.2.1, y3.2.2.1, y3.2.2.2.1, y3.2.2.2.2))) (
  some ((y3.1, y0.1 == 1, y1.1, (0 : Int), y3.2.2.1, y3.2.2.2.1, y3.2.2.2.2)))) (
  ac (y1.1 == 1) (
  Option.bind (Jb N (y1.1, x0, x1, y1.2.1, y1.2.2.1, y1.2.2.2)) fun y4 =>
  ac (y4.2.1 != 0) (
  some ((ByteArray.mk #[], false, (0 : Int), y4.2.1, y4.2.2.1, y4.2.2.2.1, y4.2.2.2.2))) (
  some ((y4.1, y0.1 == 1, y1.1, (0 : Int), y4.2.2.1, y4.2.2.2.1, y4.2.2.2.2)))) (
  ac (y1.1 == 2) (
  Option.bind (Jb N (y1.1, x0, x1, y1.2.1, y1.2.2.1, y1.2.2.2)) fun y5 =>
  ac (y5.2.1 != 0) (
  some ((ByteArray.mk #[], false, (0 : Int), y5.2.1, y5.2.2.1, y5.2.2.2.1, y5.2.2.2.2))) (
  some ((y5.1, y0.1 == 1, y1.1, (0 : Int), y5.2.2.1, y5.2.2.2.1, y5.2.2.2.2)))) (
  some ((ByteArray.mk #[], false, (0 : Int), (80 : Int), y1.2.1, y1.2.2.1, y1.2.2.2))))))
noncomputable def T87 (N : Nat) : Pk → Tr Pk := ak s87 w87 (SZ N)
theorem Q0 (N : Nat) : aO Tryz.prog 87 (T87 N) :=
  (ah ai aA (Ou N) Tryz.func87 s87 w87 [0] (cuts := []) trivial (fun _ => by kernel_rfl) (by kernel_rfl) (SZ N) (fun x => by kernel_rfl))
@[reducible] def s41 : SP := ⟨[.str, .str, .int .i64], []⟩
noncomputable def aa5 (N : Nat) : av := [(85, T85 N), (86, T86 N), (88, YY N), (87, T87 N)]
theorem Eu (N : Nat) : aj Tryz.prog (aa5 N) := ⟨Q1 N, HS N, wj N, Q0 N, trivial⟩
@[reducible] def C9 : LD := ⟨124, [10, 9, 8, 0, 2], [(.ret, [6, 7]), (.exit 0, [10, 9])], ⟨[.bool, .str, .adr 0 [], .str, .int .i64], [.var (.agg [.str, .int .i64, .int .i64])]⟩, [(.ret, ⟨[.str, .int .i64], []⟩), (.exit 0, ⟨[.bool, .str], []⟩)]⟩
abbrev CE : Type := Bool × ByteArray × ByteArray × Int × ByteArray × Int × Int
abbrev BX : Type := ((ByteArray × Int) ⊕ (Bool × ByteArray))
noncomputable def t8 (N : Nat) (f : CE → Option BX) : CE → Option BX
  | (x0, x1, x2, x3, x4, x5, x6) =>
  Option.bind (U8 N (x4, x5, x6, ())) fun y0 =>
  ac (decide (y0 > 0)) (
  ac (decide ((↑(ByteArray.size x2 + ByteArray.size x1) : Int) > (9223372036854775807 : Int))) (
  none) (
  Option.bind (RI N (x2 ++ x1)) fun y1 =>
  Option.bind (SZ N (y1, IntKind.wrap .i64 (x3 - (↑(ByteArray.size x1) : Int)), x4, x5, x6)) fun y2 =>
  ac (y2.2.2.2.1 != 0) (
  some (.inl ((ByteArray.mk #[], y2.2.2.2.1)))) (
  ac y2.2.1 (
  some (.inl ((ByteArray.mk #[], (81 : Int))))) (
  ac (decide ((↑(ByteArray.size x1 + ByteArray.size y2.1) : Int) > (9223372036854775807 : Int))) (
  none) (
  ac (y2.2.2.1 == 0) (
  Option.bind (f (ByteArray.toList y2.1 == [], x1 ++ y2.1, x2, x3, y2.2.2.2.2.1, y2.2.2.2.2.2.1, y2.2.2.2.2.2.2)) fun r => match r with | .inl y => some (.inl y) | .inr y => some (.inr y)) (
  Option.bind (f (false, x1 ++ y2.1, x2, x3, y2.2.2.2.2.1, y2.2.2.2.2.2.1, y2.2.2.2.2.2.2)) fun r => match r with | .inl y => some (.inl y) | .inr y => some (.inr y))))))) (
  some (.inr ((x0, x1))))
noncomputable def cn (N : Nat) : Nat → CE → Option BX
  | 0, _ => none
  | k + 1, x => t8 N (cn N k) x
theorem Jm (N : Nat) (k : Nat) : ar Tryz.prog Tryz.f41 [] 124 (C9.cut (cn N k)) :=
  C9.loopT ai aA (Eu N) Tryz.f41 [] (cuts := []) trivial (by decide +kernel) (by kernel_rfl) (t8 N) (cn N) (fun _ => rfl) (fun _ _ => rfl) (fun f x => by kernel_rfl) k
@[reducible] def w41 : List SP := [⟨[.tup [.str, .int .i64]], []⟩]
noncomputable def YI (N : Nat) : (ByteArray × ByteArray × Int) → Option (ByteArray × Int)
  | (x0, x1, x2) =>
  Option.bind (F85 N x1) fun y0 =>
  Option.bind (cn N N (false, ByteArray.mk #[], x0, x2, y0.1, y0.2.1, y0.2.2)) fun y1 =>
  match y1 with
  | .inl y2 =>
  some ((y2.1, y2.2))
  | .inr y2 =>
  ac (!y2.1) (
  some ((ByteArray.mk #[], (81 : Int)))) (
  some ((y2.2, (0 : Int))))
noncomputable def T41 (N : Nat) : Pk → Tr Pk := ak s41 w41 (YI N)
theorem Rq (N : Nat) : aO Tryz.prog 41 (T41 N) :=
  (ah ai aA (Eu N) Tryz.func41 s41 w41 [] (cuts := [(124, C9.cut (cn N N))]) ⟨Jm N N, trivial⟩ (fun _ => by kernel_rfl) (by kernel_rfl) (YI N) (fun x => by kernel_rfl))
@[reducible] def y7 : Ty := (.cons (.cons .bool (.cons .str .unit)) (.cons (.int .i64) .unit))
@[reducible] def s89 : SP := ⟨[.radr y7 [.i 0 3], .str, .int .i64], []⟩
noncomputable def Zv (N : Nat) : av := [(35, T35 N), (41, T41 N)]
theorem Oq (N : Nat) : aj Tryz.prog (Zv N) := ⟨BG N, Rq N, trivial⟩
@[reducible] def w89 : List SP := [⟨[.tup [.str, .int .i64]], []⟩]
noncomputable def F89 (N : Nat) : (((Bool × (ByteArray × Unit)) × (Int × Unit)) × ByteArray × Int) → Option (ByteArray × Int)
  | (x0, x1, x2) =>
  ac (!x0.1.1) (
  Option.bind (FV N x1) fun y0 =>
  ac (y0 != 0) (
  some ((ByteArray.mk #[], y0))) (
  ac (decide ((0 : Int) ≤ (2 : Int) ∧ (2 : Int) ≤ (↑(ByteArray.size x1) : Int))) (
  Option.bind (YI N (x0.1.2.1, ByteArray.extract x1 (2 : Nat) (ByteArray.size x1), x2)) fun y1 =>
  some ((y1.1, y1.2))) (
  none))) (
  Option.bind (YI N (x0.1.2.1, x1, x2)) fun y2 =>
  some ((y2.1, y2.2)))
noncomputable def T89 (N : Nat) : Pk → Tr Pk := ak s89 w89 (F89 N)
theorem XL (N : Nat) : aO Tryz.prog 89 (T89 N) :=
  (ah ai aA (Oq N) Tryz.func89 s89 w89 [] (cuts := []) trivial (fun _ => by kernel_rfl) (by kernel_rfl) (F89 N) (fun x => by kernel_rfl))
@[reducible] def s42 : SP := ⟨[.adr 0 [], .str, .int .i64], [.var (.agg [.agg [.bool, .str], .int .i64])]⟩
noncomputable def aa4 (N : Nat) : av := [(89, T89 N), (80, T80 N)]
theorem OU (N : Nat) : aj Tryz.prog (aa4 N) := ⟨XL N, Q3 N, trivial⟩
@[reducible] def w42 : List SP := [⟨[.tup [.str, .int .i64]], [.var (.agg [.agg [.bool, .str], .int .i64])]⟩]
noncomputable def Zc (N : Nat) : (ByteArray × Int × Bool × ByteArray × Int) → Option (ByteArray × Int × Bool × ByteArray × Int)
  | (x0, x1, x2, x3, x4) =>
  ac (x4 != 0) (
  some ((ByteArray.mk #[], x4, x2, x3, x4))) (
  Option.bind (F89 N (((x2, x3, ()), x4, ()), x0, x1)) fun y0 =>
  ac (decide ((↑(ByteArray.size x3 + ByteArray.size y0.1) : Int) > (9223372036854775807 : Int))) (
  none) (
  Option.bind (RI N (x3 ++ y0.1)) fun y1 =>
  some ((y0.1, y0.2, true, y1, y0.2))))
noncomputable def T42 (N : Nat) : Pk → Tr Pk := ak s42 w42 (Zc N)
theorem X7 (N : Nat) : aO Tryz.prog 42 (T42 N) :=
  (ah ai aA (OU N) Tryz.func42 s42 w42 [0] (cuts := []) trivial (fun _ => by kernel_rfl) (by kernel_rfl) (Zc N) (fun x => by kernel_rfl))
@[reducible] def s145 : SP := ⟨[.int .i64], []⟩
noncomputable def WA (N : Nat) : av := []
theorem Lc (N : Nat) : aj Tryz.prog (WA N) := trivial
@[reducible] def w145 : List SP := [⟨[.tup [.int .i64, .int .i64]], []⟩]
noncomputable def YM (N : Nat) : (Int) → Option (Int × Int)
  | x0 =>
  some ((IntKind.wrap .i64 (↑(BitVec.toNat (BitVec.ofInt (64 : Nat) x0 &&& BitVec.ofInt (64 : Nat) (65535 : Int))) : Int), IntKind.wrap .i64 (↑(BitVec.toNat (BitVec.ofInt (64 : Nat) (Int.fdiv x0 (65536 : Int)) &&& BitVec.ofInt (64 : Nat) (65535 : Int))) : Int)))
noncomputable def aj1 (N : Nat) : Pk → Tr Pk := ak s145 w145 (YM N)
theorem Ux (N : Nat) : aO Tryz.prog 145 (aj1 N) :=
  (ah ai aA (Lc N) Tryz.func145 s145 w145 [] (cuts := []) trivial (fun _ => by kernel_rfl) (by kernel_rfl) (YM N) (fun x => by kernel_rfl))
@[reducible] def s117 : SP := ⟨[.int .i64, .str], []⟩
noncomputable def WX (N : Nat) : av := [(145, aj1 N)]
theorem qT (N : Nat) : aj Tryz.prog (WX N) := ⟨Ux N, trivial⟩
@[reducible] def nM : LD := ⟨3626, [5, 6, 21, 20, 7, 1], [(.ret, [4]), (.exit 2, [5, 6, 1, 7]), (.exit 1, [5, 6, 1]), (.exit 0, [6, 5])], ⟨[.int .i64, .int .i64, .int .i64, .int .i64, .int .i64, .str], []⟩, [(.exit 2, ⟨[.int .i64, .int .i64, .str, .int .i64], []⟩)]⟩
abbrev r6 : Type := Int × Int × Int × Int × Int × ByteArray
abbrev rO : Type := Int × Int × ByteArray × Int
noncomputable def AD (N : Nat) (f : r6 → Option rO) : r6 → Option rO
  | (x0, x1, x2, x3, x4, x5) =>
  ac (decide (x2 < x3)) (
  ac (decide ((0 : Int) ≤ x2)) (
  Option.bind (x5[Int.toNat x2]?) fun y0 =>
  Option.bind (f (IntKind.wrap .i64 (x0 + IntKind.wrap .i64 (↑(UInt8.toNat y0) : Int)), IntKind.wrap .i64 (x1 + IntKind.wrap .i64 (x0 + IntKind.wrap .i64 (↑(UInt8.toNat y0) : Int))), IntKind.wrap .i64 (x2 + 1), x3, x4, x5)) fun r => some r) (
  none)) (
  some ((x0, x1, x5, x4)))
noncomputable def gT (N : Nat) : Nat → r6 → Option rO
  | 0, _ => none
  | k + 1, x => AD N (gT N k) x
theorem qx (N : Nat) (k : Nat) : ar Tryz.prog Tryz.f117 [] 3626 (nM.cut (gT N k)) :=
  nM.loopT ai aA (qT N) Tryz.f117 [] (cuts := []) trivial (by decide +kernel) (by kernel_rfl) (AD N) (gT N) (fun _ => rfl) (fun _ _ => rfl) (fun f x => by kernel_rfl) k
@[reducible] def Dn : LD := ⟨28, [5, 6, 1], [(.ret, [4]), (.exit 0, [6, 5])], ⟨[.int .i64, .int .i64, .str], []⟩, [(.exit 0, ⟨[.int .i64, .int .i64], []⟩)]⟩
abbrev CS : Type := Int × Int × ByteArray
abbrev Cl : Type := Int × Int
noncomputable def KL (N : Nat) (f : CS → Option Cl) : CS → Option Cl
  | (x0, x1, x2) =>
  ac (decide ((↑(ByteArray.size x2) : Int) > (0 : Int))) (
  Option.bind (gT N N (x0, x1, (0 : Int), if (4096 : Int) < (↑(ByteArray.size x2) : Int) then (4096 : Int) else (↑(ByteArray.size x2) : Int), if (4096 : Int) < (↑(ByteArray.size x2) : Int) then (4096 : Int) else (↑(ByteArray.size x2) : Int), x2)) fun y0 =>
  ac (decide ((0 : Int) ≤ y0.2.2.2 ∧ y0.2.2.2 ≤ (↑(ByteArray.size y0.2.2.1) : Int))) (
  Option.bind (f (Int.tmod y0.1 (65521 : Int), Int.tmod y0.2.1 (65521 : Int), ByteArray.extract y0.2.2.1 (Int.toNat y0.2.2.2) (ByteArray.size y0.2.2.1))) fun r => some r) (
  none)) (
  some ((x1, x0)))
noncomputable def qq (N : Nat) : Nat → CS → Option Cl
  | 0, _ => none
  | k + 1, x => KL N (qq N k) x
theorem Jz (N : Nat) (k : Nat) : ar Tryz.prog Tryz.f117 [] 28 (Dn.cut (qq N k)) :=
  Dn.loopT ai aA (qT N) Tryz.f117 [] (cuts := [(3626, nM.cut (gT N N))]) ⟨qx N N, trivial⟩ (by decide +kernel) (by kernel_rfl) (KL N) (qq N) (fun _ => rfl) (fun _ _ => rfl) (fun f x => by kernel_rfl) k
@[reducible] def w117 : List SP := [⟨[.int .i64], []⟩]
noncomputable def YP (N : Nat) : (Int × ByteArray) → Option (Int)
  | (x0, x1) =>
  Option.bind (YM N x0) fun y0 =>
  Option.bind (qq N N (y0.1, y0.2, x1)) fun y1 =>
  some (IntKind.wrap .i64 (↑(BitVec.toNat (BitVec.ofInt (64 : Nat) (IntKind.wrap .i64 (y1.1 * 65536)) ||| BitVec.ofInt (64 : Nat) y1.2)) : Int))
noncomputable def ak9 (N : Nat) : Pk → Tr Pk := ak s117 w117 (YP N)
theorem UP (N : Nat) : aO Tryz.prog 117 (ak9 N) :=
  (ah ai aA (qT N) Tryz.func117 s117 w117 [] (cuts := [(3626, nM.cut (gT N N)), (28, Dn.cut (qq N N))]) ⟨qx N N, Jz N N, trivial⟩ (fun _ => by kernel_rfl) (by kernel_rfl) (YP N) (fun x => by kernel_rfl))
@[reducible] def s82 : SP := ⟨[.ro (.str)], []⟩
noncomputable def ZA (N : Nat) : av := [(117, ak9 N)]
theorem Ek (N : Nat) : aj Tryz.prog (ZA N) := ⟨UP N, trivial⟩
@[reducible] def ID : LD := ⟨58, [3, 8, 7, 6], [(.ret, [2]), (.exit 0, [3])], ⟨[.int .i64, .int .i64, .int .i64, .ro (.str)], []⟩, [(.exit 0, ⟨[.int .i64], []⟩)]⟩
abbrev Ik : Type := Int × Int × Int × (List ByteArray)
abbrev H0 : Type := Int
noncomputable def SS (N : Nat) (f : Ik → Option H0) : Ik → Option H0
  | (x0, x1, x2, x3) =>
  ac (decide (x1 < x2)) (
  ac (within x1 (List.length x3)) (
  Option.bind (x3[Int.toNat x1]?) fun y0 =>
  Option.bind (YP N (x0, y0)) fun y1 =>
  Option.bind (f (y1, IntKind.wrap .i64 (x1 + 1), x2, x3)) fun r => some r) (
  none)) (
  some (x0))
noncomputable def xV (N : Nat) : Nat → Ik → Option H0
  | 0, _ => none
  | k + 1, x => SS N (xV N k) x
theorem NI (N : Nat) (k : Nat) : ar Tryz.prog Tryz.f82 [] 58 (ID.cut (xV N k)) :=
  ID.loopT ai aA (Ek N) Tryz.f82 [] (cuts := []) trivial (by decide +kernel) (by kernel_rfl) (SS N) (xV N) (fun _ => rfl) (fun _ _ => rfl) (fun f x => by kernel_rfl) k
@[reducible] def w82 : List SP := [⟨[.int .i64], []⟩]
noncomputable def F82 (N : Nat) : ((List ByteArray)) → Option (Int)
  | x0 =>
  Option.bind (xV N N ((1 : Int), (0 : Int), (↑(List.length x0) : Int), x0)) fun y0 =>
  some (y0)
noncomputable def T82 (N : Nat) : Pk → Tr Pk := ak s82 w82 (F82 N)
theorem Q2 (N : Nat) : aO Tryz.prog 82 (T82 N) :=
  (ah ai aA (Ek N) Tryz.func82 s82 w82 [] (cuts := [(58, ID.cut (xV N N))]) ⟨NI N N, trivial⟩ (fun _ => by kernel_rfl) (by kernel_rfl) (F82 N) (fun x => by kernel_rfl))
@[reducible] def s116 : SP := ⟨[.int .i64, .int .i64], []⟩
noncomputable def WY (N : Nat) : av := [(141, Ys N)]
theorem zs (N : Nat) : aj Tryz.prog (WY N) := ⟨Kl N, trivial⟩
@[reducible] def xQ : LD := ⟨122, [25, 24, 6, 1], [(.ret, [4, 5]), (.exit 0, [6])], ⟨[.int .i64, .int .i64, .sl 0, .int .i64], [.row (.int .u8) 5]⟩, [(.exit 0, ⟨[.sl 0], [.row (.int .u8) 5]⟩)]⟩
abbrev xt : Type := Int × Int × Int × (List Int)
abbrev wS : Type := (List Int)
noncomputable def GN (N : Nat) (f : xt → Option wS) : xt → Option wS
  | (x0, x1, x2, x3) =>
  ac (decide (x0 < x1)) (
  ac (decide (IntKind.wrap .i64 ((8 : Int) * x0) < 0)) (
  none) (
  ac (within x0 (List.length x3)) (
  Option.bind (x3[Int.toNat x0]?) fun y0 =>
  Option.bind (f (IntKind.wrap .i64 (x0 + 1), x1, x2, List.set x3 (Int.toNat x0) (IntKind.wrap .u8 (Int.fdiv x2 ((2 : Int) ^ min (Int.toNat (IntKind.wrap .i64 ((8 : Int) * x0))) (64 : Nat)))))) fun r => some r) (
  none))) (
  some (x3))
noncomputable def mS (N : Nat) : Nat → xt → Option wS
  | 0, _ => none
  | k + 1, x => GN N (mS N k) x
theorem GI (N : Nat) (k : Nat) : ar Tryz.prog Tryz.f116 [] 122 (xQ.cut (mS N k)) :=
  xQ.loopT ai aA (zs N) Tryz.f116 [] (cuts := []) trivial (by decide +kernel) (by kernel_rfl) (GN N) (mS N) (fun _ => rfl) (fun _ _ => rfl) (fun f x => by kernel_rfl) k
@[reducible] def w116 : List SP := [⟨[.tup [.str, .int .i64]], []⟩]
noncomputable def YQ (N : Nat) : (Int × Int) → Option (ByteArray × Int)
  | (x0, x1) =>
  Option.bind (Nl N x0) fun y0 =>
  ac (!y0) (
  some ((ByteArray.mk #[], (1 : Int)))) (
  ac (decide (x1 < 0)) (
  some ((ByteArray.mk #[], (1 : Int)))) (
  ac (decide (IntKind.wrap .i64 ((8 : Int) * x0) < 0)) (
  none) (
  ac (Int.fdiv x1 ((2 : Int) ^ min (Int.toNat (IntKind.wrap .i64 ((8 : Int) * x0))) (64 : Nat)) != 0) (
  some ((ByteArray.mk #[], (1 : Int)))) (
  ac (decide ((0 : Int) ≤ x0 ∧ x0 ≤ x0 ∧ x0 * 1 ≤ (140737488355328 : Int) ∧ x0 ≤ 140737488355328)) (
  Option.bind (mS N N ((0 : Int), x0, x1, List.replicate (Int.toNat x0) (0 : Int))) fun y1 =>
  some ((aI y1, (0 : Int)))) (
  none)))))
noncomputable def al0 (N : Nat) : Pk → Tr Pk := ak s116 w116 (YQ N)
theorem UQ (N : Nat) : aO Tryz.prog 116 (al0 N) :=
  (ah ai aA (zs N) Tryz.func116 s116 w116 [] (cuts := [(122, xQ.cut (mS N N))]) ⟨GI N N, trivial⟩ (fun _ => by kernel_rfl) (by kernel_rfl) (YQ N) (fun x => by kernel_rfl))
@[reducible] def s81 : SP := ⟨[.int .i64, .int .i64], []⟩
noncomputable def ZB (N : Nat) : av := [(116, al0 N), (115, Yy N)]
theorem Ox (N : Nat) : aj Tryz.prog (ZB N) := ⟨UQ N, Kp N, trivial⟩
@[reducible] def w81 : List SP := [⟨[.tup [.str, .int .i64]], []⟩]
noncomputable def F81 (N : Nat) : (Int × Int) → Option (ByteArray × Int)
  | (x0, x1) =>
  Option.bind (YQ N (x0, x1)) fun y0 =>
  Option.bind (DF N y0.1) fun y1 =>
  some ((y1, y0.2))
noncomputable def T81 (N : Nat) : Pk → Tr Pk := ak s81 w81 (F81 N)
theorem XM (N : Nat) : aO Tryz.prog 81 (T81 N) :=
  (ah ai aA (Ox N) Tryz.func81 s81 w81 [] (cuts := []) trivial (fun _ => by kernel_rfl) (by kernel_rfl) (F81 N) (fun x => by kernel_rfl))
@[reducible] def s39 : SP := ⟨[.str], []⟩
noncomputable def aa6 (N : Nat) : av := [(82, T82 N), (81, T81 N), (30, T30 N)]
theorem OV (N : Nat) : aj Tryz.prog (aa6 N) := ⟨Q2 N, XM N, Yc N, trivial⟩
@[reducible] def w39 : List SP := [⟨[.str], []⟩]
noncomputable def F39 (N : Nat) : (ByteArray) → Option (ByteArray)
  | x0 =>
  Option.bind (F82 N [x0]) fun y0 =>
  Option.bind (F81 N ((4 : Int), y0)) fun y1 =>
  Option.bind (F30 N (ByteArray.mk #[], x0)) fun y2 =>
  ac (decide ((↑((2 : Nat) + ByteArray.size y2) : Int) > (9223372036854775807 : Int))) (
  none) (
  ac (decide ((↑(ByteArray.size (ByteArray.mk #[(120 : UInt8), (156 : UInt8)] ++ y2) + ByteArray.size y1.1) : Int) > (9223372036854775807 : Int))) (
  none) (
  some (ByteArray.mk #[(120 : UInt8), (156 : UInt8)] ++ y2 ++ y1.1)))
noncomputable def T39 (N : Nat) : Pk → Tr Pk := ak s39 w39 (F39 N)
theorem X8 (N : Nat) : aO Tryz.prog 39 (T39 N) :=
  (ah ai aA (OV N) Tryz.func39 s39 w39 [] (cuts := []) trivial (fun _ => by kernel_rfl) (by kernel_rfl) (F39 N) (fun x => by kernel_rfl))
@[reducible] def s139 : SP := ⟨[.adr 0 [], .str, .int .i64], [.var (.agg [.str, .int .i64, .int .i64])]⟩
noncomputable def WH (N : Nat) : av := [(87, T87 N)]
theorem Lj (N : Nat) : aj Tryz.prog (WH N) := ⟨Q0 N, trivial⟩
@[reducible] def w139 : List SP := [⟨[.tup [.str, .bool, .int .i64]], [.var (.agg [.str, .int .i64, .int .i64])]⟩]
noncomputable def YO (N : Nat) : (ByteArray × Int × ByteArray × Int × Int) → Option (ByteArray × Bool × Int × ByteArray × Int × Int)
  | (x0, x1, x2, x3, x4) =>
  Option.bind (SZ N (x0, x1, x2, x3, x4)) fun y0 =>
  some ((y0.1, y0.2.1, y0.2.2.2.1, y0.2.2.2.2.1, y0.2.2.2.2.2.1, y0.2.2.2.2.2.2))
noncomputable def aj5 (N : Nat) : Pk → Tr Pk := ak s139 w139 (YO N)
theorem UB (N : Nat) : aO Tryz.prog 139 (aj5 N) :=
  (ah ai aA (Lj N) Tryz.func139 s139 w139 [0] (cuts := []) trivial (fun _ => by kernel_rfl) (by kernel_rfl) (YO N) (fun x => by kernel_rfl))
@[reducible] def s140 : SP := ⟨[.radr y6 [.i 0 3]], []⟩
noncomputable def WG (N : Nat) : av := []
theorem Li (N : Nat) : aj Tryz.prog (WG N) := trivial
@[reducible] def w140 : List SP := [⟨[.int .i64], []⟩]
noncomputable def YN (N : Nat) : ((ByteArray × (Int × (Int × Unit)))) → Option (Int)
  | x0 =>
  some x0.2.1
noncomputable def aj4 (N : Nat) : Pk → Tr Pk := ak s140 w140 (YN N)
theorem UA (N : Nat) : aO Tryz.prog 140 (aj4 N) :=
  (ah ai aA (Li N) Tryz.func140 s140 w140 [] (cuts := []) trivial (fun _ => by kernel_rfl) (by kernel_rfl) (YN N) (fun x => by kernel_rfl))
@[reducible] def s112 : SP := ⟨[.str, .str, .int .i64], []⟩
noncomputable def W1 (N : Nat) : av := [(85, T85 N), (88, YY N), (139, aj5 N), (140, aj4 N)]
theorem zt (N : Nat) : aj Tryz.prog (W1 N) := ⟨Q1 N, wj N, UB N, UA N, trivial⟩
@[reducible] def xR : LD := ⟨122, [11, 9, 0, 2, 10], [(.ret, [6, 7, 8]), (.exit 0, [10, 9])], ⟨[.bool, .adr 0 [], .str, .int .i64, .str], [.var (.agg [.str, .int .i64, .int .i64])]⟩, [(.ret, ⟨[.str, .int .i64, .int .i64], []⟩), (.exit 0, ⟨[.str, .adr 0 []], [.var (.agg [.str, .int .i64, .int .i64])]⟩)]⟩
abbrev xu : Type := Bool × ByteArray × Int × ByteArray × ByteArray × Int × Int
abbrev wT : Type := ((ByteArray × Int × Int) ⊕ (ByteArray × ByteArray × Int × Int))
noncomputable def GO (N : Nat) (f : xu → Option wT) : xu → Option wT
  | (x0, x1, x2, x3, x4, x5, x6) =>
  ac (!x0) (
  ac (decide ((↑(ByteArray.size x1 + ByteArray.size x3) : Int) > (9223372036854775807 : Int))) (
  none) (
  Option.bind (RI N (x1 ++ x3)) fun y0 =>
  Option.bind (YO N (y0, IntKind.wrap .i64 (x2 - (↑(ByteArray.size x3) : Int)), x4, x5, x6)) fun y1 =>
  ac (y1.2.2.1 != 0) (
  some (.inl ((ByteArray.mk #[], (0 : Int), y1.2.2.1)))) (
  ac (decide ((↑(ByteArray.size x3 + ByteArray.size y1.1) : Int) > (9223372036854775807 : Int))) (
  none) (
  Option.bind (f (y1.2.1, x1, x2, x3 ++ y1.1, y1.2.2.2.1, y1.2.2.2.2.1, y1.2.2.2.2.2)) fun r => match r with | .inl y => some (.inl y) | .inr y => some (.inr y))))) (
  some (.inr ((x3, x4, x5, x6))))
noncomputable def mT (N : Nat) : Nat → xu → Option wT
  | 0, _ => none
  | k + 1, x => GO N (mT N k) x
theorem GJ (N : Nat) (k : Nat) : ar Tryz.prog Tryz.f112 [] 122 (xR.cut (mT N k)) :=
  xR.loopT ai aA (zt N) Tryz.f112 [] (cuts := []) trivial (by decide +kernel) (by kernel_rfl) (GO N) (mT N) (fun _ => rfl) (fun _ _ => rfl) (fun f x => by kernel_rfl) k
@[reducible] def w112 : List SP := [⟨[.tup [.str, .int .i64, .int .i64]], []⟩]
noncomputable def YS (N : Nat) : (ByteArray × ByteArray × Int) → Option (ByteArray × Int × Int)
  | (x0, x1, x2) =>
  Option.bind (F85 N x1) fun y0 =>
  Option.bind (mT N N (false, x0, x2, ByteArray.mk #[], y0.1, y0.2.1, y0.2.2)) fun y1 =>
  match y1 with
  | .inl y2 =>
  some ((y2.1, y2.2.1, y2.2.2))
  | .inr y2 =>
  Option.bind (YN N (y2.2.1, y2.2.2.1, y2.2.2.2, ())) fun y3 =>
  some ((y2.1, IntKind.wrap .i64 (Int.tdiv (IntKind.wrap .i64 (y3 + 7)) (8 : Int)), (0 : Int)))
noncomputable def al3 (N : Nat) : Pk → Tr Pk := ak s112 w112 (YS N)
theorem UT (N : Nat) : aO Tryz.prog 112 (al3 N) :=
  (ah ai aA (zt N) Tryz.func112 s112 w112 [] (cuts := [(122, xR.cut (mT N N))]) ⟨GJ N N, trivial⟩ (fun _ => by kernel_rfl) (by kernel_rfl) (YS N) (fun x => by kernel_rfl))
@[reducible] def s113 : SP := ⟨[.radr y6 [.i 0 3]], []⟩
noncomputable def W0 (N : Nat) : av := []
theorem Lz (N : Nat) : aj Tryz.prog (W0 N) := trivial
@[reducible] def w113 : List SP := [⟨[.int .i64], []⟩]
noncomputable def YR (N : Nat) : ((ByteArray × (Int × (Int × Unit)))) → Option (Int)
  | x0 =>
  some x0.2.1
noncomputable def al2 (N : Nat) : Pk → Tr Pk := ak s113 w113 (YR N)
theorem US (N : Nat) : aO Tryz.prog 113 (al2 N) :=
  (ah ai aA (Lz N) Tryz.func113 s113 w113 [] (cuts := []) trivial (fun _ => by kernel_rfl) (by kernel_rfl) (YR N) (fun x => by kernel_rfl))
@[reducible] def s76 : SP := ⟨[.str, .int .i64], []⟩
noncomputable def ZF (N : Nat) : av := [(35, T35 N), (112, al3 N), (77, T77 N), (78, T78 N), (79, T79 N), (82, T82 N), (113, al2 N)]
theorem OD (N : Nat) : aj Tryz.prog (ZF N) := ⟨BG N, UT N, Q6 N, Q5 N, Q4 N, Q2 N, US N, trivial⟩
@[reducible] def w76 : List SP := [⟨[.tup [.str, .int .i64, .int .i64]], []⟩]
noncomputable def F76 (N : Nat) : (ByteArray × Int) → Option (ByteArray × Int × Int)
  | (x0, x1) =>
  Option.bind (FV N x0) fun y0 =>
  ac (y0 != 0) (
  some ((ByteArray.mk #[], (0 : Int), y0))) (
  ac (decide ((0 : Int) ≤ (2 : Int) ∧ (2 : Int) ≤ (↑(ByteArray.size x0) : Int))) (
  Option.bind (YS N (ByteArray.mk #[], ByteArray.extract x0 (2 : Nat) (ByteArray.size x0), x1)) fun y1 =>
  ac (y1.2.2 != 0) (
  some ((ByteArray.mk #[], (0 : Int), y1.2.2))) (
  ac (decide ((0 : Int) ≤ IntKind.wrap .i64 ((2 : Int) + y1.2.1) ∧ IntKind.wrap .i64 ((2 : Int) + y1.2.1) ≤ (↑(ByteArray.size x0) : Int))) (
  Option.bind (YD N (ByteArray.extract x0 (Int.toNat (IntKind.wrap .i64 ((2 : Int) + y1.2.1))) (ByteArray.size x0))) fun y2 =>
  Option.bind (Va N ((4 : Int), y2.1, y2.2.1, y2.2.2)) fun y3 =>
  Option.bind (U9 N (y3.2.1, y3.2.2.1, y3.2.2.2, ())) fun y4 =>
  ac (y4 != 0) (
  Option.bind (U9 N (y3.2.1, y3.2.2.1, y3.2.2.2, ())) fun y5 =>
  some ((ByteArray.mk #[], (0 : Int), y5))) (
  Option.bind (F82 N [y1.1]) fun y6 =>
  ac (y3.1 != y6) (
  some ((ByteArray.mk #[], (0 : Int), (101 : Int)))) (
  Option.bind (YR N (y3.2.1, y3.2.2.1, y3.2.2.2, ())) fun y7 =>
  some ((y1.1, IntKind.wrap .i64 (IntKind.wrap .i64 ((2 : Int) + y1.2.1) + y7), (0 : Int)))))) (
  none))) (
  none))
noncomputable def T76 (N : Nat) : Pk → Tr Pk := ak s76 w76 (F76 N)
theorem XN (N : Nat) : aO Tryz.prog 76 (T76 N) :=
  (ah ai aA (OD N) Tryz.func76 s76 w76 [] (cuts := []) trivial (fun _ => by kernel_rfl) (by kernel_rfl) (F76 N) (fun x => by kernel_rfl))
@[reducible] def s43 : SP := ⟨[.radr y7 [.i 0 3]], []⟩
noncomputable def aa3 (N : Nat) : av := []
theorem OT (N : Nat) : aj Tryz.prog (aa3 N) := trivial
@[reducible] def w43 : List SP := [⟨[.int .i64], []⟩]
noncomputable def F43 (N : Nat) : (((Bool × (ByteArray × Unit)) × (Int × Unit))) → Option (Int)
  | x0 =>
  some x0.2.1
noncomputable def T43 (N : Nat) : Pk → Tr Pk := ak s43 w43 (F43 N)
theorem X6 (N : Nat) : aO Tryz.prog 43 (T43 N) :=
  (ah ai aA (OT N) Tryz.func43 s43 w43 [] (cuts := []) trivial (fun _ => by kernel_rfl) (by kernel_rfl) (F43 N) (fun x => by kernel_rfl))
@[reducible] def s34 : SP := ⟨[], []⟩
noncomputable def aa9 (N : Nat) : av := [(37, T37 N), (42, T42 N), (39, T39 N), (76, T76 N), (35, T35 N), (43, T43 N)]
theorem OY (N : Nat) : aj Tryz.prog (aa9 N) := ⟨Rr N, X7 N, X8 N, XN N, BG N, X6 N, trivial⟩
@[reducible] def w34 : List SP := [⟨[.bool], []⟩]
noncomputable def Ze (N : Nat) : (Unit) → Option (Bool)
  | () =>
  Option.bind (NY N (ByteArray.mk #[(97 : UInt8), (98 : UInt8), (99 : UInt8)], false, ByteArray.mk #[])) fun y0 =>
  Option.bind (Zc N (y0.1, (9 : Int), false, ByteArray.mk #[], (0 : Int))) fun y1 =>
  Option.bind (NY N (ByteArray.mk #[(97 : UInt8), (98 : UInt8), (99 : UInt8), (97 : UInt8), (98 : UInt8), (99 : UInt8)], y0.2.1, y0.2.2)) fun y2 =>
  Option.bind (Zc N (y2.1, (9 : Int), y1.2.2.1, y1.2.2.2.1, y1.2.2.2.2)) fun y3 =>
  Option.bind (F39 N (ByteArray.mk #[(97 : UInt8), (98 : UInt8), (99 : UInt8)])) fun y4 =>
  ac (decide ((↑(ByteArray.size y4 + 1) : Int) > (9223372036854775807 : Int))) (
  none) (
  Option.bind (F76 N (y4 ++ ByteArray.mk #[(120 : UInt8)], (9 : Int))) fun y5 =>
  Option.bind (FV N (ByteArray.mk #[(120 : UInt8), (156 : UInt8)])) fun y6 =>
  ac (y6 == 0) (
  Option.bind (FV N (ByteArray.mk #[(120 : UInt8), (157 : UInt8)])) fun y7 =>
  ac (y7 == 100) (
  ac (ByteArray.toList y1.1 == [(97 : UInt8), (98 : UInt8), (99 : UInt8)]) (
  ac (y1.2.1 == 0) (
  ac (ByteArray.toList y3.1 == [(97 : UInt8), (98 : UInt8), (99 : UInt8), (97 : UInt8), (98 : UInt8), (99 : UInt8)]) (
  ac (y3.2.1 == 0) (
  ac (ByteArray.toList y5.1 == [(97 : UInt8), (98 : UInt8), (99 : UInt8)]) (
  ac (decide (y5.2.1 > 6)) (
  ac (y5.2.2 == 0) (
  Option.bind (F43 N ((y3.2.2.1, y3.2.2.2.1, ()), y3.2.2.2.2, ())) fun y8 =>
  some (y8 == 0)) (
  some (false))) (
  some (false))) (
  some (false))) (
  some (false))) (
  some (false))) (
  some (false))) (
  some (false))) (
  some (false))) (
  some (false)))
noncomputable def T34 (N : Nat) : Pk → Tr Pk := ak s34 w34 (Ze N)
theorem X9 (N : Nat) : aO Tryz.prog 34 (T34 N) :=
  (ah ai aA (OY N) Tryz.func34 s34 w34 [] (cuts := []) trivial (fun _ => by kernel_rfl) (by kernel_rfl) (Ze N) (fun x => by kernel_rfl))
noncomputable def Zd (N : Nat) : (ByteArray) → Option (Int)
  | x0 =>
  ac (decide ((↑(ByteArray.size x0) : Int) < (2 : Int))) (
  some ((2 : Int))) (
  Option.bind (x0[(0 : Nat)]?) fun y0 =>
  Option.bind (x0[(1 : Nat)]?) fun y1 =>
  ac (Int.tmod (IntKind.wrap .i64 (↑(UInt8.toNat y0) : Int)) (16 : Int) != (8 : Int)) (
  some ((100 : Int))) (
  ac (decide (IntKind.wrap .i64 (Int.tdiv (IntKind.wrap .i64 (↑(UInt8.toNat y0) : Int)) (16 : Int)) > 7)) (
  some ((100 : Int))) (
  ac (Int.tmod (IntKind.wrap .i64 (Int.tdiv (IntKind.wrap .i64 (↑(UInt8.toNat y1) : Int)) (32 : Int))) (2 : Int) == (1 : Int)) (
  some ((100 : Int))) (
  ac (Int.tmod (IntKind.wrap .i64 (IntKind.wrap .i64 (IntKind.wrap .i64 (↑(UInt8.toNat y0) : Int) * (256 : Int)) + IntKind.wrap .i64 (↑(UInt8.toNat y1) : Int))) (31 : Int) != (0 : Int)) (
  some ((100 : Int))) (
  some ((0 : Int)))))))
@[reducible] def s11 : SP := ⟨[.str, .str, .str], []⟩
noncomputable def ac7 (N : Nat) : av := [(34, T34 N), (37, T37 N), (35, T35 N), (33, T33 N), (41, T41 N)]
theorem ED (N : Nat) : aj Tryz.prog (ac7 N) := ⟨X9 N, Rr N, BG N, Ya N, Rq N, trivial⟩
@[reducible] def IS : LD := ⟨31, [2, 1, 0, 7], [(.ret, [6]), (.normal, [6])], ⟨[.str, .str, .str, .bool], []⟩, [(.ret, ⟨[.bool], []⟩)]⟩
noncomputable def yn (N : Nat) : (ByteArray × ByteArray × ByteArray × Bool) → Option (Bool)
  | (x0, x1, x2, x3) =>
  Option.bind (NY N (x2, false, ByteArray.mk #[])) fun y0 =>
  Option.bind (NY N (x0, false, ByteArray.mk #[])) fun y1 =>
  Option.bind (NY N (x1, y0.2.1, y0.2.2)) fun y2 =>
  Option.bind (FV N y0.1) fun y3 =>
  ac (y3 != 0) (
  some (false)) (
  Option.bind (FV N y1.1) fun y4 =>
  ac (y4 != 0) (
  some (false)) (
  ac (decide ((0 : Int) ≤ (2 : Int) ∧ (2 : Int) ≤ (↑(ByteArray.size y0.1) : Int))) (
  ac (decide ((↑(ByteArray.size (ByteArray.extract y0.1 (2 : Nat) (ByteArray.size y0.1)) + ByteArray.size y2.1) : Int) > (9223372036854775807 : Int))) (
  none) (
  Option.bind (F33 N (ByteArray.mk #[], ByteArray.extract y0.1 (2 : Nat) (ByteArray.size y0.1) ++ y2.1, (5000 : Int))) fun y5 =>
  ac (decide ((0 : Int) ≤ (2 : Int) ∧ (2 : Int) ≤ (↑(ByteArray.size y1.1) : Int))) (
  Option.bind (YI N (ByteArray.mk #[], ByteArray.extract y1.1 (2 : Nat) (ByteArray.size y1.1), (5000 : Int))) fun y6 =>
  ac (x3) (
  ac (decide ((↑(ByteArray.size x2 + ByteArray.size x1) : Int) > (9223372036854775807 : Int))) (
  none) (
  ac (ByteArray.toList y5.1 == ByteArray.toList (x2 ++ x1)) (
  ac (y5.2 == 0) (
  ac (ByteArray.toList y6.1 == ByteArray.toList x0) (
  ac (y6.2 == 0) (
  Option.bind (NY N (x0, false, ByteArray.mk #[])) fun y7 =>
  some (ByteArray.toList y7.1 == ByteArray.toList y1.1)) (
  some (false))) (
  some (false))) (
  some (false))) (
  some (false)))) (
  some (false))) (
  none))) (
  none)))
theorem NW (N : Nat) (k : Nat) : ar Tryz.prog Tryz.f11 [] 31 (IS.cut (yn N)) :=
  IS.pieceT ai aA (ED N) Tryz.f11 [] (cuts := []) trivial (by decide +kernel) (by kernel_rfl) (yn N) (fun x => by kernel_rfl)
@[reducible] def w11 : List SP := [⟨[.bool], []⟩]
noncomputable def YT (N : Nat) : (ByteArray × ByteArray × ByteArray) → Option (Bool)
  | (x0, x1, x2) =>
  Option.bind (Ze N ()) fun y0 =>
  ac (!y0) (
  some (false)) (
  ac (decide ((↑(ByteArray.size x0) : Int) > (600 : Int))) (
  some (y0)) (
  ac (decide ((↑(ByteArray.size x1) : Int) > (600 : Int))) (
  some (y0)) (
  ac (decide ((↑(ByteArray.size x2) : Int) > (600 : Int))) (
  some (y0)) (
  Option.bind (yn N (x2, x1, x0, y0)) fun y1 =>
  some (y1)))))
noncomputable def T11 (N : Nat) : Pk → Tr Pk := ak s11 w11 (YT N)
theorem Yx (N : Nat) : aO Tryz.prog 11 (T11 N) :=
  (ah ai aA (ED N) Tryz.func11 s11 w11 [] (cuts := [(31, IS.cut (yn N))]) ⟨NW N N, trivial⟩ (fun _ => by kernel_rfl) (by kernel_rfl) (YT N) (fun x => by kernel_rfl))
end Go.Proofs.YteddgkplkjldcaaGreat.Am
