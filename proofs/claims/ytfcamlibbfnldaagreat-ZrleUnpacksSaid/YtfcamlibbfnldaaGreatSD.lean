/- The seat's Go functions come to the Lean functions written here, wherever these give an answer (part D). -/
import Derived.Test.YtfcamlibbfnldaaGreatSC
set_option linter.unusedSimpArgs false
set_option linter.unusedVariables false
set_option linter.unusedSectionVars false
set_option maxRecDepth 100000
namespace Go.Proofs.YtfcamlibbfnldaaGreat.Am
open Go.Am
@[reducible] def s149 : SP := ⟨[.adr 0 [],.int .i64,.int .i64],[.var 137 (.agg [.agg [.int .i64,.int .i64,.bool,.bool,.int .i64,.int .i64,.int .i64,.int .i64,.int .i64,.int .i64],.int .i64,.adr 1 []]),.var 135 (.agg [.str,.int .i64,.int .i64])]⟩
noncomputable def Y6 (N : Nat) : List (Nat × (Pk → Tr Pk)) := [(146,Vd N),(145,Ve N),(217,aC9 N),(147,Vb N)]
theorem nN (N : Nat) : ah Tryz.prog (Y6 N) := ⟨zH N,zI N,UJ N,zG N,trivial⟩
@[reducible] def uI : LD := ⟨15454,[9,13,11,8,0,2,1,10],[(.ret,[6,7]),(.exit 2,[9,1,2,0,8]),(.exit 1,[9,1,2,0,8]),(.exit 0,[9])],⟨[.sl 2,.int .i64,.int .i64,.sl 3,.adr 0 [],.int .i64,.int .i64,.int .i64],[.var 137 (.agg [.agg [.int .i64,.int .i64,.bool,.bool,.int .i64,.int .i64,.int .i64,.int .i64,.int .i64,.int .i64],.int .i64,.adr 1 []]),.var 135 (.agg [.str,.int .i64,.int .i64]),.row (.int .i64) 3,.row (.int .i64) 3]⟩,[(.exit 2,⟨[.sl 2,.int .i64,.int .i64,.adr 0 [],.sl 3],[.var 137 (.agg [.agg [.int .i64,.int .i64,.bool,.bool,.int .i64,.int .i64,.int .i64,.int .i64,.int .i64,.int .i64],.int .i64,.adr 1 []]),.var 135 (.agg [.str,.int .i64,.int .i64]),.row (.int .i64) 3,.row (.int .i64) 3]⟩)]⟩
abbrev lE : Type := Int × Int × Int × Int × Int × Int × Int × Bool × Bool × Int × Int × Int × Int × Int × Int × Int × ByteArray × Int × Int × (List Int) × (List Int)
abbrev lw : Type := Int × Int × Int × Int × Bool × Bool × Int × Int × Int × Int × Int × Int × Int × ByteArray × Int × Int × (List Int) × (List Int)
noncomputable def dk (N : Nat) (f : lE → Option lw) : lE → Option lw
  | (x0,x1,x2,x3,x4,x5,x6,x7,x8,x9,x10,x11,x12,x13,x14,x15,x16,x17,x18,x19,x20) =>
  ac (decide (x0 < x1)) (
    ac (decide ((List.length x19 + List.length [x4]) * (8 : Nat) ≤ (140737488355328 : Nat) ∧ List.length x19 + List.length [x4] ≤ (140737488355328 : Nat))) (
      Option.bind (f (IntKind.wrap IntKind.i64 (x0 + (1 : Int)),x1,x2,x3,x4,x5,x6,x7,x8,x9,x10,x11,x12,x13,x14,x15,x16,x17,x18,x19 ++ [x4],x20)) fun r => some r) (
      none )) (
    some ((x3,x2,x5,x6,x7,x8,x9,x10,x11,x12,x13,x14,x15,x16,x17,x18,x19,x20)))
noncomputable def a6 (N : Nat) : Nat → lE → Option lw
  | 0,_ => none
  | k + 1,x => dk N (a6 N k) x
noncomputable def lN (N : Nat) (k : Nat) : Cut := uI.cut (a6 N k)
theorem kP (N : Nat) (k : Nat) : aj Tryz.prog false Tryz.f149 [0,1] 15454 (lN N k) :=
  uI.loopT af al (nN N) Tryz.f149 [0,1] (cuts := []) trivial (by decide +kernel) (by kernel_rfl) (dk N) (a6 N) (fun _ => rfl) (fun _ _ => rfl) (fun f x => by kernel_rfl) k
@[reducible] def J1 : LD := ⟨60,[9,1,2,0,8],[(.ret,[6,7]),(.exit 0,[9])],⟨[.sl 2,.int .i64,.int .i64,.adr 0 [],.sl 3],[.var 137 (.agg [.agg [.int .i64,.int .i64,.bool,.bool,.int .i64,.int .i64,.int .i64,.int .i64,.int .i64,.int .i64],.int .i64,.adr 1 []]),.var 135 (.agg [.str,.int .i64,.int .i64]),.row (.int .i64) 3,.row (.int .i64) 3]⟩,[(.ret,⟨[.sl 2,.bool],[.var 137 (.agg [.agg [.int .i64,.int .i64,.bool,.bool,.int .i64,.int .i64,.int .i64,.int .i64,.int .i64,.int .i64],.int .i64,.adr 1 []]),.var 135 (.agg [.str,.int .i64,.int .i64]),.row (.int .i64) 3]⟩),(.exit 0,⟨[.sl 2],[.var 137 (.agg [.agg [.int .i64,.int .i64,.bool,.bool,.int .i64,.int .i64,.int .i64,.int .i64,.int .i64,.int .i64],.int .i64,.adr 1 []]),.var 135 (.agg [.str,.int .i64,.int .i64]),.row (.int .i64) 3]⟩)]⟩
abbrev Bd : Type := Int × Int × Int × Int × Bool × Bool × Int × Int × Int × Int × Int × Int × Int × ByteArray × Int × Int × (List Int) × (List Int)
abbrev qO : Type := ((Bool × Int × Int × Bool × Bool × Int × Int × Int × Int × Int × Int × Int × ByteArray × Int × Int × (List Int)) ⊕ (Int × Int × Bool × Bool × Int × Int × Int × Int × Int × Int × Int × ByteArray × Int × Int × (List Int)))
noncomputable def fb (N : Nat) (f : Bd → Option qO) : Bd → Option qO
  | (x0,x1,x2,x3,x4,x5,x6,x7,x8,x9,x10,x11,x12,x13,x14,x15,x16,x17) =>
  ac (decide ((↑(List.length x16) : Int) < x1)) (
    ac (decide (x0 > (0 : Int))) (
      Option.bind (He N ((1 : Int),x13,x14,x15)) fun y0 =>
      ac (decide (Int.tmod y0.1 (128 : Int) ≥ x0)) (
        some (.inl ((false,x2,x3,x4,x5,x6,x7,x8,x9,x10,x11,x12,y0.2.1,y0.2.2.1,y0.2.2.2,[])))) (
        ac (within (Int.tmod y0.1 (128 : Int)) (List.length x17)) (
          Option.bind (x17[Int.toNat (Int.tmod y0.1 (128 : Int))]?) fun y1 =>
          ac (decide (y0.1 ≥ (128 : Int))) (
            Option.bind (Od N (x2,x3,x4,x5,x6,x7,x8,x9,x10,x11,x12,y0.2.1,y0.2.2.1,y0.2.2.2)) fun (y2_0,y2_1,y2_2,y2_3,y2_4,y2_5,y2_6,y2_7,y2_8,y2_9,y2_10,y2_11,y2_12,y2_13,y2_14) =>
            ac (y2_14 != (0 : Int)) (
              some (.inl ((false,y2_1,y2_2,y2_3,y2_4,y2_5,y2_6,y2_7,y2_8,y2_9,y2_10,y2_11,y2_12,y2_13,y2_14,[])))) (
              ac (decide (y2_0 > IntKind.wrap IntKind.i64 (x1 - (↑(List.length x16) : Int)))) (
                some (.inl ((false,y2_1,y2_2,y2_3,y2_4,y2_5,y2_6,y2_7,y2_8,y2_9,y2_10,y2_11,y2_12,y2_13,y2_14,[])))) (
                Option.bind (a6 N N ((0 : Int),y2_0,x1,x0,y1,y2_1,y2_2,y2_3,y2_4,y2_5,y2_6,y2_7,y2_8,y2_9,y2_10,y2_11,y2_12,y2_13,y2_14,x16,x17)) fun (y3_0,y3_1,y3_2,y3_3,y3_4,y3_5,y3_6,y3_7,y3_8,y3_9,y3_10,y3_11,y3_12,y3_13,y3_14,y3_15,y3_16,y3_17) =>
                Option.bind (f (y3_0,y3_1,y3_2,y3_3,y3_4,y3_5,y3_6,y3_7,y3_8,y3_9,y3_10,y3_11,y3_12,y3_13,y3_14,y3_15,y3_16,y3_17)) fun r => match r with | .inl y => some (.inl y) | .inr y => some (.inr y)))) (
            ac (y0.2.2.2 != (0 : Int)) (
              some (.inl ((false,x2,x3,x4,x5,x6,x7,x8,x9,x10,x11,x12,y0.2.1,y0.2.2.1,y0.2.2.2,[])))) (
              ac (decide ((1 : Int) > IntKind.wrap IntKind.i64 (x1 - (↑(List.length x16) : Int)))) (
                some (.inl ((false,x2,x3,x4,x5,x6,x7,x8,x9,x10,x11,x12,y0.2.1,y0.2.2.1,y0.2.2.2,[])))) (
                Option.bind (a6 N N ((0 : Int),(1 : Int),x1,x0,y1,x2,x3,x4,x5,x6,x7,x8,x9,x10,x11,x12,y0.2.1,y0.2.2.1,y0.2.2.2,x16,x17)) fun (y4_0,y4_1,y4_2,y4_3,y4_4,y4_5,y4_6,y4_7,y4_8,y4_9,y4_10,y4_11,y4_12,y4_13,y4_14,y4_15,y4_16,y4_17) =>
                Option.bind (f (y4_0,y4_1,y4_2,y4_3,y4_4,y4_5,y4_6,y4_7,y4_8,y4_9,y4_10,y4_11,y4_12,y4_13,y4_14,y4_15,y4_16,y4_17)) fun r => match r with | .inl y => some (.inl y) | .inr y => some (.inr y))))) (
          none ))) (
      Option.bind (Hc N (x2,x3,x4,x5,x6,x7,x8,x9,x10,x11,x12,x13,x14,x15)) fun (y5_0,y5_1,y5_2,y5_3,y5_4,y5_5,y5_6,y5_7,y5_8,y5_9,y5_10,y5_11,y5_12,y5_13,y5_14) =>
      Option.bind (Od N (y5_1,y5_2,y5_3,y5_4,y5_5,y5_6,y5_7,y5_8,y5_9,y5_10,y5_11,y5_12,y5_13,y5_14)) fun (y6_0,y6_1,y6_2,y6_3,y6_4,y6_5,y6_6,y6_7,y6_8,y6_9,y6_10,y6_11,y6_12,y6_13,y6_14) =>
      ac (y6_14 != (0 : Int)) (
        some (.inl ((false,y6_1,y6_2,y6_3,y6_4,y6_5,y6_6,y6_7,y6_8,y6_9,y6_10,y6_11,y6_12,y6_13,y6_14,[])))) (
        ac (decide (y6_0 > IntKind.wrap IntKind.i64 (x1 - (↑(List.length x16) : Int)))) (
          some (.inl ((false,y6_1,y6_2,y6_3,y6_4,y6_5,y6_6,y6_7,y6_8,y6_9,y6_10,y6_11,y6_12,y6_13,y6_14,[])))) (
          Option.bind (a6 N N ((0 : Int),y6_0,x1,x0,y5_0,y6_1,y6_2,y6_3,y6_4,y6_5,y6_6,y6_7,y6_8,y6_9,y6_10,y6_11,y6_12,y6_13,y6_14,x16,x17)) fun (y7_0,y7_1,y7_2,y7_3,y7_4,y7_5,y7_6,y7_7,y7_8,y7_9,y7_10,y7_11,y7_12,y7_13,y7_14,y7_15,y7_16,y7_17) =>
          Option.bind (f (y7_0,y7_1,y7_2,y7_3,y7_4,y7_5,y7_6,y7_7,y7_8,y7_9,y7_10,y7_11,y7_12,y7_13,y7_14,y7_15,y7_16,y7_17)) fun r => match r with | .inl y => some (.inl y) | .inr y => some (.inr y))))) (
    some (.inr ((x2,x3,x4,x5,x6,x7,x8,x9,x10,x11,x12,x13,x14,x15,x16))))
noncomputable def cO (N : Nat) : Nat → Bd → Option qO
  | 0,_ => none
  | k + 1,x => fb N (cO N k) x
noncomputable def KS (N : Nat) (k : Nat) : Cut := J1.cut (cO N k)
theorem HZ (N : Nat) (k : Nat) : aj Tryz.prog false Tryz.f149 [0,1] 60 (KS N k) :=
  J1.loopT af al (nN N) Tryz.f149 [0,1] (cuts := [(15454,lN N N)]) ⟨kP N N,trivial⟩ (by decide +kernel) (by kernel_rfl) (fb N) (cO N) (fun _ => rfl) (fun _ _ => rfl) (fun f x => by kernel_rfl) k
@[reducible] def w149 : List SP := [⟨[.tup [.sl 2,.bool]],[.var 137 (.agg [.agg [.int .i64,.int .i64,.bool,.bool,.int .i64,.int .i64,.int .i64,.int .i64,.int .i64,.int .i64],.int .i64,.adr 1 []]),.var 135 (.agg [.str,.int .i64,.int .i64]),.row (.int .i64) 3]⟩]
noncomputable def D4 (N : Nat) : (Int × Int × Int × Int × Bool × Bool × Int × Int × Int × Int × Int × Int × Int × ByteArray × Int × Int) → Option (Bool × Int × Int × Bool × Bool × Int × Int × Int × Int × Int × Int × Int × ByteArray × Int × Int × (List Int))
  | (x0,x1,x2,x3,x4,x5,x6,x7,x8,x9,x10,x11,x12,x13,x14,x15) =>
  Option.bind (Hd N (x0,x2,x3,x4,x5,x6,x7,x8,x9,x10,x11,x12,x13,x14,x15)) fun (y0_0,y0_1,y0_2,y0_3,y0_4,y0_5,y0_6,y0_7,y0_8,y0_9,y0_10,y0_11,y0_12,y0_13,y0_14) =>
  Option.bind (cO N N (x0,x1,y0_0,y0_1,y0_2,y0_3,y0_4,y0_5,y0_6,y0_7,y0_8,y0_9,y0_10,y0_11,y0_12,y0_13,[],y0_14)) fun y1 =>
  match y1 with
  | .inl (y2_0,y2_1,y2_2,y2_3,y2_4,y2_5,y2_6,y2_7,y2_8,y2_9,y2_10,y2_11,y2_12,y2_13,y2_14,y2_15) =>
    some ((y2_0,y2_1,y2_2,y2_3,y2_4,y2_5,y2_6,y2_7,y2_8,y2_9,y2_10,y2_11,y2_12,y2_13,y2_14,y2_15))
  | .inr (y2_0,y2_1,y2_2,y2_3,y2_4,y2_5,y2_6,y2_7,y2_8,y2_9,y2_10,y2_11,y2_12,y2_13,y2_14) =>
    some ((true,y2_0,y2_1,y2_2,y2_3,y2_4,y2_5,y2_6,y2_7,y2_8,y2_9,y2_10,y2_11,y2_12,y2_13,y2_14))
noncomputable def aF3 (N : Nat) : Pk → Tr Pk := ag s149 w149 (D4 N)
theorem U9 (N : Nat) : au Tryz.prog (149) (aF3 N) :=
  (ae af al (nN N) Tryz.func149 s149 w149 [0,1] (cuts := [(15454,lN N N),(60,KS N N)]) ⟨kP N N,HZ N N,trivial⟩ (fun _ => by kernel_rfl) (by decide +kernel) (D4 N) (fun x => by kernel_rfl))
@[reducible] def s88 : SP := ⟨[.adr 0 [],.int .i64,.int .i64],[.var 137 (.agg [.agg [.int .i64,.int .i64,.bool,.bool,.int .i64,.int .i64,.int .i64,.int .i64,.int .i64,.int .i64],.int .i64,.adr 1 []]),.var 135 (.agg [.str,.int .i64,.int .i64])]⟩
noncomputable def ao5 (N : Nat) : List (Nat × (Pk → Tr Pk)) := [(145,Ve N),(146,Vd N),(147,Vb N),(148,aF4 N),(149,aF3 N)]
theorem BU (N : Nat) : ah Tryz.prog (ao5 N) := ⟨zI N,zH N,zG N,Va N,U9 N,trivial⟩
@[reducible] def C5 : LD := ⟨8026,[10,11,1,2,9],[(.ret,[6,7]),(.exit 0,[10])],⟨[.sl 2,.int .i64,.int .i64,.int .i64,.int .i64],[.var 137 (.agg [.agg [.int .i64,.int .i64,.bool,.bool,.int .i64,.int .i64,.int .i64,.int .i64,.int .i64,.int .i64],.int .i64,.adr 1 []]),.var 135 (.agg [.str,.int .i64,.int .i64]),.row (.int .i64) 3]⟩,[(.exit 0,⟨[.sl 2],[.var 137 (.agg [.agg [.int .i64,.int .i64,.bool,.bool,.int .i64,.int .i64,.int .i64,.int .i64,.int .i64,.int .i64],.int .i64,.adr 1 []]),.var 135 (.agg [.str,.int .i64,.int .i64]),.row (.int .i64) 3]⟩)]⟩
abbrev tM : Type := Int × Int × Int × Int × Int × Int × Bool × Bool × Int × Int × Int × Int × Int × Int × Int × ByteArray × Int × Int × (List Int)
abbrev sS : Type := Int × Int × Bool × Bool × Int × Int × Int × Int × Int × Int × Int × ByteArray × Int × Int × (List Int)
noncomputable def gn (N : Nat) (f : tM → Option sS) : tM → Option sS
  | (x0,x1,x2,x3,x4,x5,x6,x7,x8,x9,x10,x11,x12,x13,x14,x15,x16,x17,x18) =>
  ac (decide (x0 < IntKind.wrap IntKind.i64 (x1 * x2))) (
    ac (decide ((List.length x18 + List.length [x3]) * (8 : Nat) ≤ (140737488355328 : Nat) ∧ List.length x18 + List.length [x3] ≤ (140737488355328 : Nat))) (
      Option.bind (f (IntKind.wrap IntKind.i64 (x0 + (1 : Int)),x1,x2,x3,x4,x5,x6,x7,x8,x9,x10,x11,x12,x13,x14,x15,x16,x17,x18 ++ [x3])) fun r => some r) (
      none )) (
    some ((x4,x5,x6,x7,x8,x9,x10,x11,x12,x13,x14,x15,x16,x17,x18)))
noncomputable def cM (N : Nat) : Nat → tM → Option sS
  | 0,_ => none
  | k + 1,x => gn N (cM N k) x
noncomputable def Eb (N : Nat) (k : Nat) : Cut := C5.cut (cM N k)
theorem Ea (N : Nat) (k : Nat) : aj Tryz.prog false Tryz.f88 [0,1] 8026 (Eb N k) :=
  C5.loopT af al (BU N) Tryz.f88 [0,1] (cuts := []) trivial (by decide +kernel) (by kernel_rfl) (gn N) (cM N) (fun _ => rfl) (fun _ _ => rfl) (fun f x => by kernel_rfl) k
@[reducible] def w88 : List SP := [⟨[.tup [.sl 2,.bool]],[.var 137 (.agg [.agg [.int .i64,.int .i64,.bool,.bool,.int .i64,.int .i64,.int .i64,.int .i64,.int .i64,.int .i64],.int .i64,.adr 1 []]),.var 135 (.agg [.str,.int .i64,.int .i64]),.row (.int .i64) 3]⟩]
noncomputable def F88 (N : Nat) : (Int × Int × Int × Int × Bool × Bool × Int × Int × Int × Int × Int × Int × Int × ByteArray × Int × Int) → Option (Bool × Int × Int × Bool × Bool × Int × Int × Int × Int × Int × Int × Int × ByteArray × Int × Int × (List Int))
  | (x0,x1,x2,x3,x4,x5,x6,x7,x8,x9,x10,x11,x12,x13,x14,x15) =>
  Option.bind (He N ((1 : Int),x13,x14,x15)) fun y0 =>
  ac (y0.2.2.2 != (0 : Int)) (
    some ((false,x2,x3,x4,x5,x6,x7,x8,x9,x10,x11,x12,y0.2.1,y0.2.2.1,y0.2.2.2,[]))) (
    ac (y0.1 == (0 : Int)) (
      Option.bind (Hd N (IntKind.wrap IntKind.i64 (x0 * x1),x2,x3,x4,x5,x6,x7,x8,x9,x10,x11,x12,y0.2.1,y0.2.2.1,y0.2.2.2)) fun (y1_0,y1_1,y1_2,y1_3,y1_4,y1_5,y1_6,y1_7,y1_8,y1_9,y1_10,y1_11,y1_12,y1_13,y1_14) =>
      some ((true,y1_0,y1_1,y1_2,y1_3,y1_4,y1_5,y1_6,y1_7,y1_8,y1_9,y1_10,y1_11,y1_12,y1_13,y1_14))) (
      ac (y0.1 == (1 : Int)) (
        Option.bind (Hc N (x2,x3,x4,x5,x6,x7,x8,x9,x10,x11,x12,y0.2.1,y0.2.2.1,y0.2.2.2)) fun (y2_0,y2_1,y2_2,y2_3,y2_4,y2_5,y2_6,y2_7,y2_8,y2_9,y2_10,y2_11,y2_12,y2_13,y2_14) =>
        Option.bind (cM N N ((0 : Int),x0,x1,y2_0,y2_1,y2_2,y2_3,y2_4,y2_5,y2_6,y2_7,y2_8,y2_9,y2_10,y2_11,y2_12,y2_13,y2_14,[])) fun (y3_0,y3_1,y3_2,y3_3,y3_4,y3_5,y3_6,y3_7,y3_8,y3_9,y3_10,y3_11,y3_12,y3_13,y3_14) =>
        some ((true,y3_0,y3_1,y3_2,y3_3,y3_4,y3_5,y3_6,y3_7,y3_8,y3_9,y3_10,y3_11,y3_12,y3_13,y3_14))) (
        ac (decide (y0.1 ≤ (16 : Int))) (
          Option.bind (RI N (y0.1,x0,x1,x2,x3,x4,x5,x6,x7,x8,x9,x10,x11,x12,y0.2.1,y0.2.2.1,y0.2.2.2)) fun (y4_0,y4_1,y4_2,y4_3,y4_4,y4_5,y4_6,y4_7,y4_8,y4_9,y4_10,y4_11,y4_12,y4_13,y4_14,y4_15) =>
          some ((y4_0,y4_1,y4_2,y4_3,y4_4,y4_5,y4_6,y4_7,y4_8,y4_9,y4_10,y4_11,y4_12,y4_13,y4_14,y4_15))) (
          ac (y0.1 == (128 : Int)) (
            Option.bind (D4 N (IntKind.wrap IntKind.i64 (y0.1 - (128 : Int)),IntKind.wrap IntKind.i64 (x0 * x1),x2,x3,x4,x5,x6,x7,x8,x9,x10,x11,x12,y0.2.1,y0.2.2.1,y0.2.2.2)) fun (y5_0,y5_1,y5_2,y5_3,y5_4,y5_5,y5_6,y5_7,y5_8,y5_9,y5_10,y5_11,y5_12,y5_13,y5_14,y5_15) =>
            some ((y5_0,y5_1,y5_2,y5_3,y5_4,y5_5,y5_6,y5_7,y5_8,y5_9,y5_10,y5_11,y5_12,y5_13,y5_14,y5_15))) (
            ac (decide (y0.1 ≥ (130 : Int))) (
              Option.bind (D4 N (IntKind.wrap IntKind.i64 (y0.1 - (128 : Int)),IntKind.wrap IntKind.i64 (x0 * x1),x2,x3,x4,x5,x6,x7,x8,x9,x10,x11,x12,y0.2.1,y0.2.2.1,y0.2.2.2)) fun (y6_0,y6_1,y6_2,y6_3,y6_4,y6_5,y6_6,y6_7,y6_8,y6_9,y6_10,y6_11,y6_12,y6_13,y6_14,y6_15) =>
              some ((y6_0,y6_1,y6_2,y6_3,y6_4,y6_5,y6_6,y6_7,y6_8,y6_9,y6_10,y6_11,y6_12,y6_13,y6_14,y6_15))) (
              some ((false,x2,x3,x4,x5,x6,x7,x8,x9,x10,x11,x12,y0.2.1,y0.2.2.1,y0.2.2.2,[]))))))))
noncomputable def T88 (N : Nat) : Pk → Tr Pk := ag s88 w88 (F88 N)
theorem ab1 (N : Nat) : au Tryz.prog (88) (T88 N) :=
  (ae af al (BU N) Tryz.func88 s88 w88 [0,1] (cuts := [(8026,Eb N N)]) ⟨Ea N N,trivial⟩ (fun _ => by kernel_rfl) (by decide +kernel) (F88 N) (fun x => by kernel_rfl))
@[reducible] def s150 : SP := ⟨[.agg [.int .i64,.int .i64,.int .i64,.int .i64],.int .i64,.int .i64],[]⟩
noncomputable def Y5 (N : Nat) : List (Nat × (Pk → Tr Pk)) := []
theorem M8 (N : Nat) : ah Tryz.prog (Y5 N) := trivial
@[reducible] def w150 : List SP := [⟨[.bool],[]⟩]
noncomputable def RH (N : Nat) : (Int × Int × Int × Int × Int × Int) → Option (Bool)
  | (x0,x1,x2,x3,x4,x5) =>
  ac (decide (x4 ≥ x0)) (
    ac (decide (x4 < IntKind.wrap IntKind.i64 (x0 + x2))) (
      ac (decide (x5 ≥ x1)) (
        some (decide (x5 < IntKind.wrap IntKind.i64 (x1 + x3)))) (
        some (false))) (
      some (false))) (
    some (false))
noncomputable def aF2 (N : Nat) : Pk → Tr Pk := ag s150 w150 (RH N)
theorem U8 (N : Nat) : au Tryz.prog (150) (aF2 N) :=
  (ae af al (M8 N) Tryz.func150 s150 w150 [] (cuts := []) trivial (fun _ => by kernel_rfl) (by decide +kernel) (RH N) (fun x => by kernel_rfl))
@[reducible] def s89 : SP := ⟨[.int .i64,.ro (.int .i64),.agg [.int .i64,.int .i64,.int .i64,.int .i64],.ro (.int .i64)],[]⟩
noncomputable def ao4 (N : Nat) : List (Nat × (Pk → Tr Pk)) := [(150,aF2 N)]
theorem BS (N : Nat) : ah Tryz.prog (ao4 N) := ⟨U8 N,trivial⟩
@[reducible] def QN : LD := ⟨58,[9,10,0,1,3,6],[(.ret,[8]),(.exit 0,[9])],⟨[.sl 0,.int .i64,.int .i64,.ro (.int .i64),.ro (.int .i64),.adr 1 []],[.row (.int .i64) 3,.var 126 (.agg [.int .i64,.int .i64,.int .i64,.int .i64])]⟩,[(.exit 0,⟨[.sl 0],[.row (.int .i64) 3]⟩)]⟩
abbrev GP : Type := Int × Int × (List Int) × (List Int) × (List Int) × Int × Int × Int × Int
abbrev GC : Type := (List Int)
noncomputable def pz (N : Nat) (f : GP → Option GC) : GP → Option GC
  | (x0,x1,x2,x3,x4,x5,x6,x7,x8) =>
  ac (decide (x0 < (↑(List.length x2) : Int))) (
    ac (decide (x1 = (0 : Int))) (
      none ) (
      ac (decide (x1 = (0 : Int))) (
        none ) (
        ac (within x0 (List.length x2)) (
          Option.bind (x2[Int.toNat x0]?) fun y0 =>
          Option.bind (RH N (x5,x6,x7,x8,Int.tmod x0 x1,IntKind.wrap IntKind.i64 (Int.tdiv x0 x1))) fun y1 =>
          ac (y1) (
            ac (within (IntKind.wrap IntKind.i64 (IntKind.wrap IntKind.i64 (IntKind.wrap IntKind.i64 (IntKind.wrap IntKind.i64 (IntKind.wrap IntKind.i64 (Int.tdiv x0 x1) - x6) * x7) + Int.tmod x0 x1) - x5)) (List.length x3)) (
              Option.bind (x3[Int.toNat (IntKind.wrap IntKind.i64 (IntKind.wrap IntKind.i64 (IntKind.wrap IntKind.i64 (IntKind.wrap IntKind.i64 (IntKind.wrap IntKind.i64 (Int.tdiv x0 x1) - x6) * x7) + Int.tmod x0 x1) - x5))]?) fun y2 =>
              ac (decide ((List.length x4 + List.length [y2]) * (8 : Nat) ≤ (140737488355328 : Nat) ∧ List.length x4 + List.length [y2] ≤ (140737488355328 : Nat))) (
                Option.bind (f (IntKind.wrap IntKind.i64 (x0 + (1 : Int)),x1,x2,x3,x4 ++ [y2],x5,x6,x7,x8)) fun r => some r) (
                none )) (
              none )) (
            ac (decide ((List.length x4 + List.length [y0]) * (8 : Nat) ≤ (140737488355328 : Nat) ∧ List.length x4 + List.length [y0] ≤ (140737488355328 : Nat))) (
              Option.bind (f (IntKind.wrap IntKind.i64 (x0 + (1 : Int)),x1,x2,x3,x4 ++ [y0],x5,x6,x7,x8)) fun r => some r) (
              none ))) (
          none )))) (
    some (x4))
noncomputable def gT (N : Nat) : Nat → GP → Option GC
  | 0,_ => none
  | k + 1,x => pz N (gT N k) x
noncomputable def RS (N : Nat) (k : Nat) : Cut := QN.cut (gT N k)
theorem Oj (N : Nat) (k : Nat) : aj Tryz.prog false Tryz.f89 [] 58 (RS N k) :=
  QN.loopT af al (BS N) Tryz.f89 [] (cuts := []) trivial (by decide +kernel) (by kernel_rfl) (pz N) (gT N) (fun _ => rfl) (fun _ _ => rfl) (fun f x => by kernel_rfl) k
@[reducible] def w89 : List SP := [⟨[.sl 0],[.row (.int .i64) 3]⟩]
noncomputable def F89 (N : Nat) : (Int × (List Int) × Int × Int × Int × Int × (List Int)) → Option ((List Int))
  | (x0,x1,x2,x3,x4,x5,x6) =>
  Option.bind (gT N N ((0 : Int),x0,x1,x6,[],x2,x3,x4,x5)) fun y0 =>
  some (y0)
noncomputable def T89 (N : Nat) : Pk → Tr Pk := ag s89 w89 (F89 N)
theorem ab0 (N : Nat) : au Tryz.prog (89) (T89 N) :=
  (ae af al (BS N) Tryz.func89 s89 w89 [] (cuts := [(58,RS N N)]) ⟨Oj N N,trivial⟩ (fun _ => by kernel_rfl) (by decide +kernel) (F89 N) (fun x => by kernel_rfl))
@[reducible] def s218 : SP := ⟨[.int .i64,.int .i64,.int .i64],[]⟩
noncomputable def Yz (N : Nat) : List (Nat × (Pk → Tr Pk)) := []
theorem MO (N : Nat) : ah Tryz.prog (Yz N) := trivial
@[reducible] def w218 : List SP := [⟨[.int .i64],[]⟩]
noncomputable def G8 (N : Nat) : (Int × Int × Int) → Option (Int)
  | (x0,x1,x2) =>
  ac (decide (x2 < (0 : Int))) (
    none ) (
    ac (decide (x1 = (0 : Int))) (
      none ) (
      some (IntKind.wrap IntKind.i64 (Int.tdiv (IntKind.wrap IntKind.i64 (IntKind.wrap IntKind.i64 (IntKind.wrap IntKind.i64 (↑(BitVec.toNat (BitVec.ofInt (64 : Nat) (Int.fdiv x0 ((2 : Int) ^ min (Int.toNat x2) (64 : Nat))) &&& BitVec.ofInt (64 : Nat) x1)) : Int) * (255 : Int)) + IntKind.wrap IntKind.i64 (Int.tdiv x1 (2 : Int)))) x1))))
noncomputable def aC8 (N : Nat) : Pk → Tr Pk := ag s218 w218 (G8 N)
theorem UI (N : Nat) : au Tryz.prog (218) (aC8 N) :=
  (ae af al (MO N) Tryz.func218 s218 w218 [] (cuts := []) trivial (fun _ => by kernel_rfl) (by decide +kernel) (G8 N) (fun x => by kernel_rfl))
@[reducible] def s151 : SP := ⟨[.agg [.int .i64,.int .i64,.bool,.bool,.int .i64,.int .i64,.int .i64,.int .i64,.int .i64,.int .i64],.int .i64],[]⟩
noncomputable def Y4 (N : Nat) : List (Nat × (Pk → Tr Pk)) := [(218,aC8 N)]
theorem M7 (N : Nat) : ah Tryz.prog (Y4 N) := ⟨UI N,trivial⟩
@[reducible] def w151 : List SP := [⟨[.int .i64],[]⟩]
noncomputable def RG (N : Nat) : (Int × Int × Bool × Bool × Int × Int × Int × Int × Int × Int × Int) → Option (Int)
  | (x0,x1,x2,x3,x4,x5,x6,x7,x8,x9,x10) =>
  Option.bind (G8 N (x10,x4,x7)) fun y0 =>
  Option.bind (G8 N (x10,x5,x8)) fun y1 =>
  Option.bind (G8 N (x10,x6,x9)) fun y2 =>
  some (IntKind.wrap IntKind.i64 (IntKind.wrap IntKind.i64 (IntKind.wrap IntKind.i64 (y0 * (65536 : Int)) + IntKind.wrap IntKind.i64 (y1 * (256 : Int))) + y2))
noncomputable def aF1 (N : Nat) : Pk → Tr Pk := ag s151 w151 (RG N)
theorem U7 (N : Nat) : au Tryz.prog (151) (aF1 N) :=
  (ae af al (M7 N) Tryz.func151 s151 w151 [] (cuts := []) trivial (fun _ => by kernel_rfl) (by decide +kernel) (RG N) (fun x => by kernel_rfl))
@[reducible] def s90 : SP := ⟨[.agg [.int .i64,.int .i64,.bool,.bool,.int .i64,.int .i64,.int .i64,.int .i64,.int .i64,.int .i64],.ro (.int .i64)],[]⟩
noncomputable def ao3 (N : Nat) : List (Nat × (Pk → Tr Pk)) := [(151,aF1 N)]
theorem BR (N : Nat) : ah Tryz.prog (ao3 N) := ⟨U7 N,trivial⟩
@[reducible] def QM : LD := ⟨58,[5,6,2,1],[(.ret,[4]),(.exit 0,[5])],⟨[.sl 0,.int .i64,.adr 1 [],.ro (.int .i64)],[.row (.int .i64) 3,.var 43 (.agg [.int .i64,.int .i64,.bool,.bool,.int .i64,.int .i64,.int .i64,.int .i64,.int .i64,.int .i64])]⟩,[(.exit 0,⟨[.sl 0],[.row (.int .i64) 3]⟩)]⟩
abbrev GO : Type := Int × (List Int) × (List Int) × Int × Int × Bool × Bool × Int × Int × Int × Int × Int × Int
abbrev GB : Type := (List Int)
noncomputable def py (N : Nat) (f : GO → Option GB) : GO → Option GB
  | (x0,x1,x2,x3,x4,x5,x6,x7,x8,x9,x10,x11,x12) =>
  ac (decide (x0 < (↑(List.length x1) : Int))) (
    ac (within x0 (List.length x1)) (
      Option.bind (x1[Int.toNat x0]?) fun y0 =>
      Option.bind (RG N (x3,x4,x5,x6,x7,x8,x9,x10,x11,x12,y0)) fun y1 =>
      ac (decide ((List.length x2 + List.length [y1]) * (8 : Nat) ≤ (140737488355328 : Nat) ∧ List.length x2 + List.length [y1] ≤ (140737488355328 : Nat))) (
        Option.bind (f (IntKind.wrap IntKind.i64 (x0 + (1 : Int)),x1,x2 ++ [y1],x3,x4,x5,x6,x7,x8,x9,x10,x11,x12)) fun r => some r) (
        none )) (
      none )) (
    some (x2))
noncomputable def gS (N : Nat) : Nat → GO → Option GB
  | 0,_ => none
  | k + 1,x => py N (gS N k) x
noncomputable def RR (N : Nat) (k : Nat) : Cut := QM.cut (gS N k)
theorem Oi (N : Nat) (k : Nat) : aj Tryz.prog false Tryz.f90 [] 58 (RR N k) :=
  QM.loopT af al (BR N) Tryz.f90 [] (cuts := []) trivial (by decide +kernel) (by kernel_rfl) (py N) (gS N) (fun _ => rfl) (fun _ _ => rfl) (fun f x => by kernel_rfl) k
@[reducible] def w90 : List SP := [⟨[.sl 0],[.row (.int .i64) 3]⟩]
noncomputable def F90 (N : Nat) : (Int × Int × Bool × Bool × Int × Int × Int × Int × Int × Int × (List Int)) → Option ((List Int))
  | (x0,x1,x2,x3,x4,x5,x6,x7,x8,x9,x10) =>
  Option.bind (gS N N ((0 : Int),x10,[],x0,x1,x2,x3,x4,x5,x6,x7,x8,x9)) fun y0 =>
  some (y0)
noncomputable def T90 (N : Nat) : Pk → Tr Pk := ag s90 w90 (F90 N)
theorem aa9 (N : Nat) : au Tryz.prog (90) (T90 N) :=
  (ae af al (BR N) Tryz.func90 s90 w90 [] (cuts := [(58,RR N N)]) ⟨Oi N N,trivial⟩ (fun _ => by kernel_rfl) (by decide +kernel) (F90 N) (fun x => by kernel_rfl))
@[reducible] def s30 : SP := ⟨[.agg [.int .i64,.int .i64,.bool,.bool,.int .i64,.int .i64,.int .i64,.int .i64,.int .i64,.int .i64],.int .i64,.int .i64,.str],[]⟩
noncomputable def aq8 (N : Nat) : List (Nat × (Pk → Tr Pk)) := [(27,T27 N),(87,T87 N),(38,T38 N),(88,T88 N),(89,T89 N),(90,T90 N)]
theorem Cd (N : Nat) : ah Tryz.prog (aq8 N) := ⟨Gy N,Gt N,Qx N,ab1 N,ab0 N,aa9 N,trivial⟩
@[reducible] def Dq : LD := ⟨1018,[4,3,12,13,1,15,14],[(.ret,[8,9]),(.exit 0,[12,3,14,4])],⟨[.adr 0 [],.str,.adr 1 [],.sl 2,.int .i64,.int .i64,.sl 3],[.var 43 (.agg [.int .i64,.int .i64,.bool,.bool,.int .i64,.int .i64,.int .i64,.int .i64,.int .i64,.int .i64]),.var 137 (.agg [.agg [.int .i64,.int .i64,.bool,.bool,.int .i64,.int .i64,.int .i64,.int .i64,.int .i64,.int .i64],.int .i64,.adr 4 []]),.row y1 126,.row (.int .i64) 3,.var 135 (.agg [.str,.int .i64,.int .i64])]⟩,[(.ret,⟨[.sl 0,.int .i64],[.row (.int .i64) 3]⟩),(.exit 0,⟨[.adr 0 [],.str,.sl 1,.adr 2 []],[.var 137 (.agg [.agg [.int .i64,.int .i64,.bool,.bool,.int .i64,.int .i64,.int .i64,.int .i64,.int .i64,.int .i64],.int .i64,.adr 3 []]),.row (.int .i64) 3,.var 43 (.agg [.int .i64,.int .i64,.bool,.bool,.int .i64,.int .i64,.int .i64,.int .i64,.int .i64,.int .i64]),.var 135 (.agg [.str,.int .i64,.int .i64])]⟩)]⟩
abbrev ui : Type := ByteArray × Int × Int × Int × Int × Bool × Bool × Int × Int × Int × Int × Int × Int × Int × Int × Bool × Bool × Int × Int × Int × Int × Int × Int × Int × (List (Int × (Int × (Int × (Int × Unit))))) × (List Int) × ByteArray × Int × Int
abbrev tu : Type := ((Int × (List Int)) ⊕ (ByteArray × Int × Int × Bool × Bool × Int × Int × Int × Int × Int × Int × Int × (List Int) × Int × Int × Bool × Bool × Int × Int × Int × Int × Int × Int × ByteArray × Int × Int))
noncomputable def eH (N : Nat) (f : ui → Option tu) : ui → Option tu
  | (x0,x1,x2,x3,x4,x5,x6,x7,x8,x9,x10,x11,x12,x13,x14,x15,x16,x17,x18,x19,x20,x21,x22,x23,x24,x25,x26,x27,x28) =>
  ac (decide (x2 < (↑(List.length x24) : Int))) (
    ac (within x2 (List.length x24)) (
      Option.bind (x24[Int.toNat x2]?) fun y0 =>
      ac (within x2 (List.length x24)) (
        Option.bind (x24[Int.toNat x2]?) fun y1 =>
        Option.bind (F88 N (y0.2.2.1,y1.2.2.2.1,x13,x14,x15,x16,x17,x18,x19,x20,x21,x22,x23,x26,x27,x28)) fun (y2_0,y2_1,y2_2,y2_3,y2_4,y2_5,y2_6,y2_7,y2_8,y2_9,y2_10,y2_11,y2_12,y2_13,y2_14,y2_15) =>
        ac (!y2_0) (
          some (.inl (((180 : Int),[])))) (
          ac (y2_14 != (0 : Int)) (
            some (.inl (((180 : Int),[])))) (
            ac (within x2 (List.length x24)) (
              Option.bind (x24[Int.toNat x2]?) fun y3 =>
              Option.bind (F89 N (x1,x25,y3.1,y3.2.1,y3.2.2.1,y3.2.2.2.1,y2_15)) fun y4 =>
              Option.bind (f (x0,x1,IntKind.wrap IntKind.i64 (x2 + (1 : Int)),x3,x4,x5,x6,x7,x8,x9,x10,x11,x12,y2_1,y2_2,y2_3,y2_4,y2_5,y2_6,y2_7,y2_8,y2_9,y2_10,y2_11,x24,y4,y2_12,y2_13,y2_14)) fun r => match r with | .inl y => some (.inl y) | .inr y => some (.inr y)) (
              none )))) (
        none )) (
      none )) (
    some (.inr ((x0,x13,x14,x15,x16,x17,x18,x19,x20,x21,x22,x23,x25,x3,x4,x5,x6,x7,x8,x9,x10,x11,x12,x26,x27,x28))))
noncomputable def bq (N : Nat) : Nat → ui → Option tu
  | 0,_ => none
  | k + 1,x => eH N (bq N k) x
noncomputable def ED (N : Nat) (k : Nat) : Cut := Dq.cut (bq N k)
theorem EC (N : Nat) (k : Nat) : aj Tryz.prog false Tryz.f30 [] 1018 (ED N k) :=
  Dq.loopT af al (Cd N) Tryz.f30 [] (cuts := []) trivial (by decide +kernel) (by kernel_rfl) (eH N) (bq N) (fun _ => rfl) (fun _ _ => rfl) (fun f x => by kernel_rfl) k
@[reducible] def w30 : List SP := [⟨[.tup [.sl 0,.int .i64]],[.row (.int .i64) 3]⟩]
noncomputable def VU (N : Nat) : (Int × Int × Bool × Bool × Int × Int × Int × Int × Int × Int × Int × Int × ByteArray) → Option (Int × (List Int))
  | (x0,x1,x2,x3,x4,x5,x6,x7,x8,x9,x10,x11,x12) =>
  Option.bind (F27 N (x0,x1,x2,x3,x4,x5,x6,x7,x8,x9,x10,x11)) fun y0 =>
  ac (!y0) (
    some (((1 : Int),[]))) (
    Option.bind (N0 N (x0,x1,x2,x3,x4,x5,x6,x7,x8,x9)) fun y1 =>
    Option.bind (F38 N (x10,x11,(64 : Int))) fun y2 =>
    ac (decide ((0 : Int) ≤ IntKind.wrap IntKind.i64 (x10 * x11) ∧ IntKind.wrap IntKind.i64 (x10 * x11) ≤ IntKind.wrap IntKind.i64 (x10 * x11) ∧ IntKind.wrap IntKind.i64 (x10 * x11) * (8 : Int) ≤ (140737488355328 : Int) ∧ IntKind.wrap IntKind.i64 (x10 * x11) ≤ (140737488355328 : Int))) (
      Option.bind (bq N N (x12,x10,(0 : Int),x0,x1,x2,x3,x4,x5,x6,x7,x8,x9,x0,x1,x2,x3,x4,x5,x6,x7,x8,x9,y1.1,y2,List.replicate (Int.toNat (IntKind.wrap IntKind.i64 (x10 * x11))) (0 : Int),x12,(0 : Int),(0 : Int))) fun y3 =>
      match y3 with
      | .inl y4 =>
        some ((y4.1,y4.2))
      | .inr (y4_0,y4_1,y4_2,y4_3,y4_4,y4_5,y4_6,y4_7,y4_8,y4_9,y4_10,y4_11,y4_12,y4_13,y4_14,y4_15,y4_16,y4_17,y4_18,y4_19,y4_20,y4_21,y4_22,y4_23,y4_24,y4_25) =>
        ac (decide (y4_24 < (↑(ByteArray.size y4_0) : Int))) (
          some (((3 : Int),[]))) (
          Option.bind (F90 N (y4_13,y4_14,y4_15,y4_16,y4_17,y4_18,y4_19,y4_20,y4_21,y4_22,y4_12)) fun y5 =>
          some (((0 : Int),y5)))) (
      none ))
noncomputable def T30 (N : Nat) : Pk → Tr Pk := ag s30 w30 (VU N)
theorem ae4 (N : Nat) : au Tryz.prog (30) (T30 N) :=
  (ae af al (Cd N) Tryz.func30 s30 w30 [] (cuts := [(1018,ED N N)]) ⟨EC N N,trivial⟩ (fun _ => by kernel_rfl) (by decide +kernel) (VU N) (fun x => by kernel_rfl))
@[reducible] def s33 : SP := ⟨[.agg [.int .i64,.int .i64,.bool,.bool,.int .i64,.int .i64,.int .i64,.int .i64,.int .i64,.int .i64],.int .i64,.int .i64],[]⟩
noncomputable def aq5 (N : Nat) : List (Nat × (Pk → Tr Pk)) := [(27,T27 N),(87,T87 N),(38,T38 N)]
theorem O6 (N : Nat) : ah Tryz.prog (aq5 N) := ⟨Gy N,Gt N,Qx N,trivial⟩
@[reducible] def w33 : List SP := [⟨[.int .i64],[]⟩]
noncomputable def F33 (N : Nat) : (Int × Int × Bool × Bool × Int × Int × Int × Int × Int × Int × Int × Int) → Option (Int)
  | (x0,x1,x2,x3,x4,x5,x6,x7,x8,x9,x10,x11) =>
  Option.bind (F27 N (x0,x1,x2,x3,x4,x5,x6,x7,x8,x9,x10,x11)) fun y0 =>
  ac (!y0) (
    some ((0 : Int))) (
    Option.bind (N0 N (x0,x1,x2,x3,x4,x5,x6,x7,x8,x9)) fun y1 =>
    Option.bind (F38 N (x10,x11,(64 : Int))) fun y2 =>
    some (IntKind.wrap IntKind.i64 (IntKind.wrap IntKind.i64 ((512 : Int) * (↑(List.length y2) : Int)) + IntKind.wrap IntKind.i64 (IntKind.wrap IntKind.i64 (x10 * x11) * IntKind.wrap IntKind.i64 (y1.1 + (2 : Int))))))
noncomputable def T33 (N : Nat) : Pk → Tr Pk := ag s33 w33 (F33 N)
theorem ad9 (N : Nat) : au Tryz.prog (33) (T33 N) :=
  (ae af al (O6 N) Tryz.func33 s33 w33 [] (cuts := []) trivial (fun _ => by kernel_rfl) (by decide +kernel) (F33 N) (fun x => by kernel_rfl))
@[reducible] def s7 : SP := ⟨[.agg [.int .i64,.int .i64,.bool,.bool,.int .i64,.int .i64,.int .i64,.int .i64,.int .i64,.int .i64],.int .i64,.int .i64,.str],[]⟩
noncomputable def aJ1 (N : Nat) : List (Nat × (Pk → Tr Pk)) := [(26,T26 N),(27,T27 N),(28,T28 N),(29,T29 N),(30,T30 N),(31,T31 N),(32,T32 N),(33,T33 N)]
theorem H6 (N : Nat) : ah Tryz.prog (aJ1 N) := ⟨ae8 N,Gy N,ae5 N,Gx N,ae4 N,QD N,QC N,ad9 N,trivial⟩
@[reducible] def WI : LD := ⟨31,[3,9,4,1,2],[(.ret,[8]),(.normal,[8])],⟨[.str,.bool,.adr 0 [],.int .i64,.int .i64],[.var 43 (.agg [.int .i64,.int .i64,.bool,.bool,.int .i64,.int .i64,.int .i64,.int .i64,.int .i64,.int .i64])]⟩,[(.ret,⟨[.bool],[]⟩)]⟩
noncomputable def xx (N : Nat) : (ByteArray × Bool × Int × Int × Int × Int × Bool × Bool × Int × Int × Int × Int × Int × Int) → Option (Bool)
  | (x0,x1,x2,x3,x4,x5,x6,x7,x8,x9,x10,x11,x12,x13) =>
  Option.bind (Oy N (x4,x5,x6,x7,x8,x9,x10,x11,x12,x13,x2,x3,x0)) fun y0 =>
  Option.bind (VU N (x4,x5,x6,x7,x8,x9,x10,x11,x12,x13,x2,x3,x0)) fun y1 =>
  Option.bind (Rn N (y0.2,y1.2)) fun y2 =>
  ac (x1) (
    ac (y2) (
      ac (y0.1 == y1.1) (
        Option.bind (F32 N (x4,x5,x6,x7,x8,x9,x10,x11,x12,x13,x2,x3)) fun y3 =>
        Option.bind (F33 N (x4,x5,x6,x7,x8,x9,x10,x11,x12,x13,x2,x3)) fun y4 =>
        some (y3 == y4)) (
        some (false))) (
      some (false))) (
    some (false))
noncomputable def WO (N : Nat) (_ : Nat) : Cut := WI.cut (xx N)
theorem RX (N : Nat) (k : Nat) : aj Tryz.prog false Tryz.f7 [] 31 (WO N k) :=
  WI.pieceT af al (H6 N) Tryz.f7 [] (cuts := []) trivial (by decide +kernel) (by kernel_rfl) (xx N) (fun x => by kernel_rfl)
@[reducible] def w7 : List SP := [⟨[.bool],[]⟩]
noncomputable def F7 (N : Nat) : (Int × Int × Bool × Bool × Int × Int × Int × Int × Int × Int × Int × Int × ByteArray) → Option (Bool)
  | (x0,x1,x2,x3,x4,x5,x6,x7,x8,x9,x10,x11,x12) =>
  Option.bind (F26 N ()) fun y0 =>
  ac (!y0) (
    some (false)) (
    ac (decide ((↑(ByteArray.size x12) : Int) > (3000 : Int))) (
      some (y0)) (
      Option.bind (F27 N (x0,x1,x2,x3,x4,x5,x6,x7,x8,x9,x10,x11)) fun y1 =>
      ac (y1) (
        Option.bind (F28 N (x10,x11)) fun y2 =>
        ac (!y2) (
          some (y0)) (
          Option.bind (xx N (x12,y0,x10,x11,x0,x1,x2,x3,x4,x5,x6,x7,x8,x9)) fun y3 =>
          some (y3))) (
        Option.bind (xx N (x12,y0,x10,x11,x0,x1,x2,x3,x4,x5,x6,x7,x8,x9)) fun y4 =>
        some (y4))))
noncomputable def T7 (N : Nat) : Pk → Tr Pk := ag s7 w7 (F7 N)
theorem av9 (N : Nat) : au Tryz.prog (7) (T7 N) :=
  (ae af al (H6 N) Tryz.func7 s7 w7 [] (cuts := [(31,WO N N)]) ⟨RX N N,trivial⟩ (fun _ => by kernel_rfl) (by decide +kernel) (F7 N) (fun x => by kernel_rfl))
end Go.Proofs.YtfcamlibbfnldaaGreat.Am
