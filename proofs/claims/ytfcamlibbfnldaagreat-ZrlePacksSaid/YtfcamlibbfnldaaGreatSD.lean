/- The seat's Go functions come to the Lean functions written here, wherever these give an answer (part D). -/
import Derived.Test.YtfcamlibbfnldaaGreatSC
set_option linter.unusedSimpArgs false
set_option linter.unusedVariables false
set_option linter.unusedSectionVars false
set_option maxRecDepth 100000
namespace Go.Proofs.YtfcamlibbfnldaaGreat.Am
open Go.Am
@[reducible] def s149:SP:=⟨[.adr 0 [],.int .i64,.int .i64],[.var 137 (.agg [.agg [.int .i64,.int .i64,.bool,.bool,.int .i64,.int .i64,.int .i64,.int .i64,.int .i64,.int .i64],.int .i64,.adr 1 []]),.var 135 (.agg [.str,.int .i64,.int .i64])]⟩
noncomputable def ak0 (N:Nat):List (Nat×(Pk→Tr Pk)):=[(146,X1 N),(145,X2 N),(217,aS4 N),(147,X0 N)]
theorem pg (N:Nat):ai Tryz.prog (ak0 N):=⟨Bz N,BA N,Xx N,By N,trivial⟩
@[reducible] def wn:LD:=⟨15454,[9,13,11,8,0,2,1,10],[(.ret,[6,7]),(.exit 2,[9,1,2,0,8]),(.exit 1,[9,1,2,0,8]),(.exit 0,[9])],⟨[.sl 2,.int .i64,.int .i64,.sl 3,.adr 0 [],.int .i64,.int .i64,.int .i64],[.var 137 (.agg [.agg [.int .i64,.int .i64,.bool,.bool,.int .i64,.int .i64,.int .i64,.int .i64,.int .i64,.int .i64],.int .i64,.adr 1 []]),.var 135 (.agg [.str,.int .i64,.int .i64]),.row (.int .i64) 3,.row (.int .i64) 3]⟩,[(.exit 2,⟨[.sl 2,.int .i64,.int .i64,.adr 0 [],.sl 3],[.var 137 (.agg [.agg [.int .i64,.int .i64,.bool,.bool,.int .i64,.int .i64,.int .i64,.int .i64,.int .i64,.int .i64],.int .i64,.adr 1 []]),.var 135 (.agg [.str,.int .i64,.int .i64]),.row (.int .i64) 3,.row (.int .i64) 3]⟩)]⟩
abbrev na:Type:=Int×Int×Int×Int×Int×Int×Int×Bool×Bool×Int×Int×Int×Int×Int×Int×Int×ByteArray×Int×Int×(List Int)×(List Int)
abbrev mS:Type:=Int×Int×Int×Int×Bool×Bool×Int×Int×Int×Int×Int×Int×Int×ByteArray×Int×Int×(List Int)×(List Int)
noncomputable def dT (N:Nat) (f:na→Option mS):na→Option mS
 | (x0,x1,x2,x3,x4,x5,x6,x7,x8,x9,x10,x11,x12,x13,x14,x15,x16,x17,x18,x19,x20) =>
 ac (decide (x0<x1)) (
  ac (decide ((List.length x19+List.length [x4])*(8:Nat)≤(140737488355328:Nat)∧List.length x19+List.length [x4]≤(140737488355328:Nat))) (
   Option.bind (f (IntKind.wrap IntKind.i64 (x0+(1:Int)),x1,x2,x3,x4,x5,x6,x7,x8,x9,x10,x11,x12,x13,x14,x15,x16,x17,x18,x19++[x4],x20)) fun r=>some r) (
   none )) (
  some ((x3,x2,x5,x6,x7,x8,x9,x10,x11,x12,x13,x14,x15,x16,x17,x18,x19,x20)))
noncomputable def bh (N:Nat):Nat→na→Option mS
 | 0,_=>none
 | k+1,x=>dT N (bh N k) x
noncomputable def nm (N:Nat) (k:Nat):Cut:=wn.cut (bh N k)
theorem mn (N:Nat) (k:Nat):ak Tryz.prog false Tryz.f149 [0,1] 15454 (nm N k) :=
 wn.loopT ag am (pg N) Tryz.f149 [0,1] (cuts:=[]) trivial (by decide +kernel) (by kernel_rfl) (dT N) (bh N) (fun _=>rfl) (fun _ _=>rfl) (fun f x=>by kernel_rfl) k
@[reducible] def Mv:LD:=⟨60,[9,1,2,0,8],[(.ret,[6,7]),(.exit 0,[9])],⟨[.sl 2,.int .i64,.int .i64,.adr 0 [],.sl 3],[.var 137 (.agg [.agg [.int .i64,.int .i64,.bool,.bool,.int .i64,.int .i64,.int .i64,.int .i64,.int .i64,.int .i64],.int .i64,.adr 1 []]),.var 135 (.agg [.str,.int .i64,.int .i64]),.row (.int .i64) 3,.row (.int .i64) 3]⟩,[(.ret,⟨[.sl 2,.bool],[.var 137 (.agg [.agg [.int .i64,.int .i64,.bool,.bool,.int .i64,.int .i64,.int .i64,.int .i64,.int .i64,.int .i64],.int .i64,.adr 1 []]),.var 135 (.agg [.str,.int .i64,.int .i64]),.row (.int .i64) 3]⟩),(.exit 0,⟨[.sl 2],[.var 137 (.agg [.agg [.int .i64,.int .i64,.bool,.bool,.int .i64,.int .i64,.int .i64,.int .i64,.int .i64,.int .i64],.int .i64,.adr 1 []]),.var 135 (.agg [.str,.int .i64,.int .i64]),.row (.int .i64) 3]⟩)]⟩
abbrev C9:Type:=Int×Int×Int×Int×Bool×Bool×Int×Int×Int×Int×Int×Int×Int×ByteArray×Int×Int×(List Int)×(List Int)
abbrev sk:Type:=((Bool×Int×Int×Bool×Bool×Int×Int×Int×Int×Int×Int×Int×ByteArray×Int×Int×(List Int))⊕(Int×Int×Bool×Bool×Int×Int×Int×Int×Int×Int×Int×ByteArray×Int×Int×(List Int)))
noncomputable def gy (N:Nat) (f:C9→Option sk):C9→Option sk
 | (x0,x1,x2,x3,x4,x5,x6,x7,x8,x9,x10,x11,x12,x13,x14,x15,x16,x17) =>
 ac (decide ((↑(List.length x16):Int)<x1)) (
  ac (decide (x0>(0:Int))) (
   Option.bind (Jv N ((1:Int),x13,x14,x15)) fun y0 =>
   ac (decide (Int.tmod y0.1 (128:Int)≥x0)) (
    some (.inl ((false,x2,x3,x4,x5,x6,x7,x8,x9,x10,x11,x12,y0.2.1,y0.2.2.1,y0.2.2.2,[])))) (
    ac (within (Int.tmod y0.1 (128:Int)) (List.length x17)) (
     Option.bind (x17[Int.toNat (Int.tmod y0.1 (128:Int))]?) fun y1 =>
     ac (decide (y0.1≥(128:Int))) (
      Option.bind (QH N (x2,x3,x4,x5,x6,x7,x8,x9,x10,x11,x12,y0.2.1,y0.2.2.1,y0.2.2.2)) fun(y2_0,y2_1,y2_2,y2_3,y2_4,y2_5,y2_6,y2_7,y2_8,y2_9,y2_10,y2_11,y2_12,y2_13,y2_14) =>
      ac (y2_14 != (0:Int)) (
       some (.inl ((false,y2_1,y2_2,y2_3,y2_4,y2_5,y2_6,y2_7,y2_8,y2_9,y2_10,y2_11,y2_12,y2_13,y2_14,[])))) (
       ac (decide (y2_0>IntKind.wrap IntKind.i64 (x1-(↑(List.length x16):Int)))) (
        some (.inl ((false,y2_1,y2_2,y2_3,y2_4,y2_5,y2_6,y2_7,y2_8,y2_9,y2_10,y2_11,y2_12,y2_13,y2_14,[])))) (
        Option.bind (bh N N ((0:Int),y2_0,x1,x0,y1,y2_1,y2_2,y2_3,y2_4,y2_5,y2_6,y2_7,y2_8,y2_9,y2_10,y2_11,y2_12,y2_13,y2_14,x16,x17)) fun(y3_0,y3_1,y3_2,y3_3,y3_4,y3_5,y3_6,y3_7,y3_8,y3_9,y3_10,y3_11,y3_12,y3_13,y3_14,y3_15,y3_16,y3_17) =>
        Option.bind (f (y3_0,y3_1,y3_2,y3_3,y3_4,y3_5,y3_6,y3_7,y3_8,y3_9,y3_10,y3_11,y3_12,y3_13,y3_14,y3_15,y3_16,y3_17)) fun r=>match r with|.inl y=>some (.inl y)|.inr y=>some (.inr y)))) (
      ac (y0.2.2.2 != (0:Int)) (
       some (.inl ((false,x2,x3,x4,x5,x6,x7,x8,x9,x10,x11,x12,y0.2.1,y0.2.2.1,y0.2.2.2,[])))) (
       ac (decide ((1:Int)>IntKind.wrap IntKind.i64 (x1-(↑(List.length x16):Int)))) (
        some (.inl ((false,x2,x3,x4,x5,x6,x7,x8,x9,x10,x11,x12,y0.2.1,y0.2.2.1,y0.2.2.2,[])))) (
        Option.bind (bh N N ((0:Int),(1:Int),x1,x0,y1,x2,x3,x4,x5,x6,x7,x8,x9,x10,x11,x12,y0.2.1,y0.2.2.1,y0.2.2.2,x16,x17)) fun(y4_0,y4_1,y4_2,y4_3,y4_4,y4_5,y4_6,y4_7,y4_8,y4_9,y4_10,y4_11,y4_12,y4_13,y4_14,y4_15,y4_16,y4_17) =>
        Option.bind (f (y4_0,y4_1,y4_2,y4_3,y4_4,y4_5,y4_6,y4_7,y4_8,y4_9,y4_10,y4_11,y4_12,y4_13,y4_14,y4_15,y4_16,y4_17)) fun r=>match r with|.inl y=>some (.inl y)|.inr y=>some (.inr y))))) (
     none ))) (
   Option.bind (Jt N (x2,x3,x4,x5,x6,x7,x8,x9,x10,x11,x12,x13,x14,x15)) fun(y5_0,y5_1,y5_2,y5_3,y5_4,y5_5,y5_6,y5_7,y5_8,y5_9,y5_10,y5_11,y5_12,y5_13,y5_14) =>
   Option.bind (QH N (y5_1,y5_2,y5_3,y5_4,y5_5,y5_6,y5_7,y5_8,y5_9,y5_10,y5_11,y5_12,y5_13,y5_14)) fun(y6_0,y6_1,y6_2,y6_3,y6_4,y6_5,y6_6,y6_7,y6_8,y6_9,y6_10,y6_11,y6_12,y6_13,y6_14) =>
   ac (y6_14 != (0:Int)) (
    some (.inl ((false,y6_1,y6_2,y6_3,y6_4,y6_5,y6_6,y6_7,y6_8,y6_9,y6_10,y6_11,y6_12,y6_13,y6_14,[])))) (
    ac (decide (y6_0>IntKind.wrap IntKind.i64 (x1-(↑(List.length x16):Int)))) (
     some (.inl ((false,y6_1,y6_2,y6_3,y6_4,y6_5,y6_6,y6_7,y6_8,y6_9,y6_10,y6_11,y6_12,y6_13,y6_14,[])))) (
     Option.bind (bh N N ((0:Int),y6_0,x1,x0,y5_0,y6_1,y6_2,y6_3,y6_4,y6_5,y6_6,y6_7,y6_8,y6_9,y6_10,y6_11,y6_12,y6_13,y6_14,x16,x17)) fun(y7_0,y7_1,y7_2,y7_3,y7_4,y7_5,y7_6,y7_7,y7_8,y7_9,y7_10,y7_11,y7_12,y7_13,y7_14,y7_15,y7_16,y7_17) =>
     Option.bind (f (y7_0,y7_1,y7_2,y7_3,y7_4,y7_5,y7_6,y7_7,y7_8,y7_9,y7_10,y7_11,y7_12,y7_13,y7_14,y7_15,y7_16,y7_17)) fun r=>match r with|.inl y=>some (.inl y)|.inr y=>some (.inr y))))) (
  some (.inr ((x2,x3,x4,x5,x6,x7,x8,x9,x10,x11,x12,x13,x14,x15,x16))))
noncomputable def dv (N:Nat):Nat→C9→Option sk
 | 0,_=>none
 | k+1,x=>gy N (dv N k) x
noncomputable def Nl (N:Nat) (k:Nat):Cut:=Mv.cut (dv N k)
theorem Kd (N:Nat) (k:Nat):ak Tryz.prog false Tryz.f149 [0,1] 60 (Nl N k) :=
 Mv.loopT ag am (pg N) Tryz.f149 [0,1] (cuts:=[(15454,nm N N)]) ⟨mn N N,trivial⟩ (by decide +kernel) (by kernel_rfl) (gy N) (dv N) (fun _=>rfl) (fun _ _=>rfl) (fun f x=>by kernel_rfl) k
@[reducible] def w149:List SP:=[⟨[.tup [.sl 2,.bool]],[.var 137 (.agg [.agg [.int .i64,.int .i64,.bool,.bool,.int .i64,.int .i64,.int .i64,.int .i64,.int .i64,.int .i64],.int .i64,.adr 1 []]),.var 135 (.agg [.str,.int .i64,.int .i64]),.row (.int .i64) 3]⟩]
noncomputable def Gj (N:Nat):(Int×Int×Int×Int×Bool×Bool×Int×Int×Int×Int×Int×Int×Int×ByteArray×Int×Int)→Option (Bool×Int×Int×Bool×Bool×Int×Int×Int×Int×Int×Int×Int×ByteArray×Int×Int×(List Int))
 | (x0,x1,x2,x3,x4,x5,x6,x7,x8,x9,x10,x11,x12,x13,x14,x15) =>
 Option.bind (Ju N (x0,x2,x3,x4,x5,x6,x7,x8,x9,x10,x11,x12,x13,x14,x15)) fun(y0_0,y0_1,y0_2,y0_3,y0_4,y0_5,y0_6,y0_7,y0_8,y0_9,y0_10,y0_11,y0_12,y0_13,y0_14) =>
 Option.bind (dv N N (x0,x1,y0_0,y0_1,y0_2,y0_3,y0_4,y0_5,y0_6,y0_7,y0_8,y0_9,y0_10,y0_11,y0_12,y0_13,[],y0_14)) fun y1 =>
 match y1 with
 | .inl (y2_0,y2_1,y2_2,y2_3,y2_4,y2_5,y2_6,y2_7,y2_8,y2_9,y2_10,y2_11,y2_12,y2_13,y2_14,y2_15) =>
  some ((y2_0,y2_1,y2_2,y2_3,y2_4,y2_5,y2_6,y2_7,y2_8,y2_9,y2_10,y2_11,y2_12,y2_13,y2_14,y2_15))
 | .inr (y2_0,y2_1,y2_2,y2_3,y2_4,y2_5,y2_6,y2_7,y2_8,y2_9,y2_10,y2_11,y2_12,y2_13,y2_14) =>
  some ((true,y2_0,y2_1,y2_2,y2_3,y2_4,y2_5,y2_6,y2_7,y2_8,y2_9,y2_10,y2_11,y2_12,y2_13,y2_14))
noncomputable def aU8 (N:Nat):Pk→Tr Pk:=ah s149 w149 (Gj N)
theorem XY (N:Nat):av Tryz.prog (149) (aU8 N) :=
 (af ag am (pg N) Tryz.func149 s149 w149 [0,1] (cuts:=[(15454,nm N N),(60,Nl N N)]) ⟨mn N N,Kd N N,trivial⟩ (fun _=>by kernel_rfl) (by decide +kernel) (Gj N) (fun x=>by kernel_rfl))
@[reducible] def s88:SP:=⟨[.adr 0 [],.int .i64,.int .i64],[.var 137 (.agg [.agg [.int .i64,.int .i64,.bool,.bool,.int .i64,.int .i64,.int .i64,.int .i64,.int .i64,.int .i64],.int .i64,.adr 1 []]),.var 135 (.agg [.str,.int .i64,.int .i64])]⟩
noncomputable def aF0 (N:Nat):List (Nat×(Pk→Tr Pk)):=[(145,X2 N),(146,X1 N),(147,X0 N),(148,aU9 N),(149,aU8 N)]
theorem D2 (N:Nat):ai Tryz.prog (aF0 N):=⟨BA N,Bz N,By N,XZ N,XY N,trivial⟩
@[reducible] def E8:LD:=⟨8026,[10,11,1,2,9],[(.ret,[6,7]),(.exit 0,[10])],⟨[.sl 2,.int .i64,.int .i64,.int .i64,.int .i64],[.var 137 (.agg [.agg [.int .i64,.int .i64,.bool,.bool,.int .i64,.int .i64,.int .i64,.int .i64,.int .i64,.int .i64],.int .i64,.adr 1 []]),.var 135 (.agg [.str,.int .i64,.int .i64]),.row (.int .i64) 3]⟩,[(.exit 0,⟨[.sl 2],[.var 137 (.agg [.agg [.int .i64,.int .i64,.bool,.bool,.int .i64,.int .i64,.int .i64,.int .i64,.int .i64,.int .i64],.int .i64,.adr 1 []]),.var 135 (.agg [.str,.int .i64,.int .i64]),.row (.int .i64) 3]⟩)]⟩
abbrev vo:Type:=Int×Int×Int×Int×Int×Int×Bool×Bool×Int×Int×Int×Int×Int×Int×Int×ByteArray×Int×Int×(List Int)
abbrev uD:Type:=Int×Int×Bool×Bool×Int×Int×Int×Int×Int×Int×Int×ByteArray×Int×Int×(List Int)
noncomputable def iz (N:Nat) (f:vo→Option uD):vo→Option uD
 | (x0,x1,x2,x3,x4,x5,x6,x7,x8,x9,x10,x11,x12,x13,x14,x15,x16,x17,x18) =>
 ac (decide (x0<IntKind.wrap IntKind.i64 (x1*x2))) (
  ac (decide ((List.length x18+List.length [x3])*(8:Nat)≤(140737488355328:Nat)∧List.length x18+List.length [x3]≤(140737488355328:Nat))) (
   Option.bind (f (IntKind.wrap IntKind.i64 (x0+(1:Int)),x1,x2,x3,x4,x5,x6,x7,x8,x9,x10,x11,x12,x13,x14,x15,x16,x17,x18++[x3])) fun r=>some r) (
   none )) (
  some ((x4,x5,x6,x7,x8,x9,x10,x11,x12,x13,x14,x15,x16,x17,x18)))
noncomputable def dr (N:Nat):Nat→vo→Option uD
 | 0,_=>none
 | k+1,x=>iz N (dr N k) x
noncomputable def Gr (N:Nat) (k:Nat):Cut:=E8.cut (dr N k)
theorem Gq (N:Nat) (k:Nat):ak Tryz.prog false Tryz.f88 [0,1] 8026 (Gr N k) :=
 E8.loopT ag am (D2 N) Tryz.f88 [0,1] (cuts:=[]) trivial (by decide +kernel) (by kernel_rfl) (iz N) (dr N) (fun _=>rfl) (fun _ _=>rfl) (fun f x=>by kernel_rfl) k
@[reducible] def w88:List SP:=[⟨[.tup [.sl 2,.bool]],[.var 137 (.agg [.agg [.int .i64,.int .i64,.bool,.bool,.int .i64,.int .i64,.int .i64,.int .i64,.int .i64,.int .i64],.int .i64,.adr 1 []]),.var 135 (.agg [.str,.int .i64,.int .i64]),.row (.int .i64) 3]⟩]
noncomputable def F88 (N:Nat):(Int×Int×Int×Int×Bool×Bool×Int×Int×Int×Int×Int×Int×Int×ByteArray×Int×Int)→Option (Bool×Int×Int×Bool×Bool×Int×Int×Int×Int×Int×Int×Int×ByteArray×Int×Int×(List Int))
 | (x0,x1,x2,x3,x4,x5,x6,x7,x8,x9,x10,x11,x12,x13,x14,x15) =>
 Option.bind (Jv N ((1:Int),x13,x14,x15)) fun y0 =>
 ac (y0.2.2.2 != (0:Int)) (
  some ((false,x2,x3,x4,x5,x6,x7,x8,x9,x10,x11,x12,y0.2.1,y0.2.2.1,y0.2.2.2,[]))) (
  ac (y0.1==(0:Int)) (
   Option.bind (Ju N (IntKind.wrap IntKind.i64 (x0*x1),x2,x3,x4,x5,x6,x7,x8,x9,x10,x11,x12,y0.2.1,y0.2.2.1,y0.2.2.2)) fun(y1_0,y1_1,y1_2,y1_3,y1_4,y1_5,y1_6,y1_7,y1_8,y1_9,y1_10,y1_11,y1_12,y1_13,y1_14) =>
   some ((true,y1_0,y1_1,y1_2,y1_3,y1_4,y1_5,y1_6,y1_7,y1_8,y1_9,y1_10,y1_11,y1_12,y1_13,y1_14))) (
   ac (y0.1==(1:Int)) (
    Option.bind (Jt N (x2,x3,x4,x5,x6,x7,x8,x9,x10,x11,x12,y0.2.1,y0.2.2.1,y0.2.2.2)) fun(y2_0,y2_1,y2_2,y2_3,y2_4,y2_5,y2_6,y2_7,y2_8,y2_9,y2_10,y2_11,y2_12,y2_13,y2_14) =>
    Option.bind (dr N N ((0:Int),x0,x1,y2_0,y2_1,y2_2,y2_3,y2_4,y2_5,y2_6,y2_7,y2_8,y2_9,y2_10,y2_11,y2_12,y2_13,y2_14,[])) fun(y3_0,y3_1,y3_2,y3_3,y3_4,y3_5,y3_6,y3_7,y3_8,y3_9,y3_10,y3_11,y3_12,y3_13,y3_14) =>
    some ((true,y3_0,y3_1,y3_2,y3_3,y3_4,y3_5,y3_6,y3_7,y3_8,y3_9,y3_10,y3_11,y3_12,y3_13,y3_14))) (
    ac (decide (y0.1≤(16:Int))) (
     Option.bind (U2 N (y0.1,x0,x1,x2,x3,x4,x5,x6,x7,x8,x9,x10,x11,x12,y0.2.1,y0.2.2.1,y0.2.2.2)) fun(y4_0,y4_1,y4_2,y4_3,y4_4,y4_5,y4_6,y4_7,y4_8,y4_9,y4_10,y4_11,y4_12,y4_13,y4_14,y4_15) =>
     some ((y4_0,y4_1,y4_2,y4_3,y4_4,y4_5,y4_6,y4_7,y4_8,y4_9,y4_10,y4_11,y4_12,y4_13,y4_14,y4_15))) (
     ac (y0.1==(128:Int)) (
      Option.bind (Gj N (IntKind.wrap IntKind.i64 (y0.1-(128:Int)),IntKind.wrap IntKind.i64 (x0*x1),x2,x3,x4,x5,x6,x7,x8,x9,x10,x11,x12,y0.2.1,y0.2.2.1,y0.2.2.2)) fun(y5_0,y5_1,y5_2,y5_3,y5_4,y5_5,y5_6,y5_7,y5_8,y5_9,y5_10,y5_11,y5_12,y5_13,y5_14,y5_15) =>
      some ((y5_0,y5_1,y5_2,y5_3,y5_4,y5_5,y5_6,y5_7,y5_8,y5_9,y5_10,y5_11,y5_12,y5_13,y5_14,y5_15))) (
      ac (decide (y0.1≥(130:Int))) (
       Option.bind (Gj N (IntKind.wrap IntKind.i64 (y0.1-(128:Int)),IntKind.wrap IntKind.i64 (x0*x1),x2,x3,x4,x5,x6,x7,x8,x9,x10,x11,x12,y0.2.1,y0.2.2.1,y0.2.2.2)) fun(y6_0,y6_1,y6_2,y6_3,y6_4,y6_5,y6_6,y6_7,y6_8,y6_9,y6_10,y6_11,y6_12,y6_13,y6_14,y6_15) =>
       some ((y6_0,y6_1,y6_2,y6_3,y6_4,y6_5,y6_6,y6_7,y6_8,y6_9,y6_10,y6_11,y6_12,y6_13,y6_14,y6_15))) (
       some ((false,x2,x3,x4,x5,x6,x7,x8,x9,x10,x11,x12,y0.2.1,y0.2.2.1,y0.2.2.2,[]))))))))
noncomputable def T88 (N:Nat):Pk→Tr Pk:=ah s88 w88 (F88 N)
theorem as1 (N:Nat):av Tryz.prog (88) (T88 N) :=
 (af ag am (D2 N) Tryz.func88 s88 w88 [0,1] (cuts:=[(8026,Gr N N)]) ⟨Gq N N,trivial⟩ (fun _=>by kernel_rfl) (by decide +kernel) (F88 N) (fun x=>by kernel_rfl))
@[reducible] def s150:SP:=⟨[.agg [.int .i64,.int .i64,.int .i64,.int .i64],.int .i64,.int .i64],[]⟩
noncomputable def aj9 (N:Nat):List (Nat×(Pk→Tr Pk)):=[]
theorem Pj (N:Nat):ai Tryz.prog (aj9 N):=trivial
@[reducible] def w150:List SP:=[⟨[.bool],[]⟩]
noncomputable def U1 (N:Nat):(Int×Int×Int×Int×Int×Int)→Option (Bool)
 | (x0,x1,x2,x3,x4,x5) =>
 ac (decide (x4≥x0)) (
  ac (decide (x4<IntKind.wrap IntKind.i64 (x0+x2))) (
   ac (decide (x5≥x1)) (
    some (decide (x5<IntKind.wrap IntKind.i64 (x1+x3)))) (
    some (false))) (
   some (false))) (
  some (false))
noncomputable def aU7 (N:Nat):Pk→Tr Pk:=ah s150 w150 (U1 N)
theorem XX (N:Nat):av Tryz.prog (150) (aU7 N) :=
 (af ag am (Pj N) Tryz.func150 s150 w150 [] (cuts:=[]) trivial (fun _=>by kernel_rfl) (by decide +kernel) (U1 N) (fun x=>by kernel_rfl))
@[reducible] def s89:SP:=⟨[.int .i64,.ro (.int .i64),.agg [.int .i64,.int .i64,.int .i64,.int .i64],.ro (.int .i64)],[]⟩
noncomputable def aE9 (N:Nat):List (Nat×(Pk→Tr Pk)):=[(150,aU7 N)]
theorem D1 (N:Nat):ai Tryz.prog (aE9 N):=⟨XX N,trivial⟩
@[reducible] def TT:LD:=⟨58,[9,10,0,1,3,6],[(.ret,[8]),(.exit 0,[9])],⟨[.sl 0,.int .i64,.int .i64,.ro (.int .i64),.ro (.int .i64),.adr 1 []],[.row (.int .i64) 3,.var 126 (.agg [.int .i64,.int .i64,.int .i64,.int .i64])]⟩,[(.exit 0,⟨[.sl 0],[.row (.int .i64) 3]⟩)]⟩
abbrev I3:Type:=Int×Int×(List Int)×(List Int)×(List Int)×Int×Int×Int×Int
abbrev IQ:Type:=(List Int)
noncomputable def qR (N:Nat) (f:I3→Option IQ):I3→Option IQ
 | (x0,x1,x2,x3,x4,x5,x6,x7,x8) =>
 ac (decide (x0<(↑(List.length x2):Int))) (
  ac (decide (x1=(0:Int))) (
   none ) (
   ac (decide (x1=(0:Int))) (
    none ) (
    ac (within x0 (List.length x2)) (
     Option.bind (x2[Int.toNat x0]?) fun y0 =>
     Option.bind (U1 N (x5,x6,x7,x8,Int.tmod x0 x1,IntKind.wrap IntKind.i64 (Int.tdiv x0 x1))) fun y1 =>
     ac (y1) (
      ac (within (IntKind.wrap IntKind.i64 (IntKind.wrap IntKind.i64 (IntKind.wrap IntKind.i64 (IntKind.wrap IntKind.i64 (IntKind.wrap IntKind.i64 (Int.tdiv x0 x1)-x6)*x7)+Int.tmod x0 x1)-x5)) (List.length x3)) (
       Option.bind (x3[Int.toNat (IntKind.wrap IntKind.i64 (IntKind.wrap IntKind.i64 (IntKind.wrap IntKind.i64 (IntKind.wrap IntKind.i64 (IntKind.wrap IntKind.i64 (Int.tdiv x0 x1)-x6)*x7)+Int.tmod x0 x1)-x5))]?) fun y2 =>
       ac (decide ((List.length x4+List.length [y2])*(8:Nat)≤(140737488355328:Nat)∧List.length x4+List.length [y2]≤(140737488355328:Nat))) (
        Option.bind (f (IntKind.wrap IntKind.i64 (x0+(1:Int)),x1,x2,x3,x4++[y2],x5,x6,x7,x8)) fun r=>some r) (
        none )) (
       none )) (
      ac (decide ((List.length x4+List.length [y0])*(8:Nat)≤(140737488355328:Nat)∧List.length x4+List.length [y0]≤(140737488355328:Nat))) (
       Option.bind (f (IntKind.wrap IntKind.i64 (x0+(1:Int)),x1,x2,x3,x4++[y0],x5,x6,x7,x8)) fun r=>some r) (
       none ))) (
     none )))) (
  some (x4))
noncomputable def jd (N:Nat):Nat→I3→Option IQ
 | 0,_=>none
 | k+1,x=>qR N (jd N k) x
noncomputable def Vb (N:Nat) (k:Nat):Cut:=TT.cut (jd N k)
theorem QT (N:Nat) (k:Nat):ak Tryz.prog false Tryz.f89 [] 58 (Vb N k) :=
 TT.loopT ag am (D1 N) Tryz.f89 [] (cuts:=[]) trivial (by decide +kernel) (by kernel_rfl) (qR N) (jd N) (fun _=>rfl) (fun _ _=>rfl) (fun f x=>by kernel_rfl) k
@[reducible] def w89:List SP:=[⟨[.sl 0],[.row (.int .i64) 3]⟩]
noncomputable def F89 (N:Nat):(Int×(List Int)×Int×Int×Int×Int×(List Int))→Option ((List Int))
 | (x0,x1,x2,x3,x4,x5,x6) =>
 Option.bind (jd N N ((0:Int),x0,x1,x6,[],x2,x3,x4,x5)) fun y0 =>
 some (y0)
noncomputable def T89 (N:Nat):Pk→Tr Pk:=ah s89 w89 (F89 N)
theorem as0 (N:Nat):av Tryz.prog (89) (T89 N) :=
 (af ag am (D1 N) Tryz.func89 s89 w89 [] (cuts:=[(58,Vb N N)]) ⟨QT N N,trivial⟩ (fun _=>by kernel_rfl) (by decide +kernel) (F89 N) (fun x=>by kernel_rfl))
@[reducible] def s218:SP:=⟨[.int .i64,.int .i64,.int .i64],[]⟩
noncomputable def ag7 (N:Nat):List (Nat×(Pk→Tr Pk)):=[]
theorem OX (N:Nat):ai Tryz.prog (ag7 N):=trivial
@[reducible] def w218:List SP:=[⟨[.int .i64],[]⟩]
noncomputable def Jm (N:Nat):(Int×Int×Int)→Option (Int)
 | (x0,x1,x2) =>
 ac (decide (x2<(0:Int))) (
  none ) (
  ac (decide (x1=(0:Int))) (
   none ) (
   some (IntKind.wrap IntKind.i64 (Int.tdiv (IntKind.wrap IntKind.i64 (IntKind.wrap IntKind.i64 (IntKind.wrap IntKind.i64 (↑(BitVec.toNat (BitVec.ofInt (64:Nat) (Int.fdiv x0 ((2:Int)^min (Int.toNat x2) (64:Nat))) &&& BitVec.ofInt (64:Nat) x1)):Int)*(255:Int))+IntKind.wrap IntKind.i64 (Int.tdiv x1 (2:Int)))) x1))))
noncomputable def aS3 (N:Nat):Pk→Tr Pk:=ah s218 w218 (Jm N)
theorem Xw (N:Nat):av Tryz.prog (218) (aS3 N) :=
 (af ag am (OX N) Tryz.func218 s218 w218 [] (cuts:=[]) trivial (fun _=>by kernel_rfl) (by decide +kernel) (Jm N) (fun x=>by kernel_rfl))
@[reducible] def s151:SP:=⟨[.agg [.int .i64,.int .i64,.bool,.bool,.int .i64,.int .i64,.int .i64,.int .i64,.int .i64,.int .i64],.int .i64],[]⟩
noncomputable def aj8 (N:Nat):List (Nat×(Pk→Tr Pk)):=[(218,aS3 N)]
theorem Ph (N:Nat):ai Tryz.prog (aj8 N):=⟨Xw N,trivial⟩
@[reducible] def w151:List SP:=[⟨[.int .i64],[]⟩]
noncomputable def U0 (N:Nat):(Int×Int×Bool×Bool×Int×Int×Int×Int×Int×Int×Int)→Option (Int)
 | (x0,x1,x2,x3,x4,x5,x6,x7,x8,x9,x10) =>
 Option.bind (Jm N (x10,x4,x7)) fun y0 =>
 Option.bind (Jm N (x10,x5,x8)) fun y1 =>
 Option.bind (Jm N (x10,x6,x9)) fun y2 =>
 some (IntKind.wrap IntKind.i64 (IntKind.wrap IntKind.i64 (IntKind.wrap IntKind.i64 (y0*(65536:Int))+IntKind.wrap IntKind.i64 (y1*(256:Int)))+y2))
noncomputable def aU6 (N:Nat):Pk→Tr Pk:=ah s151 w151 (U0 N)
theorem XW (N:Nat):av Tryz.prog (151) (aU6 N) :=
 (af ag am (Ph N) Tryz.func151 s151 w151 [] (cuts:=[]) trivial (fun _=>by kernel_rfl) (by decide +kernel) (U0 N) (fun x=>by kernel_rfl))
@[reducible] def s90:SP:=⟨[.agg [.int .i64,.int .i64,.bool,.bool,.int .i64,.int .i64,.int .i64,.int .i64,.int .i64,.int .i64],.ro (.int .i64)],[]⟩
noncomputable def aE8 (N:Nat):List (Nat×(Pk→Tr Pk)):=[(151,aU6 N)]
theorem DZ (N:Nat):ai Tryz.prog (aE8 N):=⟨XW N,trivial⟩
@[reducible] def TR:LD:=⟨58,[5,6,2,1],[(.ret,[4]),(.exit 0,[5])],⟨[.sl 0,.int .i64,.adr 1 [],.ro (.int .i64)],[.row (.int .i64) 3,.var 43 (.agg [.int .i64,.int .i64,.bool,.bool,.int .i64,.int .i64,.int .i64,.int .i64,.int .i64,.int .i64])]⟩,[(.exit 0,⟨[.sl 0],[.row (.int .i64) 3]⟩)]⟩
abbrev I2:Type:=Int×(List Int)×(List Int)×Int×Int×Bool×Bool×Int×Int×Int×Int×Int×Int
abbrev IP:Type:=(List Int)
noncomputable def qQ (N:Nat) (f:I2→Option IP):I2→Option IP
 | (x0,x1,x2,x3,x4,x5,x6,x7,x8,x9,x10,x11,x12) =>
 ac (decide (x0<(↑(List.length x1):Int))) (
  ac (within x0 (List.length x1)) (
   Option.bind (x1[Int.toNat x0]?) fun y0 =>
   Option.bind (U0 N (x3,x4,x5,x6,x7,x8,x9,x10,x11,x12,y0)) fun y1 =>
   ac (decide ((List.length x2+List.length [y1])*(8:Nat)≤(140737488355328:Nat)∧List.length x2+List.length [y1]≤(140737488355328:Nat))) (
    Option.bind (f (IntKind.wrap IntKind.i64 (x0+(1:Int)),x1,x2++[y1],x3,x4,x5,x6,x7,x8,x9,x10,x11,x12)) fun r=>some r) (
    none )) (
   none )) (
  some (x2))
noncomputable def jc (N:Nat):Nat→I2→Option IP
 | 0,_=>none
 | k+1,x=>qQ N (jc N k) x
noncomputable def U9 (N:Nat) (k:Nat):Cut:=TR.cut (jc N k)
theorem QR (N:Nat) (k:Nat):ak Tryz.prog false Tryz.f90 [] 58 (U9 N k) :=
 TR.loopT ag am (DZ N) Tryz.f90 [] (cuts:=[]) trivial (by decide +kernel) (by kernel_rfl) (qQ N) (jc N) (fun _=>rfl) (fun _ _=>rfl) (fun f x=>by kernel_rfl) k
@[reducible] def w90:List SP:=[⟨[.sl 0],[.row (.int .i64) 3]⟩]
noncomputable def F90 (N:Nat):(Int×Int×Bool×Bool×Int×Int×Int×Int×Int×Int×(List Int))→Option ((List Int))
 | (x0,x1,x2,x3,x4,x5,x6,x7,x8,x9,x10) =>
 Option.bind (jc N N ((0:Int),x10,[],x0,x1,x2,x3,x4,x5,x6,x7,x8,x9)) fun y0 =>
 some (y0)
noncomputable def T90 (N:Nat):Pk→Tr Pk:=ah s90 w90 (F90 N)
theorem Tq (N:Nat):av Tryz.prog (90) (T90 N) :=
 (af ag am (DZ N) Tryz.func90 s90 w90 [] (cuts:=[(58,U9 N N)]) ⟨QR N N,trivial⟩ (fun _=>by kernel_rfl) (by decide +kernel) (F90 N) (fun x=>by kernel_rfl))
@[reducible] def s30:SP:=⟨[.agg [.int .i64,.int .i64,.bool,.bool,.int .i64,.int .i64,.int .i64,.int .i64,.int .i64,.int .i64],.int .i64,.int .i64,.str],[]⟩
noncomputable def aH3 (N:Nat):List (Nat×(Pk→Tr Pk)):=[(27,T27 N),(87,T87 N),(38,T38 N),(88,T88 N),(89,T89 N),(90,T90 N)]
theorem Ea (N:Nat):ai Tryz.prog (aH3 N):=⟨av9 N,Tt N,Tx N,as1 N,as0 N,Tq N,trivial⟩
@[reducible] def Fx:LD:=⟨1018,[4,3,12,13,1,15,14],[(.ret,[8,9]),(.exit 0,[12,3,14,4])],⟨[.adr 0 [],.str,.adr 1 [],.sl 2,.int .i64,.int .i64,.sl 3],[.var 43 (.agg [.int .i64,.int .i64,.bool,.bool,.int .i64,.int .i64,.int .i64,.int .i64,.int .i64,.int .i64]),.var 137 (.agg [.agg [.int .i64,.int .i64,.bool,.bool,.int .i64,.int .i64,.int .i64,.int .i64,.int .i64,.int .i64],.int .i64,.adr 4 []]),.row y1 126,.row (.int .i64) 3,.var 135 (.agg [.str,.int .i64,.int .i64])]⟩,[(.ret,⟨[.sl 0,.int .i64],[.row (.int .i64) 3]⟩),(.exit 0,⟨[.adr 0 [],.str,.sl 1,.adr 2 []],[.var 137 (.agg [.agg [.int .i64,.int .i64,.bool,.bool,.int .i64,.int .i64,.int .i64,.int .i64,.int .i64,.int .i64],.int .i64,.adr 3 []]),.row (.int .i64) 3,.var 43 (.agg [.int .i64,.int .i64,.bool,.bool,.int .i64,.int .i64,.int .i64,.int .i64,.int .i64,.int .i64]),.var 135 (.agg [.str,.int .i64,.int .i64])]⟩)]⟩
abbrev vN:Type:=ByteArray×Int×Int×Int×Int×Bool×Bool×Int×Int×Int×Int×Int×Int×Int×Int×Bool×Bool×Int×Int×Int×Int×Int×Int×Int×(List (Int×(Int×(Int×(Int×Unit)))))×(List Int)×ByteArray×Int×Int
abbrev uY:Type:=((Int×(List Int))⊕(ByteArray×Int×Int×Bool×Bool×Int×Int×Int×Int×Int×Int×Int×(List Int)×Int×Int×Bool×Bool×Int×Int×Int×Int×Int×Int×ByteArray×Int×Int))
noncomputable def fS (N:Nat) (f:vN→Option uY):vN→Option uY
 | (x0,x1,x2,x3,x4,x5,x6,x7,x8,x9,x10,x11,x12,x13,x14,x15,x16,x17,x18,x19,x20,x21,x22,x23,x24,x25,x26,x27,x28) =>
 ac (decide (x2<(↑(List.length x24):Int))) (
  ac (within x2 (List.length x24)) (
   Option.bind (x24[Int.toNat x2]?) fun y0 =>
   ac (within x2 (List.length x24)) (
    Option.bind (x24[Int.toNat x2]?) fun y1 =>
    Option.bind (F88 N (y0.2.2.1,y1.2.2.2.1,x13,x14,x15,x16,x17,x18,x19,x20,x21,x22,x23,x26,x27,x28)) fun(y2_0,y2_1,y2_2,y2_3,y2_4,y2_5,y2_6,y2_7,y2_8,y2_9,y2_10,y2_11,y2_12,y2_13,y2_14,y2_15) =>
    ac (!y2_0) (
     some (.inl (((180:Int),[])))) (
     ac (y2_14 != (0:Int)) (
      some (.inl (((180:Int),[])))) (
      ac (within x2 (List.length x24)) (
       Option.bind (x24[Int.toNat x2]?) fun y3 =>
       Option.bind (F89 N (x1,x25,y3.1,y3.2.1,y3.2.2.1,y3.2.2.2.1,y2_15)) fun y4 =>
       Option.bind (f (x0,x1,IntKind.wrap IntKind.i64 (x2+(1:Int)),x3,x4,x5,x6,x7,x8,x9,x10,x11,x12,y2_1,y2_2,y2_3,y2_4,y2_5,y2_6,y2_7,y2_8,y2_9,y2_10,y2_11,x24,y4,y2_12,y2_13,y2_14)) fun r=>match r with|.inl y=>some (.inl y)|.inr y=>some (.inr y)) (
       none )))) (
    none )) (
   none )) (
  some (.inr ((x0,x13,x14,x15,x16,x17,x18,x19,x20,x21,x22,x23,x25,x3,x4,x5,x6,x7,x8,x9,x10,x11,x12,x26,x27,x28))))
noncomputable def bQ (N:Nat):Nat→vN→Option uY
 | 0,_=>none
 | k+1,x=>fS N (bQ N k) x
noncomputable def GU (N:Nat) (k:Nat):Cut:=Fx.cut (bQ N k)
theorem GR (N:Nat) (k:Nat):ak Tryz.prog false Tryz.f30 [] 1018 (GU N k) :=
 Fx.loopT ag am (Ea N) Tryz.f30 [] (cuts:=[]) trivial (by decide +kernel) (by kernel_rfl) (fS N) (bQ N) (fun _=>rfl) (fun _ _=>rfl) (fun f x=>by kernel_rfl) k
@[reducible] def w30:List SP:=[⟨[.tup [.sl 0,.int .i64]],[.row (.int .i64) 3]⟩]
noncomputable def F30 (N:Nat):(Int×Int×Bool×Bool×Int×Int×Int×Int×Int×Int×Int×Int×ByteArray)→Option (Int×(List Int))
 | (x0,x1,x2,x3,x4,x5,x6,x7,x8,x9,x10,x11,x12) =>
 Option.bind (F27 N (x0,x1,x2,x3,x4,x5,x6,x7,x8,x9,x10,x11)) fun y0 =>
 ac (!y0) (
  some (((1:Int),[]))) (
  Option.bind (Q4 N (x0,x1,x2,x3,x4,x5,x6,x7,x8,x9)) fun y1 =>
  Option.bind (F38 N (x10,x11,(64:Int))) fun y2 =>
  ac (decide ((0:Int)≤IntKind.wrap IntKind.i64 (x10*x11)∧IntKind.wrap IntKind.i64 (x10*x11)≤IntKind.wrap IntKind.i64 (x10*x11)∧IntKind.wrap IntKind.i64 (x10*x11)*(8:Int)≤(140737488355328:Int)∧IntKind.wrap IntKind.i64 (x10*x11)≤(140737488355328:Int))) (
   Option.bind (bQ N N (x12,x10,(0:Int),x0,x1,x2,x3,x4,x5,x6,x7,x8,x9,x0,x1,x2,x3,x4,x5,x6,x7,x8,x9,y1.1,y2,List.replicate (Int.toNat (IntKind.wrap IntKind.i64 (x10*x11))) (0:Int),x12,(0:Int),(0:Int))) fun y3 =>
   match y3 with
   | .inl y4 =>
    some ((y4.1,y4.2))
   | .inr (y4_0,y4_1,y4_2,y4_3,y4_4,y4_5,y4_6,y4_7,y4_8,y4_9,y4_10,y4_11,y4_12,y4_13,y4_14,y4_15,y4_16,y4_17,y4_18,y4_19,y4_20,y4_21,y4_22,y4_23,y4_24,y4_25) =>
    ac (decide (y4_24<(↑(ByteArray.size y4_0):Int))) (
     some (((3:Int),[]))) (
     Option.bind (F90 N (y4_13,y4_14,y4_15,y4_16,y4_17,y4_18,y4_19,y4_20,y4_21,y4_22,y4_12)) fun y5 =>
     some (((0:Int),y5)))) (
   none ))
noncomputable def T30 (N:Nat):Pk→Tr Pk:=ah s30 w30 (F30 N)
theorem av8 (N:Nat):av Tryz.prog (30) (T30 N) :=
 (af ag am (Ea N) Tryz.func30 s30 w30 [] (cuts:=[(1018,GU N N)]) ⟨GR N N,trivial⟩ (fun _=>by kernel_rfl) (by decide +kernel) (F30 N) (fun x=>by kernel_rfl))
@[reducible] def s225:SP:=⟨[.int .i64,.int .i64,.int .i64],[]⟩
noncomputable def ag0 (N:Nat):List (Nat×(Pk→Tr Pk)):=[]
theorem OS (N:Nat):ai Tryz.prog (ag0 N):=trivial
@[reducible] def w225:List SP:=[⟨[.int .i64],[]⟩]
noncomputable def Jk (N:Nat):(Int×Int×Int)→Option (Int)
 | (x0,x1,x2) =>
 ac (decide (x2<(0:Int))) (
  none ) (
  some (IntKind.wrap IntKind.i64 (IntKind.wrap IntKind.i64 (Int.tdiv (IntKind.wrap IntKind.i64 (IntKind.wrap IntKind.i64 (x0*x1)+(127:Int))) (255:Int))*(2:Int)^min (Int.toNat x2) (64:Nat))))
noncomputable def aR9 (N:Nat):Pk→Tr Pk:=ah s225 w225 (Jk N)
theorem Xq (N:Nat):av Tryz.prog (225) (aR9 N) :=
 (af ag am (OS N) Tryz.func225 s225 w225 [] (cuts:=[]) trivial (fun _=>by kernel_rfl) (by decide +kernel) (Jk N) (fun x=>by kernel_rfl))
@[reducible] def s160:SP:=⟨[.agg [.int .i64,.int .i64,.bool,.bool,.int .i64,.int .i64,.int .i64,.int .i64,.int .i64,.int .i64],.int .i64],[]⟩
noncomputable def ai9 (N:Nat):List (Nat×(Pk→Tr Pk)):=[(225,aR9 N)]
theorem Pd (N:Nat):ai Tryz.prog (ai9 N):=⟨Xq N,trivial⟩
@[reducible] def w160:List SP:=[⟨[.int .i64],[]⟩]
noncomputable def UW (N:Nat):(Int×Int×Bool×Bool×Int×Int×Int×Int×Int×Int×Int)→Option (Int)
 | (x0,x1,x2,x3,x4,x5,x6,x7,x8,x9,x10) =>
 Option.bind (Jk N (IntKind.wrap IntKind.i64 (↑(BitVec.toNat (BitVec.ofInt (64:Nat) (Int.fdiv x10 (65536:Int)) &&& BitVec.ofInt (64:Nat) (255:Int))):Int),x4,x7)) fun y0 =>
 Option.bind (Jk N (IntKind.wrap IntKind.i64 (↑(BitVec.toNat (BitVec.ofInt (64:Nat) (Int.fdiv x10 (256:Int)) &&& BitVec.ofInt (64:Nat) (255:Int))):Int),x5,x8)) fun y1 =>
 Option.bind (Jk N (IntKind.wrap IntKind.i64 (↑(BitVec.toNat (BitVec.ofInt (64:Nat) x10 &&& BitVec.ofInt (64:Nat) (255:Int))):Int),x6,x9)) fun y2 =>
 some (IntKind.wrap IntKind.i64 (IntKind.wrap IntKind.i64 (y0+y1)+y2))
noncomputable def aU0 (N:Nat):Pk→Tr Pk:=ah s160 w160 (UW N)
theorem XO (N:Nat):av Tryz.prog (160) (aU0 N) :=
 (af ag am (Pd N) Tryz.func160 s160 w160 [] (cuts:=[]) trivial (fun _=>by kernel_rfl) (by decide +kernel) (UW N) (fun x=>by kernel_rfl))
@[reducible] def s94:SP:=⟨[.agg [.int .i64,.int .i64,.bool,.bool,.int .i64,.int .i64,.int .i64,.int .i64,.int .i64,.int .i64],.ro (.int .i64)],[]⟩
noncomputable def aE4 (N:Nat):List (Nat×(Pk→Tr Pk)):=[(160,aU0 N)]
theorem DW (N:Nat):ai Tryz.prog (aE4 N):=⟨XO N,trivial⟩
@[reducible] def TO:LD:=⟨58,[5,6,2,1],[(.ret,[4]),(.exit 0,[5])],⟨[.sl 0,.int .i64,.adr 1 [],.ro (.int .i64)],[.row (.int .i64) 3,.var 43 (.agg [.int .i64,.int .i64,.bool,.bool,.int .i64,.int .i64,.int .i64,.int .i64,.int .i64,.int .i64])]⟩,[(.exit 0,⟨[.sl 0],[.row (.int .i64) 3]⟩)]⟩
abbrev I0:Type:=Int×(List Int)×(List Int)×Int×Int×Bool×Bool×Int×Int×Int×Int×Int×Int
abbrev IM:Type:=(List Int)
noncomputable def qO (N:Nat) (f:I0→Option IM):I0→Option IM
 | (x0,x1,x2,x3,x4,x5,x6,x7,x8,x9,x10,x11,x12) =>
 ac (decide (x0<(↑(List.length x1):Int))) (
  ac (within x0 (List.length x1)) (
   Option.bind (x1[Int.toNat x0]?) fun y0 =>
   Option.bind (UW N (x3,x4,x5,x6,x7,x8,x9,x10,x11,x12,y0)) fun y1 =>
   ac (decide ((List.length x2+List.length [y1])*(8:Nat)≤(140737488355328:Nat)∧List.length x2+List.length [y1]≤(140737488355328:Nat))) (
    Option.bind (f (IntKind.wrap IntKind.i64 (x0+(1:Int)),x1,x2++[y1],x3,x4,x5,x6,x7,x8,x9,x10,x11,x12)) fun r=>some r) (
    none )) (
   none )) (
  some (x2))
noncomputable def ja (N:Nat):Nat→I0→Option IM
 | 0,_=>none
 | k+1,x=>qO N (ja N k) x
noncomputable def U7 (N:Nat) (k:Nat):Cut:=TO.cut (ja N k)
theorem QP (N:Nat) (k:Nat):ak Tryz.prog false Tryz.f94 [] 58 (U7 N k) :=
 TO.loopT ag am (DW N) Tryz.f94 [] (cuts:=[]) trivial (by decide +kernel) (by kernel_rfl) (qO N) (ja N) (fun _=>rfl) (fun _ _=>rfl) (fun f x=>by kernel_rfl) k
@[reducible] def w94:List SP:=[⟨[.sl 0],[.row (.int .i64) 3]⟩]
noncomputable def F94 (N:Nat):(Int×Int×Bool×Bool×Int×Int×Int×Int×Int×Int×(List Int))→Option ((List Int))
 | (x0,x1,x2,x3,x4,x5,x6,x7,x8,x9,x10) =>
 Option.bind (ja N N ((0:Int),x10,[],x0,x1,x2,x3,x4,x5,x6,x7,x8,x9)) fun y0 =>
 some (y0)
noncomputable def T94 (N:Nat):Pk→Tr Pk:=ah s94 w94 (F94 N)
theorem ar6 (N:Nat):av Tryz.prog (94) (T94 N) :=
 (af ag am (DW N) Tryz.func94 s94 w94 [] (cuts:=[(58,U7 N N)]) ⟨QP N N,trivial⟩ (fun _=>by kernel_rfl) (by decide +kernel) (F94 N) (fun x=>by kernel_rfl))
@[reducible] def s36:SP:=⟨[.agg [.int .i64,.int .i64,.bool,.bool,.int .i64,.int .i64,.int .i64,.int .i64,.int .i64,.int .i64],.ro (.int .i64)],[]⟩
noncomputable def aG8 (N:Nat):List (Nat×(Pk→Tr Pk)):=[(94,T94 N),(90,T90 N)]
theorem RO (N:Nat):ai Tryz.prog (aG8 N):=⟨ar6 N,Tq N,trivial⟩
@[reducible] def w36:List SP:=[⟨[.sl 0],[.row (.int .i64) 3]⟩]
noncomputable def F36 (N:Nat):(Int×Int×Bool×Bool×Int×Int×Int×Int×Int×Int×(List Int))→Option ((List Int))
 | (x0,x1,x2,x3,x4,x5,x6,x7,x8,x9,x10) =>
 Option.bind (F94 N (x0,x1,x2,x3,x4,x5,x6,x7,x8,x9,x10)) fun y0 =>
 Option.bind (F90 N (x0,x1,x2,x3,x4,x5,x6,x7,x8,x9,y0)) fun y1 =>
 some (y1)
noncomputable def T36 (N:Nat):Pk→Tr Pk:=ah s36 w36 (F36 N)
theorem au4 (N:Nat):av Tryz.prog (36) (T36 N) :=
 (af ag am (RO N) Tryz.func36 s36 w36 [] (cuts:=[]) trivial (fun _=>by kernel_rfl) (by decide +kernel) (F36 N) (fun x=>by kernel_rfl))
@[reducible] def s8:SP:=⟨[.agg [.int .i64,.int .i64,.bool,.bool,.int .i64,.int .i64,.int .i64,.int .i64,.int .i64,.int .i64],.int .i64,.int .i64,.ro (.int .i64)],[]⟩
noncomputable def aY4 (N:Nat):List (Nat×(Pk→Tr Pk)):=[(26,T26 N),(34,T34 N),(35,T35 N),(30,T30 N),(36,T36 N),(31,T31 N),(37,T37 N),(38,T38 N),(32,T32 N)]
theorem Kl (N:Nat):ai Tryz.prog (aY4 N):=⟨aw2 N,TD N,uB N,av8 N,au4 N,TG N,uz N,Tx N,TF N,trivial⟩
@[reducible] def TS:LD:=⟨127,[3,9,11,10,4,1,2],[(.ret,[8]),(.normal,[8])],⟨[.ro (.int .i64),.bool,.int .i64,.str,.adr 0 [],.int .i64,.int .i64],[.var 43 (.agg [.int .i64,.int .i64,.bool,.bool,.int .i64,.int .i64,.int .i64,.int .i64,.int .i64,.int .i64])]⟩,[(.ret,⟨[.bool],[]⟩)]⟩
noncomputable def wt (N:Nat):((List Int)×Bool×Int×ByteArray×Int×Int×Int×Int×Bool×Bool×Int×Int×Int×Int×Int×Int)→Option (Bool)
 | (x0,x1,x2,x3,x4,x5,x6,x7,x8,x9,x10,x11,x12,x13,x14,x15) =>
 Option.bind (F30 N (x6,x7,x8,x9,x10,x11,x12,x13,x14,x15,x4,x5,x3)) fun y0 =>
 Option.bind (F36 N (x6,x7,x8,x9,x10,x11,x12,x13,x14,x15,x0)) fun y1 =>
 Option.bind (UA N (y0.2,y1)) fun y2 =>
 Option.bind (DK N (x6,x7,x8,x9,x10,x11,x12,x13,x14,x15)) fun y3 =>
 ac (x1) (
  ac (x2==(0:Int)) (
   ac (y0.1==(0:Int)) (
    ac (y2) (
     Option.bind (F38 N (x4,x5,(64:Int))) fun y4 =>
     ac (decide ((↑(ByteArray.size x3):Int)≤IntKind.wrap IntKind.i64 ((↑(List.length y4):Int)+IntKind.wrap IntKind.i64 (IntKind.wrap IntKind.i64 (x4*x5)*y3.1)))) (
      Option.bind (F32 N (x6,x7,x8,x9,x10,x11,x12,x13,x14,x15,x4,x5)) fun y5 =>
      some (decide ((↑(ByteArray.size x3):Int)≤y5))) (
      some (false))) (
     some (false))) (
    some (false))) (
   some (false))) (
  some (false))
noncomputable def Va (N:Nat) (_:Nat):Cut:=TS.cut (wt N)
theorem QS (N:Nat) (k:Nat):ak Tryz.prog false Tryz.f8 [] 127 (Va N k) :=
 TS.pieceT ag am (Kl N) Tryz.f8 [] (cuts:=[]) trivial (by decide +kernel) (by kernel_rfl) (wt N) (fun x=>by kernel_rfl)
@[reducible] def w8:List SP:=[⟨[.bool],[]⟩]
noncomputable def F8 (N:Nat):(Int×Int×Bool×Bool×Int×Int×Int×Int×Int×Int×Int×Int×(List Int))→Option (Bool)
 | (x0,x1,x2,x3,x4,x5,x6,x7,x8,x9,x10,x11,x12) =>
 Option.bind (F26 N ()) fun y0 =>
 ac (!y0) (
  some (false)) (
  ac (decide ((↑(List.length x12):Int)>(5000:Int))) (
   some (y0)) (
   Option.bind (Ux N (x0,x1,x2,x3,x4,x5,x6,x7,x8,x9,x10,x11,x12)) fun y1 =>
   Option.bind (YB N (x0,x1,x2,x3,x4,x5,x6,x7,x8,x9,x10,x11)) fun y2 =>
   ac (!y2) (
    ac (y0) (
     ac (ByteArray.toList y1.1==[]) (
      some (y1.2==(1:Int))) (
      some (false))) (
     some (false))) (
    ac ((↑(List.length x12):Int) != IntKind.wrap IntKind.i64 (x10*x11)) (
     ac (y0) (
      ac (ByteArray.toList y1.1==[]) (
       some (y1.2==(1:Int))) (
       some (false))) (
      some (false))) (
     Option.bind (wt N (x12,y0,y1.2,y1.1,x10,x11,x0,x1,x2,x3,x4,x5,x6,x7,x8,x9)) fun y3 =>
     some (y3)))))
noncomputable def T8 (N:Nat):Pk→Tr Pk:=ah s8 w8 (F8 N)
theorem aL9 (N:Nat):av Tryz.prog (8) (T8 N) :=
 (af ag am (Kl N) Tryz.func8 s8 w8 [] (cuts:=[(127,Va N N)]) ⟨QS N N,trivial⟩ (fun _=>by kernel_rfl) (by decide +kernel) (F8 N) (fun x=>by kernel_rfl))
end Go.Proofs.YtfcamlibbfnldaaGreat.Am
