/- The seat's Go functions come to the Lean functions written here, wherever these give an answer (part D). -/
import Derived.Test.YtfcamlibbfnldaaGreatSC
set_option linter.unusedSimpArgs false
set_option linter.unusedVariables false
set_option linter.unusedSectionVars false
set_option maxRecDepth 100000
namespace Go.Proofs.YtfcamlibbfnldaaGreat.Am
open Go.Am
abbrev mR:Type:=Int×Int×Int×Int×Int×Int×Int×Bool×Bool×Int×Int×Int×Int×Int×Int×Int×ByteArray×Int×Int×(List Int)×(List Int)
abbrev mJ:Type:=Int×Int×Int×Int×Bool×Bool×Int×Int×Int×Int×Int×Int×Int×ByteArray×Int×Int×(List Int)×(List Int)
noncomputable def fM (N:Nat) (f:mR→Option mJ):mR→Option mJ
 | (x0,x1,x2,x3,x4,x5,x6,x7,x8,x9,x10,x11,x12,x13,x14,x15,x16,x17,x18,x19,x20) =>
 ac (decide (x0<x1)) (
  ac (decide ((List.length x19+List.length [x4])*(8:Nat)≤(140737488355328:Nat)∧List.length x19+List.length [x4]≤(140737488355328:Nat))) (
   Option.bind (f (IntKind.wrap IntKind.i64 (x0+(1:Int)),x1,x2,x3,x4,x5,x6,x7,x8,x9,x10,x11,x12,x13,x14,x15,x16,x17,x18,x19++[x4],x20)) fun r=>some r) (
   none )) (
  some ((x3,x2,x5,x6,x7,x8,x9,x10,x11,x12,x13,x14,x15,x16,x17,x18,x19,x20)))
noncomputable def bG (N:Nat):Nat→mR→Option mJ
 | 0,_=>none
 | k+1,x=>fM N (bG N k) x
abbrev CH:Type:=Int×Int×Int×Int×Bool×Bool×Int×Int×Int×Int×Int×Int×Int×ByteArray×Int×Int×(List Int)×(List Int)
abbrev rX:Type:=((Bool×Int×Int×Bool×Bool×Int×Int×Int×Int×Int×Int×Int×ByteArray×Int×Int×(List Int))⊕(Int×Int×Bool×Bool×Int×Int×Int×Int×Int×Int×Int×ByteArray×Int×Int×(List Int)))
noncomputable def jl (N:Nat) (f:CH→Option rX):CH→Option rX
 | (x0,x1,x2,x3,x4,x5,x6,x7,x8,x9,x10,x11,x12,x13,x14,x15,x16,x17) =>
 ac (decide ((↑(List.length x16):Int)<x1)) (
  ac (decide (x0>(0:Int))) (
   Option.bind (To N ((1:Int),x13,x14,x15)) fun y0 =>
   ac (decide (Int.tmod y0.1 (128:Int)≥x0)) (
    some (.inl ((false,x2,x3,x4,x5,x6,x7,x8,x9,x10,x11,x12,y0.2.1,y0.2.2.1,y0.2.2.2,[])))) (
    ac (within (Int.tmod y0.1 (128:Int)) (List.length x17)) (
     Option.bind (x17[Int.toNat (Int.tmod y0.1 (128:Int))]?) fun y1 =>
     ac (decide (y0.1≥(128:Int))) (
      Option.bind (Xo N (x2,x3,x4,x5,x6,x7,x8,x9,x10,x11,x12,y0.2.1,y0.2.2.1,y0.2.2.2)) fun(y2_0,y2_1,y2_2,y2_3,y2_4,y2_5,y2_6,y2_7,y2_8,y2_9,y2_10,y2_11,y2_12,y2_13,y2_14) =>
      ac (y2_14 != (0:Int)) (
       some (.inl ((false,y2_1,y2_2,y2_3,y2_4,y2_5,y2_6,y2_7,y2_8,y2_9,y2_10,y2_11,y2_12,y2_13,y2_14,[])))) (
       ac (decide (y2_0>IntKind.wrap IntKind.i64 (x1-(↑(List.length x16):Int)))) (
        some (.inl ((false,y2_1,y2_2,y2_3,y2_4,y2_5,y2_6,y2_7,y2_8,y2_9,y2_10,y2_11,y2_12,y2_13,y2_14,[])))) (
        Option.bind (bG N N ((0:Int),y2_0,x1,x0,y1,y2_1,y2_2,y2_3,y2_4,y2_5,y2_6,y2_7,y2_8,y2_9,y2_10,y2_11,y2_12,y2_13,y2_14,x16,x17)) fun(y3_0,y3_1,y3_2,y3_3,y3_4,y3_5,y3_6,y3_7,y3_8,y3_9,y3_10,y3_11,y3_12,y3_13,y3_14,y3_15,y3_16,y3_17) =>
        Option.bind (f (y3_0,y3_1,y3_2,y3_3,y3_4,y3_5,y3_6,y3_7,y3_8,y3_9,y3_10,y3_11,y3_12,y3_13,y3_14,y3_15,y3_16,y3_17)) fun r=>match r with|.inl y=>some (.inl y)|.inr y=>some (.inr y)))) (
      ac (y0.2.2.2 != (0:Int)) (
       some (.inl ((false,x2,x3,x4,x5,x6,x7,x8,x9,x10,x11,x12,y0.2.1,y0.2.2.1,y0.2.2.2,[])))) (
       ac (decide ((1:Int)>IntKind.wrap IntKind.i64 (x1-(↑(List.length x16):Int)))) (
        some (.inl ((false,x2,x3,x4,x5,x6,x7,x8,x9,x10,x11,x12,y0.2.1,y0.2.2.1,y0.2.2.2,[])))) (
        Option.bind (bG N N ((0:Int),(1:Int),x1,x0,y1,x2,x3,x4,x5,x6,x7,x8,x9,x10,x11,x12,y0.2.1,y0.2.2.1,y0.2.2.2,x16,x17)) fun(y4_0,y4_1,y4_2,y4_3,y4_4,y4_5,y4_6,y4_7,y4_8,y4_9,y4_10,y4_11,y4_12,y4_13,y4_14,y4_15,y4_16,y4_17) =>
        Option.bind (f (y4_0,y4_1,y4_2,y4_3,y4_4,y4_5,y4_6,y4_7,y4_8,y4_9,y4_10,y4_11,y4_12,y4_13,y4_14,y4_15,y4_16,y4_17)) fun r=>match r with|.inl y=>some (.inl y)|.inr y=>some (.inr y))))) (
     none ))) (
   Option.bind (Tm N (x2,x3,x4,x5,x6,x7,x8,x9,x10,x11,x12,x13,x14,x15)) fun(y5_0,y5_1,y5_2,y5_3,y5_4,y5_5,y5_6,y5_7,y5_8,y5_9,y5_10,y5_11,y5_12,y5_13,y5_14) =>
   Option.bind (Xo N (y5_1,y5_2,y5_3,y5_4,y5_5,y5_6,y5_7,y5_8,y5_9,y5_10,y5_11,y5_12,y5_13,y5_14)) fun(y6_0,y6_1,y6_2,y6_3,y6_4,y6_5,y6_6,y6_7,y6_8,y6_9,y6_10,y6_11,y6_12,y6_13,y6_14) =>
   ac (y6_14 != (0:Int)) (
    some (.inl ((false,y6_1,y6_2,y6_3,y6_4,y6_5,y6_6,y6_7,y6_8,y6_9,y6_10,y6_11,y6_12,y6_13,y6_14,[])))) (
    ac (decide (y6_0>IntKind.wrap IntKind.i64 (x1-(↑(List.length x16):Int)))) (
     some (.inl ((false,y6_1,y6_2,y6_3,y6_4,y6_5,y6_6,y6_7,y6_8,y6_9,y6_10,y6_11,y6_12,y6_13,y6_14,[])))) (
     Option.bind (bG N N ((0:Int),y6_0,x1,x0,y5_0,y6_1,y6_2,y6_3,y6_4,y6_5,y6_6,y6_7,y6_8,y6_9,y6_10,y6_11,y6_12,y6_13,y6_14,x16,x17)) fun(y7_0,y7_1,y7_2,y7_3,y7_4,y7_5,y7_6,y7_7,y7_8,y7_9,y7_10,y7_11,y7_12,y7_13,y7_14,y7_15,y7_16,y7_17) =>
     Option.bind (f (y7_0,y7_1,y7_2,y7_3,y7_4,y7_5,y7_6,y7_7,y7_8,y7_9,y7_10,y7_11,y7_12,y7_13,y7_14,y7_15,y7_16,y7_17)) fun r=>match r with|.inl y=>some (.inl y)|.inr y=>some (.inr y))))) (
  some (.inr ((x2,x3,x4,x5,x6,x7,x8,x9,x10,x11,x12,x13,x14,x15,x16))))
noncomputable def eL (N:Nat):Nat→CH→Option rX
 | 0,_=>none
 | k+1,x=>jl N (eL N k) x
noncomputable def Pn (N:Nat):(Int×Int×Int×Int×Bool×Bool×Int×Int×Int×Int×Int×Int×Int×ByteArray×Int×Int)→Option (Bool×Int×Int×Bool×Bool×Int×Int×Int×Int×Int×Int×Int×ByteArray×Int×Int×(List Int))
 | (x0,x1,x2,x3,x4,x5,x6,x7,x8,x9,x10,x11,x12,x13,x14,x15) =>
 Option.bind (Tn N (x0,x2,x3,x4,x5,x6,x7,x8,x9,x10,x11,x12,x13,x14,x15)) fun(y0_0,y0_1,y0_2,y0_3,y0_4,y0_5,y0_6,y0_7,y0_8,y0_9,y0_10,y0_11,y0_12,y0_13,y0_14) =>
 Option.bind (eL N N (x0,x1,y0_0,y0_1,y0_2,y0_3,y0_4,y0_5,y0_6,y0_7,y0_8,y0_9,y0_10,y0_11,y0_12,y0_13,[],y0_14)) fun y1 =>
 match y1 with
 | .inl (y2_0,y2_1,y2_2,y2_3,y2_4,y2_5,y2_6,y2_7,y2_8,y2_9,y2_10,y2_11,y2_12,y2_13,y2_14,y2_15) =>
  some ((y2_0,y2_1,y2_2,y2_3,y2_4,y2_5,y2_6,y2_7,y2_8,y2_9,y2_10,y2_11,y2_12,y2_13,y2_14,y2_15))
 | .inr (y2_0,y2_1,y2_2,y2_3,y2_4,y2_5,y2_6,y2_7,y2_8,y2_9,y2_10,y2_11,y2_12,y2_13,y2_14) =>
  some ((true,y2_0,y2_1,y2_2,y2_3,y2_4,y2_5,y2_6,y2_7,y2_8,y2_9,y2_10,y2_11,y2_12,y2_13,y2_14))
abbrev uX:Type:=Int×Int×Int×Int×Int×Int×Bool×Bool×Int×Int×Int×Int×Int×Int×Int×ByteArray×Int×Int×(List Int)
abbrev uk:Type:=Int×Int×Bool×Bool×Int×Int×Int×Int×Int×Int×Int×ByteArray×Int×Int×(List Int)
noncomputable def kN (N:Nat) (f:uX→Option uk):uX→Option uk
 | (x0,x1,x2,x3,x4,x5,x6,x7,x8,x9,x10,x11,x12,x13,x14,x15,x16,x17,x18) =>
 ac (decide (x0<IntKind.wrap IntKind.i64 (x1*x2))) (
  ac (decide ((List.length x18+List.length [x3])*(8:Nat)≤(140737488355328:Nat)∧List.length x18+List.length [x3]≤(140737488355328:Nat))) (
   Option.bind (f (IntKind.wrap IntKind.i64 (x0+(1:Int)),x1,x2,x3,x4,x5,x6,x7,x8,x9,x10,x11,x12,x13,x14,x15,x16,x17,x18++[x3])) fun r=>some r) (
   none )) (
  some ((x4,x5,x6,x7,x8,x9,x10,x11,x12,x13,x14,x15,x16,x17,x18)))
noncomputable def fz (N:Nat):Nat→uX→Option uk
 | 0,_=>none
 | k+1,x=>kN N (fz N k) x
noncomputable def F88 (N:Nat):(Int×Int×Int×Int×Bool×Bool×Int×Int×Int×Int×Int×Int×Int×ByteArray×Int×Int)→Option (Bool×Int×Int×Bool×Bool×Int×Int×Int×Int×Int×Int×Int×ByteArray×Int×Int×(List Int))
 | (x0,x1,x2,x3,x4,x5,x6,x7,x8,x9,x10,x11,x12,x13,x14,x15) =>
 Option.bind (To N ((1:Int),x13,x14,x15)) fun y0 =>
 ac (y0.2.2.2 != (0:Int)) (
  some ((false,x2,x3,x4,x5,x6,x7,x8,x9,x10,x11,x12,y0.2.1,y0.2.2.1,y0.2.2.2,[]))) (
  ac (y0.1==(0:Int)) (
   Option.bind (Tn N (IntKind.wrap IntKind.i64 (x0*x1),x2,x3,x4,x5,x6,x7,x8,x9,x10,x11,x12,y0.2.1,y0.2.2.1,y0.2.2.2)) fun(y1_0,y1_1,y1_2,y1_3,y1_4,y1_5,y1_6,y1_7,y1_8,y1_9,y1_10,y1_11,y1_12,y1_13,y1_14) =>
   some ((true,y1_0,y1_1,y1_2,y1_3,y1_4,y1_5,y1_6,y1_7,y1_8,y1_9,y1_10,y1_11,y1_12,y1_13,y1_14))) (
   ac (y0.1==(1:Int)) (
    Option.bind (Tm N (x2,x3,x4,x5,x6,x7,x8,x9,x10,x11,x12,y0.2.1,y0.2.2.1,y0.2.2.2)) fun(y2_0,y2_1,y2_2,y2_3,y2_4,y2_5,y2_6,y2_7,y2_8,y2_9,y2_10,y2_11,y2_12,y2_13,y2_14) =>
    Option.bind (fz N N ((0:Int),x0,x1,y2_0,y2_1,y2_2,y2_3,y2_4,y2_5,y2_6,y2_7,y2_8,y2_9,y2_10,y2_11,y2_12,y2_13,y2_14,[])) fun(y3_0,y3_1,y3_2,y3_3,y3_4,y3_5,y3_6,y3_7,y3_8,y3_9,y3_10,y3_11,y3_12,y3_13,y3_14) =>
    some ((true,y3_0,y3_1,y3_2,y3_3,y3_4,y3_5,y3_6,y3_7,y3_8,y3_9,y3_10,y3_11,y3_12,y3_13,y3_14))) (
    ac (decide (y0.1≤(16:Int))) (
     Option.bind (ap5 N (y0.1,x0,x1,x2,x3,x4,x5,x6,x7,x8,x9,x10,x11,x12,y0.2.1,y0.2.2.1,y0.2.2.2)) fun(y4_0,y4_1,y4_2,y4_3,y4_4,y4_5,y4_6,y4_7,y4_8,y4_9,y4_10,y4_11,y4_12,y4_13,y4_14,y4_15) =>
     some ((y4_0,y4_1,y4_2,y4_3,y4_4,y4_5,y4_6,y4_7,y4_8,y4_9,y4_10,y4_11,y4_12,y4_13,y4_14,y4_15))) (
     ac (y0.1==(128:Int)) (
      Option.bind (Pn N (IntKind.wrap IntKind.i64 (y0.1-(128:Int)),IntKind.wrap IntKind.i64 (x0*x1),x2,x3,x4,x5,x6,x7,x8,x9,x10,x11,x12,y0.2.1,y0.2.2.1,y0.2.2.2)) fun(y5_0,y5_1,y5_2,y5_3,y5_4,y5_5,y5_6,y5_7,y5_8,y5_9,y5_10,y5_11,y5_12,y5_13,y5_14,y5_15) =>
      some ((y5_0,y5_1,y5_2,y5_3,y5_4,y5_5,y5_6,y5_7,y5_8,y5_9,y5_10,y5_11,y5_12,y5_13,y5_14,y5_15))) (
      ac (decide (y0.1≥(130:Int))) (
       Option.bind (Pn N (IntKind.wrap IntKind.i64 (y0.1-(128:Int)),IntKind.wrap IntKind.i64 (x0*x1),x2,x3,x4,x5,x6,x7,x8,x9,x10,x11,x12,y0.2.1,y0.2.2.1,y0.2.2.2)) fun(y6_0,y6_1,y6_2,y6_3,y6_4,y6_5,y6_6,y6_7,y6_8,y6_9,y6_10,y6_11,y6_12,y6_13,y6_14,y6_15) =>
       some ((y6_0,y6_1,y6_2,y6_3,y6_4,y6_5,y6_6,y6_7,y6_8,y6_9,y6_10,y6_11,y6_12,y6_13,y6_14,y6_15))) (
       some ((false,x2,x3,x4,x5,x6,x7,x8,x9,x10,x11,x12,y0.2.1,y0.2.2.1,y0.2.2.2,[]))))))))
noncomputable def ap4 (N:Nat):(Int×Int×Int×Int×Int×Int)→Option (Bool)
 | (x0,x1,x2,x3,x4,x5) =>
 ac (decide (x4≥x0)) (
  ac (decide (x4<IntKind.wrap IntKind.i64 (x0+x2))) (
   ac (decide (x5≥x1)) (
    some (decide (x5<IntKind.wrap IntKind.i64 (x1+x3)))) (
    some (false))) (
   some (false))) (
  some (false))
abbrev Ip:Type:=Int×Int×(List Int)×(List Int)×(List Int)×Int×Int×Int×Int
abbrev Ia:Type:=(List Int)
noncomputable def wt (N:Nat) (f:Ip→Option Ia):Ip→Option Ia
 | (x0,x1,x2,x3,x4,x5,x6,x7,x8) =>
 ac (decide (x0<(↑(List.length x2):Int))) (
  ac (decide (x1=(0:Int))) (
   none ) (
   ac (decide (x1=(0:Int))) (
    none ) (
    ac (within x0 (List.length x2)) (
     Option.bind (x2[Int.toNat x0]?) fun y0 =>
     Option.bind (ap4 N (x5,x6,x7,x8,Int.tmod x0 x1,IntKind.wrap IntKind.i64 (Int.tdiv x0 x1))) fun y1 =>
     ac (y1) (
      ac (within (IntKind.wrap IntKind.i64 (IntKind.wrap IntKind.i64 (IntKind.wrap IntKind.i64 (IntKind.wrap IntKind.i64 (IntKind.wrap IntKind.i64 (Int.tdiv x0 x1)-x6)*x7)+Int.tmod x0 x1)-x5)) (List.length x3)) (
       Option.bind (x3[Int.toNat (IntKind.wrap IntKind.i64 (IntKind.wrap IntKind.i64 (IntKind.wrap IntKind.i64 (IntKind.wrap IntKind.i64 (IntKind.wrap IntKind.i64 (Int.tdiv x0 x1)-x6)*x7)+Int.tmod x0 x1)-x5))]?) fun y2 =>
       ac (decide ((List.length x4+List.length [y2])*(8:Nat)≤(140737488355328:Nat)∧List.length x4+List.length [y2]≤(140737488355328:Nat))) (
        Option.bind (f (IntKind.wrap IntKind.i64 (x0+(1:Int)),x1,x2,x3,x4++[y2],x5,x6,x7,x8)) fun r=>some r) (
        none )) (
       none )) (
      ac (decide ((List.length x4+List.length [y0])*(8:Nat)≤(140737488355328:Nat)∧List.length x4+List.length [y0]≤(140737488355328:Nat))) (
       Option.bind (f (IntKind.wrap IntKind.i64 (x0+(1:Int)),x1,x2,x3,x4++[y0],x5,x6,x7,x8)) fun r=>some r) (
       none ))) (
     none )))) (
  some (x4))
noncomputable def mT (N:Nat):Nat→Ip→Option Ia
 | 0,_=>none
 | k+1,x=>wt N (mT N k) x
noncomputable def F89 (N:Nat):(Int×(List Int)×Int×Int×Int×Int×(List Int))→Option ((List Int))
 | (x0,x1,x2,x3,x4,x5,x6) =>
 Option.bind (mT N N ((0:Int),x0,x1,x6,[],x2,x3,x4,x5)) fun y0 =>
 some (y0)
@[reducible] def s218:SP:=⟨[.int .i64,.int .i64,.int .i64],[]⟩
noncomputable def ZK (N:Nat):List (Nat×(Pk→Tr Pk)):=[]
theorem NO (N:Nat):ai Tryz.prog (ZK N):=trivial
@[reducible] def w218:List SP:=[⟨[.int .i64],[]⟩]
noncomputable def IJ (N:Nat):(Int×Int×Int)→Option (Int)
 | (x0,x1,x2) =>
 ac (decide (x2<(0:Int))) (
  none ) (
  ac (decide (x1=(0:Int))) (
   none ) (
   some (IntKind.wrap IntKind.i64 (Int.tdiv (IntKind.wrap IntKind.i64 (IntKind.wrap IntKind.i64 (IntKind.wrap IntKind.i64 (↑(BitVec.toNat (BitVec.ofInt (64:Nat) (Int.fdiv x0 ((2:Int)^min (Int.toNat x2) (64:Nat))) &&& BitVec.ofInt (64:Nat) x1)):Int)*(255:Int))+IntKind.wrap IntKind.i64 (Int.tdiv x1 (2:Int)))) x1))))
noncomputable def aE6 (N:Nat):Pk→Tr Pk:=ah s218 w218 (IJ N)
theorem Wj (N:Nat):aA Tryz.prog (218) (aE6 N) :=
 (af ag ap (NO N) Tryz.func218 s218 w218 [] (cuts:=[]) trivial (fun _=>by kernel_rfl) (by decide +kernel) (IJ N) (fun x=>by kernel_rfl))
@[reducible] def s151:SP:=⟨[.agg [.int .i64,.int .i64,.bool,.bool,.int .i64,.int .i64,.int .i64,.int .i64,.int .i64,.int .i64],.int .i64],[]⟩
noncomputable def Z9 (N:Nat):List (Nat×(Pk→Tr Pk)):=[(218,aE6 N)]
theorem N3 (N:Nat):ai Tryz.prog (Z9 N):=⟨Wj N,trivial⟩
@[reducible] def w151:List SP:=[⟨[.int .i64],[]⟩]
noncomputable def Tl (N:Nat):(Int×Int×Bool×Bool×Int×Int×Int×Int×Int×Int×Int)→Option (Int)
 | (x0,x1,x2,x3,x4,x5,x6,x7,x8,x9,x10) =>
 Option.bind (IJ N (x10,x4,x7)) fun y0 =>
 Option.bind (IJ N (x10,x5,x8)) fun y1 =>
 Option.bind (IJ N (x10,x6,x9)) fun y2 =>
 some (IntKind.wrap IntKind.i64 (IntKind.wrap IntKind.i64 (IntKind.wrap IntKind.i64 (y0*(65536:Int))+IntKind.wrap IntKind.i64 (y1*(256:Int)))+y2))
noncomputable def aG4 (N:Nat):Pk→Tr Pk:=ah s151 w151 (Tl N)
theorem WC (N:Nat):aA Tryz.prog (151) (aG4 N) :=
 (af ag ap (N3 N) Tryz.func151 s151 w151 [] (cuts:=[]) trivial (fun _=>by kernel_rfl) (by decide +kernel) (Tl N) (fun x=>by kernel_rfl))
@[reducible] def s90:SP:=⟨[.agg [.int .i64,.int .i64,.bool,.bool,.int .i64,.int .i64,.int .i64,.int .i64,.int .i64,.int .i64],.ro (.int .i64)],[]⟩
noncomputable def as4 (N:Nat):List (Nat×(Pk→Tr Pk)):=[(151,aG4 N)]
theorem Dp (N:Nat):ai Tryz.prog (as4 N):=⟨WC N,trivial⟩
@[reducible] def Sk:LD:=⟨58,[5,6,2,1],[(.ret,[4]),(.exit 0,[5])],⟨[.sl 0,.int .i64,.adr 1 [],.ro (.int .i64)],[.row (.int .i64) 3,.var 43 (.agg [.int .i64,.int .i64,.bool,.bool,.int .i64,.int .i64,.int .i64,.int .i64,.int .i64,.int .i64])]⟩,[(.exit 0,⟨[.sl 0],[.row (.int .i64) 3]⟩)]⟩
abbrev Io:Type:=Int×(List Int)×(List Int)×Int×Int×Bool×Bool×Int×Int×Int×Int×Int×Int
abbrev H9:Type:=(List Int)
noncomputable def qF (N:Nat) (f:Io→Option H9):Io→Option H9
 | (x0,x1,x2,x3,x4,x5,x6,x7,x8,x9,x10,x11,x12) =>
 ac (decide (x0<(↑(List.length x1):Int))) (
  ac (within x0 (List.length x1)) (
   Option.bind (x1[Int.toNat x0]?) fun y0 =>
   Option.bind (Tl N (x3,x4,x5,x6,x7,x8,x9,x10,x11,x12,y0)) fun y1 =>
   ac (decide ((List.length x2+List.length [y1])*(8:Nat)≤(140737488355328:Nat)∧List.length x2+List.length [y1]≤(140737488355328:Nat))) (
    Option.bind (f (IntKind.wrap IntKind.i64 (x0+(1:Int)),x1,x2++[y1],x3,x4,x5,x6,x7,x8,x9,x10,x11,x12)) fun r=>some r) (
    none )) (
   none )) (
  some (x2))
noncomputable def iX (N:Nat):Nat→Io→Option H9
 | 0,_=>none
 | k+1,x=>qF N (iX N k) x
noncomputable def Tz (N:Nat) (k:Nat):Cut:=Sk.cut (iX N k)
theorem Pr (N:Nat) (k:Nat):al Tryz.prog false Tryz.f90 [] 58 (Tz N k) :=
 Sk.loopT ag ap (Dp N) Tryz.f90 [] (cuts:=[]) trivial (by decide +kernel) (by kernel_rfl) (qF N) (iX N) (fun _=>rfl) (fun _ _=>rfl) (fun f x=>by kernel_rfl) k
@[reducible] def w90:List SP:=[⟨[.sl 0],[.row (.int .i64) 3]⟩]
noncomputable def F90 (N:Nat):(Int×Int×Bool×Bool×Int×Int×Int×Int×Int×Int×(List Int))→Option ((List Int))
 | (x0,x1,x2,x3,x4,x5,x6,x7,x8,x9,x10) =>
 Option.bind (iX N N ((0:Int),x10,[],x0,x1,x2,x3,x4,x5,x6,x7,x8,x9)) fun y0 =>
 some (y0)
noncomputable def T90 (N:Nat):Pk→Tr Pk:=ah s90 w90 (F90 N)
theorem ag2 (N:Nat):aA Tryz.prog (90) (T90 N) :=
 (af ag ap (Dp N) Tryz.func90 s90 w90 [] (cuts:=[(58,Tz N N)]) ⟨Pr N N,trivial⟩ (fun _=>by kernel_rfl) (by decide +kernel) (F90 N) (fun x=>by kernel_rfl))
abbrev vv:Type:=ByteArray×Int×Int×Int×Int×Bool×Bool×Int×Int×Int×Int×Int×Int×Int×Int×Bool×Bool×Int×Int×Int×Int×Int×Int×Int×(List (Int×(Int×(Int×(Int×Unit)))))×(List Int)×ByteArray×Int×Int
abbrev uI:Type:=((Int×(List Int))⊕(ByteArray×Int×Int×Bool×Bool×Int×Int×Int×Int×Int×Int×Int×(List Int)×Int×Int×Bool×Bool×Int×Int×Int×Int×Int×Int×ByteArray×Int×Int))
noncomputable def iq (N:Nat) (f:vv→Option uI):vv→Option uI
 | (x0,x1,x2,x3,x4,x5,x6,x7,x8,x9,x10,x11,x12,x13,x14,x15,x16,x17,x18,x19,x20,x21,x22,x23,x24,x25,x26,x27,x28) =>
 ac (decide (x2<(↑(List.length x24):Int))) (
  ac (within x2 (List.length x24)) (
   Option.bind (x24[Int.toNat x2]?) fun y0 =>
   ac (within x2 (List.length x24)) (
    Option.bind (x24[Int.toNat x2]?) fun y1 =>
    Option.bind (F88 N (y0.2.2.1,y1.2.2.2.1,x13,x14,x15,x16,x17,x18,x19,x20,x21,x22,x23,x26,x27,x28)) fun(y2_0,y2_1,y2_2,y2_3,y2_4,y2_5,y2_6,y2_7,y2_8,y2_9,y2_10,y2_11,y2_12,y2_13,y2_14,y2_15) =>
    ac (!y2_0) (
     some (.inl (((180:Int),[])))) (
     ac (y2_14 != (0:Int)) (
      some (.inl (((180:Int),[])))) (
      ac (within x2 (List.length x24)) (
       Option.bind (x24[Int.toNat x2]?) fun y3 =>
       Option.bind (F89 N (x1,x25,y3.1,y3.2.1,y3.2.2.1,y3.2.2.2.1,y2_15)) fun y4 =>
       Option.bind (f (x0,x1,IntKind.wrap IntKind.i64 (x2+(1:Int)),x3,x4,x5,x6,x7,x8,x9,x10,x11,x12,y2_1,y2_2,y2_3,y2_4,y2_5,y2_6,y2_7,y2_8,y2_9,y2_10,y2_11,x24,y4,y2_12,y2_13,y2_14)) fun r=>match r with|.inl y=>some (.inl y)|.inr y=>some (.inr y)) (
       none )))) (
    none )) (
   none )) (
  some (.inr ((x0,x13,x14,x15,x16,x17,x18,x19,x20,x21,x22,x23,x25,x3,x4,x5,x6,x7,x8,x9,x10,x11,x12,x26,x27,x28))))
noncomputable def co (N:Nat):Nat→vv→Option uI
 | 0,_=>none
 | k+1,x=>iq N (co N k) x
noncomputable def F30 (N:Nat):(Int×Int×Bool×Bool×Int×Int×Int×Int×Int×Int×Int×Int×ByteArray)→Option (Int×(List Int))
 | (x0,x1,x2,x3,x4,x5,x6,x7,x8,x9,x10,x11,x12) =>
 Option.bind (F27 N (x0,x1,x2,x3,x4,x5,x6,x7,x8,x9,x10,x11)) fun y0 =>
 ac (!y0) (
  some (((1:Int),[]))) (
  Option.bind (TQ N (x0,x1,x2,x3,x4,x5,x6,x7,x8,x9)) fun y1 =>
  Option.bind (F38 N (x10,x11,(64:Int))) fun y2 =>
  ac (decide ((0:Int)≤IntKind.wrap IntKind.i64 (x10*x11)∧IntKind.wrap IntKind.i64 (x10*x11)≤IntKind.wrap IntKind.i64 (x10*x11)∧IntKind.wrap IntKind.i64 (x10*x11)*(8:Int)≤(140737488355328:Int)∧IntKind.wrap IntKind.i64 (x10*x11)≤(140737488355328:Int))) (
   Option.bind (co N N (x12,x10,(0:Int),x0,x1,x2,x3,x4,x5,x6,x7,x8,x9,x0,x1,x2,x3,x4,x5,x6,x7,x8,x9,y1.1,y2,List.replicate (Int.toNat (IntKind.wrap IntKind.i64 (x10*x11))) (0:Int),x12,(0:Int),(0:Int))) fun y3 =>
   match y3 with
   | .inl y4 =>
    some ((y4.1,y4.2))
   | .inr (y4_0,y4_1,y4_2,y4_3,y4_4,y4_5,y4_6,y4_7,y4_8,y4_9,y4_10,y4_11,y4_12,y4_13,y4_14,y4_15,y4_16,y4_17,y4_18,y4_19,y4_20,y4_21,y4_22,y4_23,y4_24,y4_25) =>
    ac (decide (y4_24<(↑(ByteArray.size y4_0):Int))) (
     some (((3:Int),[]))) (
     Option.bind (F90 N (y4_13,y4_14,y4_15,y4_16,y4_17,y4_18,y4_19,y4_20,y4_21,y4_22,y4_12)) fun y5 =>
     some (((0:Int),y5)))) (
   none ))
@[reducible] def s225:SP:=⟨[.int .i64,.int .i64,.int .i64],[]⟩
noncomputable def ZD (N:Nat):List (Nat×(Pk→Tr Pk)):=[]
theorem NJ (N:Nat):ai Tryz.prog (ZD N):=trivial
@[reducible] def w225:List SP:=[⟨[.int .i64],[]⟩]
noncomputable def IG (N:Nat):(Int×Int×Int)→Option (Int)
 | (x0,x1,x2) =>
 ac (decide (x2<(0:Int))) (
  none ) (
  some (IntKind.wrap IntKind.i64 (IntKind.wrap IntKind.i64 (Int.tdiv (IntKind.wrap IntKind.i64 (IntKind.wrap IntKind.i64 (x0*x1)+(127:Int))) (255:Int))*(2:Int)^min (Int.toNat x2) (64:Nat))))
noncomputable def aE2 (N:Nat):Pk→Tr Pk:=ah s225 w225 (IG N)
theorem Wc (N:Nat):aA Tryz.prog (225) (aE2 N) :=
 (af ag ap (NJ N) Tryz.func225 s225 w225 [] (cuts:=[]) trivial (fun _=>by kernel_rfl) (by decide +kernel) (IG N) (fun x=>by kernel_rfl))
@[reducible] def s160:SP:=⟨[.agg [.int .i64,.int .i64,.bool,.bool,.int .i64,.int .i64,.int .i64,.int .i64,.int .i64,.int .i64],.int .i64],[]⟩
noncomputable def Z0 (N:Nat):List (Nat×(Pk→Tr Pk)):=[(225,aE2 N)]
theorem NZ (N:Nat):ai Tryz.prog (Z0 N):=⟨Wc N,trivial⟩
@[reducible] def w160:List SP:=[⟨[.int .i64],[]⟩]
noncomputable def Tg (N:Nat):(Int×Int×Bool×Bool×Int×Int×Int×Int×Int×Int×Int)→Option (Int)
 | (x0,x1,x2,x3,x4,x5,x6,x7,x8,x9,x10) =>
 Option.bind (IG N (IntKind.wrap IntKind.i64 (↑(BitVec.toNat (BitVec.ofInt (64:Nat) (Int.fdiv x10 (65536:Int)) &&& BitVec.ofInt (64:Nat) (255:Int))):Int),x4,x7)) fun y0 =>
 Option.bind (IG N (IntKind.wrap IntKind.i64 (↑(BitVec.toNat (BitVec.ofInt (64:Nat) (Int.fdiv x10 (256:Int)) &&& BitVec.ofInt (64:Nat) (255:Int))):Int),x5,x8)) fun y1 =>
 Option.bind (IG N (IntKind.wrap IntKind.i64 (↑(BitVec.toNat (BitVec.ofInt (64:Nat) x10 &&& BitVec.ofInt (64:Nat) (255:Int))):Int),x6,x9)) fun y2 =>
 some (IntKind.wrap IntKind.i64 (IntKind.wrap IntKind.i64 (y0+y1)+y2))
noncomputable def aF8 (N:Nat):Pk→Tr Pk:=ah s160 w160 (Tg N)
theorem Wv (N:Nat):aA Tryz.prog (160) (aF8 N) :=
 (af ag ap (NZ N) Tryz.func160 s160 w160 [] (cuts:=[]) trivial (fun _=>by kernel_rfl) (by decide +kernel) (Tg N) (fun x=>by kernel_rfl))
@[reducible] def s94:SP:=⟨[.agg [.int .i64,.int .i64,.bool,.bool,.int .i64,.int .i64,.int .i64,.int .i64,.int .i64,.int .i64],.ro (.int .i64)],[]⟩
noncomputable def as0 (N:Nat):List (Nat×(Pk→Tr Pk)):=[(160,aF8 N)]
theorem Dm (N:Nat):ai Tryz.prog (as0 N):=⟨Wv N,trivial⟩
@[reducible] def Sg:LD:=⟨58,[5,6,2,1],[(.ret,[4]),(.exit 0,[5])],⟨[.sl 0,.int .i64,.adr 1 [],.ro (.int .i64)],[.row (.int .i64) 3,.var 43 (.agg [.int .i64,.int .i64,.bool,.bool,.int .i64,.int .i64,.int .i64,.int .i64,.int .i64,.int .i64])]⟩,[(.exit 0,⟨[.sl 0],[.row (.int .i64) 3]⟩)]⟩
abbrev Il:Type:=Int×(List Int)×(List Int)×Int×Int×Bool×Bool×Int×Int×Int×Int×Int×Int
abbrev H7:Type:=(List Int)
noncomputable def qD (N:Nat) (f:Il→Option H7):Il→Option H7
 | (x0,x1,x2,x3,x4,x5,x6,x7,x8,x9,x10,x11,x12) =>
 ac (decide (x0<(↑(List.length x1):Int))) (
  ac (within x0 (List.length x1)) (
   Option.bind (x1[Int.toNat x0]?) fun y0 =>
   Option.bind (Tg N (x3,x4,x5,x6,x7,x8,x9,x10,x11,x12,y0)) fun y1 =>
   ac (decide ((List.length x2+List.length [y1])*(8:Nat)≤(140737488355328:Nat)∧List.length x2+List.length [y1]≤(140737488355328:Nat))) (
    Option.bind (f (IntKind.wrap IntKind.i64 (x0+(1:Int)),x1,x2++[y1],x3,x4,x5,x6,x7,x8,x9,x10,x11,x12)) fun r=>some r) (
    none )) (
   none )) (
  some (x2))
noncomputable def iV (N:Nat):Nat→Il→Option H7
 | 0,_=>none
 | k+1,x=>qD N (iV N k) x
noncomputable def Tw (N:Nat) (k:Nat):Cut:=Sg.cut (iV N k)
theorem Pp (N:Nat) (k:Nat):al Tryz.prog false Tryz.f94 [] 58 (Tw N k) :=
 Sg.loopT ag ap (Dm N) Tryz.f94 [] (cuts:=[]) trivial (by decide +kernel) (by kernel_rfl) (qD N) (iV N) (fun _=>rfl) (fun _ _=>rfl) (fun f x=>by kernel_rfl) k
@[reducible] def w94:List SP:=[⟨[.sl 0],[.row (.int .i64) 3]⟩]
noncomputable def F94 (N:Nat):(Int×Int×Bool×Bool×Int×Int×Int×Int×Int×Int×(List Int))→Option ((List Int))
 | (x0,x1,x2,x3,x4,x5,x6,x7,x8,x9,x10) =>
 Option.bind (iV N N ((0:Int),x10,[],x0,x1,x2,x3,x4,x5,x6,x7,x8,x9)) fun y0 =>
 some (y0)
noncomputable def T94 (N:Nat):Pk→Tr Pk:=ah s94 w94 (F94 N)
theorem af8 (N:Nat):aA Tryz.prog (94) (T94 N) :=
 (af ag ap (Dm N) Tryz.func94 s94 w94 [] (cuts:=[(58,Tw N N)]) ⟨Pp N N,trivial⟩ (fun _=>by kernel_rfl) (by decide +kernel) (F94 N) (fun x=>by kernel_rfl))
@[reducible] def s36:SP:=⟨[.agg [.int .i64,.int .i64,.bool,.bool,.int .i64,.int .i64,.int .i64,.int .i64,.int .i64,.int .i64],.ro (.int .i64)],[]⟩
noncomputable def au3 (N:Nat):List (Nat×(Pk→Tr Pk)):=[(94,T94 N),(90,T90 N)]
theorem Qr (N:Nat):ai Tryz.prog (au3 N):=⟨af8 N,ag2 N,trivial⟩
@[reducible] def w36:List SP:=[⟨[.sl 0],[.row (.int .i64) 3]⟩]
noncomputable def F36 (N:Nat):(Int×Int×Bool×Bool×Int×Int×Int×Int×Int×Int×(List Int))→Option ((List Int))
 | (x0,x1,x2,x3,x4,x5,x6,x7,x8,x9,x10) =>
 Option.bind (F94 N (x0,x1,x2,x3,x4,x5,x6,x7,x8,x9,x10)) fun y0 =>
 Option.bind (F90 N (x0,x1,x2,x3,x4,x5,x6,x7,x8,x9,y0)) fun y1 =>
 some (y1)
noncomputable def T36 (N:Nat):Pk→Tr Pk:=ah s36 w36 (F36 N)
theorem ah8 (N:Nat):aA Tryz.prog (36) (T36 N) :=
 (af ag ap (Qr N) Tryz.func36 s36 w36 [] (cuts:=[]) trivial (fun _=>by kernel_rfl) (by decide +kernel) (F36 N) (fun x=>by kernel_rfl))
@[reducible] def s11:SP:=⟨[.agg [.int .i64,.int .i64,.bool,.bool,.int .i64,.int .i64,.int .i64,.int .i64,.int .i64,.int .i64],.int .i64,.int .i64,.ro (.int .i64),.ro (.int .i64)],[]⟩
noncomputable def av0 (N:Nat):List (Nat×(Pk→Tr Pk)):=[(26,T26 N),(39,XU N),(34,T34 N),(29,T29 N),(36,T36 N),(31,T31 N)]
theorem Dv (N:Nat):ai Tryz.prog (av0 N):=⟨aj5 N,mC N,RX N,H3 N,ah8 N,RZ N,trivial⟩
@[reducible] def Sv:LD:=⟨31,[3,4,1,2,5,11],[(.ret,[10]),(.normal,[10])],⟨[.ro (.int .i64),.ro (.int .i64),.int .i64,.int .i64,.adr 0 [],.bool],[.var 43 (.agg [.int .i64,.int .i64,.bool,.bool,.int .i64,.int .i64,.int .i64,.int .i64,.int .i64,.int .i64])]⟩,[(.ret,⟨[.bool],[]⟩)]⟩
noncomputable def v7 (N:Nat):((List Int)×(List Int)×Int×Int×Bool×Int×Int×Bool×Bool×Int×Int×Int×Int×Int×Int)→Option (Bool)
 | (x0,x1,x2,x3,x4,x5,x6,x7,x8,x9,x10,x11,x12,x13,x14) =>
 ac (decide (((0:Nat)+List.length x0)*(8:Nat)≤(140737488355328:Nat)∧(0:Nat)+List.length x0≤(140737488355328:Nat))) (
  ac (decide ((List.length x0+List.length x1)*(8:Nat)≤(140737488355328:Nat)∧List.length x0+List.length x1≤(140737488355328:Nat))) (
   Option.bind (X6 N (x5,x6,x7,x8,x9,x10,x11,x12,x13,x14,x2,(64:Int),x0)) fun y0 =>
   Option.bind (X6 N (x5,x6,x7,x8,x9,x10,x11,x12,x13,x14,x2,x3,x1)) fun y1 =>
   ac (decide ((↑(ByteArray.size y0.1+ByteArray.size y1.1):Int)>(9223372036854775807:Int))) (
    none ) (
    Option.bind (Xh N (x5,x6,x7,x8,x9,x10,x11,x12,x13,x14,x2,IntKind.wrap IntKind.i64 ((64:Int)+x3),y0.1++y1.1)) fun y2 =>
    Option.bind (F36 N (x5,x6,x7,x8,x9,x10,x11,x12,x13,x14,x0++x1)) fun y3 =>
    Option.bind (SX N (y2.2,y3)) fun y4 =>
    ac (x4) (
     ac (y0.2==(0:Int)) (
      ac (y1.2==(0:Int)) (
       ac (y2.1==(0:Int)) (
        some (y4)) (
        some (false))) (
       some (false))) (
      some (false))) (
     some (false)))) (
   none )) (
  none )
noncomputable def TK (N:Nat) (_:Nat):Cut:=Sv.cut (v7 N)
theorem PC (N:Nat) (k:Nat):al Tryz.prog false Tryz.f11 [] 31 (TK N k) :=
 Sv.pieceT ag ap (Dv N) Tryz.f11 [] (cuts:=[]) trivial (by decide +kernel) (by kernel_rfl) (v7 N) (fun x=>by kernel_rfl)
@[reducible] def w11:List SP:=[⟨[.bool],[]⟩]
noncomputable def F11 (N:Nat):(Int×Int×Bool×Bool×Int×Int×Int×Int×Int×Int×Int×Int×(List Int)×(List Int))→Option (Bool)
 | (x0,x1,x2,x3,x4,x5,x6,x7,x8,x9,x10,x11,x12,x13) =>
 Option.bind (F26 N ()) fun y0 =>
 ac (!y0) (
  some (false)) (
  Option.bind (SF N (x0,x1,x2,x3,x4,x5,x6,x7,x8,x9)) fun y1 =>
  ac (!y1) (
   some (y0)) (
   ac (decide (x10<(1:Int))) (
    some (y0)) (
    ac (decide (x10>(20:Int))) (
     some (y0)) (
     ac (decide (x11<(1:Int))) (
      some (y0)) (
      ac (decide (x11>(20:Int))) (
       some (y0)) (
       ac ((↑(List.length x12):Int) != IntKind.wrap IntKind.i64 ((64:Int)*x10)) (
        some (y0)) (
        ac ((↑(List.length x13):Int) != IntKind.wrap IntKind.i64 (x10*x11)) (
         some (y0)) (
         Option.bind (v7 N (x12,x13,x10,x11,y0,x0,x1,x2,x3,x4,x5,x6,x7,x8,x9)) fun y2 =>
         some (y2)))))))))
noncomputable def T11 (N:Nat):Pk→Tr Pk:=ah s11 w11 (F11 N)
theorem ak4 (N:Nat):aA Tryz.prog (11) (T11 N) :=
 (af ag ap (Dv N) Tryz.func11 s11 w11 [] (cuts:=[(31,TK N N)]) ⟨PC N N,trivial⟩ (fun _=>by kernel_rfl) (by decide +kernel) (F11 N) (fun x=>by kernel_rfl))
end Go.Proofs.YtfcamlibbfnldaaGreat.Am
