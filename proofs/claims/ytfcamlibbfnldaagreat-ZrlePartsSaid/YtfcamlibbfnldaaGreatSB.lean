/- The seat's Go functions come to the Lean functions written here, wherever these give an answer (part B). -/
import Derived.Test.YtfcamlibbfnldaaGreatSA
set_option linter.unusedSimpArgs false
set_option linter.unusedVariables false
set_option linter.unusedSectionVars false
set_option maxRecDepth 100000
namespace Go.Proofs.YtfcamlibbfnldaaGreat.Am
open Go.Am
@[reducible] def s158:SP:=⟨[.agg [.agg [.int .i64,.int .i64,.bool,.bool,.int .i64,.int .i64,.int .i64,.int .i64,.int .i64,.int .i64]],.ro (.int .i64),.int .i64,.adr 0 []],[.var 200 (.agg [.sl 1,.mp 2]),.row (.int .i64) 3,.map (.int .i64) (.int .i64)]⟩
noncomputable def Z2 (N:Nat):List (Nat×(Pk→Tr Pk)):=[(211,ak0 N),(153,WA N),(222,Wg N),(223,We N),(154,OT N),(155,Sc N),(193,ak2 N),(224,aE3 N)]
theorem o7 (N:Nat):ai Tryz.prog (Z2 N):=⟨KE N,A7 N,A6 N,A5 N,nT N,rV N,KG N,Wd N,trivial⟩
@[reducible] def vS:LD:=⟨32034,[36,35,2,1,9,4,12,34,3,10,11],[(.ret,[8]),(.exit 2,[12,4,9,1,2,3,10,11]),(.exit 1,[12,4,9,1,2,3,10,11]),(.exit 0,[9,4,3,11])],⟨[.int .i64,.int .i64,.int .i64,.ro (.int .i64),.int .i64,.adr 1 [],.int .i64,.ro (.int .i64),.adr 0 [],.int .i64,.adr 2 []],[.var 200 (.agg [.sl 3,.mp 4]),.var 140 (.agg [.agg [.int .i64,.int .i64,.bool,.bool,.int .i64,.int .i64,.int .i64,.int .i64,.int .i64,.int .i64]]),.var 221 (.agg [.sl 5,.int .i64,.int .i64]),.row (.int .i64) 3,.map (.int .i64) (.int .i64),.row (.int .u8) 5]⟩,[(.exit 2,⟨[.int .i64,.adr 1 [],.int .i64,.ro (.int .i64),.int .i64,.adr 0 [],.int .i64,.adr 2 []],[.var 200 (.agg [.sl 3,.mp 4]),.var 140 (.agg [.agg [.int .i64,.int .i64,.bool,.bool,.int .i64,.int .i64,.int .i64,.int .i64,.int .i64,.int .i64]]),.var 221 (.agg [.sl 5,.int .i64,.int .i64]),.row (.int .i64) 3,.map (.int .i64) (.int .i64),.row (.int .u8) 5]⟩)]⟩
abbrev mQ:Type:=Int×Int×Int×(List Int)×Int×Int×(List Int)×Int×Int×Int×Bool×Bool×Int×Int×Int×Int×Int×Int×Int×Int×(List Int)×(List (Int×Int))×(List Int)
abbrev mI:Type:=Int×Int×(List Int)×Int×Int×Int×Int×Bool×Bool×Int×Int×Int×Int×Int×Int×Int×Int×(List Int)×(List (Int×Int))×(List Int)
noncomputable def dS (N:Nat) (f:mQ→Option mI):mQ→Option mI
 | (x0,x1,x2,x3,x4,x5,x6,x7,x8,x9,x10,x11,x12,x13,x14,x15,x16,x17,x18,x19,x20,x21,x22) =>
 ac (decide (x0<x1)) (
  ac (within x0 (List.length x6)) (
   Option.bind (x6[Int.toNat x0]?) fun y0 =>
   Option.bind (IP N (y0,x20,x21)) fun y1 =>
   Option.bind (wR N (y1.1,x7,x18,x19,x22)) fun y2 =>
   Option.bind (f (IntKind.wrap IntKind.i64 (x0+(1:Int)),x1,x2,x3,x4,x5,x6,x7,x8,x9,x10,x11,x12,x13,x14,x15,x16,x17,y2.1,y2.2.1,y1.2.1,y1.2.2,y2.2.2)) fun r=>some r) (
   none )) (
  some ((x5,x4,x3,x2,x7,x8,x9,x10,x11,x12,x13,x14,x15,x16,x17,x18,x19,x20,x21,x22)))
noncomputable def bE (N:Nat):Nat→mQ→Option mI
 | 0,_=>none
 | k+1,x=>dS N (bE N k) x
noncomputable def nc (N:Nat) (k:Nat):Cut:=vS.cut (bE N k)
theorem ma (N:Nat) (k:Nat):al Tryz.prog false Tryz.f158 [0] 32034 (nc N k) :=
 vS.loopT ag ap (o7 N) Tryz.f158 [0] (cuts:=[]) trivial (by decide +kernel) (by kernel_rfl) (dS N) (bE N) (fun _=>rfl) (fun _ _=>rfl) (fun f x=>by kernel_rfl) k
@[reducible] def E3:LD:=⟨250,[4,9,1,2,12,3,10,11],[(.ret,[8]),(.exit 0,[9,4,3,11])],⟨[.adr 1 [],.int .i64,.ro (.int .i64),.int .i64,.int .i64,.adr 0 [],.int .i64,.adr 2 []],[.var 200 (.agg [.sl 3,.mp 4]),.var 140 (.agg [.agg [.int .i64,.int .i64,.bool,.bool,.int .i64,.int .i64,.int .i64,.int .i64,.int .i64,.int .i64]]),.var 221 (.agg [.sl 5,.int .i64,.int .i64]),.row (.int .i64) 3,.map (.int .i64) (.int .i64),.row (.int .u8) 5]⟩,[(.exit 0,⟨[.int .i64,.adr 1 [],.adr 0 [],.adr 2 []],[.var 200 (.agg [.sl 3,.mp 4]),.var 140 (.agg [.agg [.int .i64,.int .i64,.bool,.bool,.int .i64,.int .i64,.int .i64,.int .i64,.int .i64,.int .i64]]),.var 221 (.agg [.sl 5,.int .i64,.int .i64]),.row (.int .i64) 3,.map (.int .i64) (.int .i64),.row (.int .u8) 5]⟩)]⟩
abbrev vI:Type:=Int×(List Int)×Int×Int×Int×Int×Int×Bool×Bool×Int×Int×Int×Int×Int×Int×Int×Int×(List Int)×(List (Int×Int))×(List Int)
abbrev uT:Type:=Int×Int×Int×Bool×Bool×Int×Int×Int×Int×Int×Int×Int×Int×(List Int)×(List (Int×Int))×(List Int)
noncomputable def iw (N:Nat) (f:vI→Option uT):vI→Option uT
 | (x0,x1,x2,x3,x4,x5,x6,x7,x8,x9,x10,x11,x12,x13,x14,x15,x16,x17,x18,x19) =>
 ac (decide (x3<(↑(List.length x1):Int))) (
  ac (decide ((0:Int)≤IntKind.wrap IntKind.i64 (x3+x2)∧IntKind.wrap IntKind.i64 (x3+x2)≤(↑(List.length x1):Int))) (
   ac (decide ((0:Int)≤x3∧x3≤(↑(Int.toNat (IntKind.wrap IntKind.i64 (x3+x2))):Int))) (
    Option.bind (bE N N ((0:Int),(↑(List.length (List.take (Int.toNat (IntKind.wrap IntKind.i64 (x3+x2))-Int.toNat x3) (List.drop (Int.toNat x3) x1))):Int),x2,x1,x0,x3,List.take (Int.toNat (IntKind.wrap IntKind.i64 (x3+x2))-Int.toNat x3) (List.drop (Int.toNat x3) x1),x4,x5,x6,x7,x8,x9,x10,x11,x12,x13,x14,x15,x16,x17,x18,x19)) fun(y0_0,y0_1,y0_2,y0_3,y0_4,y0_5,y0_6,y0_7,y0_8,y0_9,y0_10,y0_11,y0_12,y0_13,y0_14,y0_15,y0_16,y0_17,y0_18,y0_19) =>
    Option.bind (CY N (y0_15,y0_16,y0_19)) fun y1 =>
    Option.bind (f (y0_1,y0_2,y0_3,IntKind.wrap IntKind.i64 (y0_0+y0_3),y0_4,y0_5,y0_6,y0_7,y0_8,y0_9,y0_10,y0_11,y0_12,y0_13,y0_14,y1.1,y1.2.1,y0_17,y0_18,y1.2.2)) fun r=>some r) (
    none )) (
   none )) (
  some ((x0,x5,x6,x7,x8,x9,x10,x11,x12,x13,x14,x15,x16,x17,x18,x19)))
noncomputable def dw (N:Nat):Nat→vI→Option uT
 | 0,_=>none
 | k+1,x=>iw N (dw N k) x
noncomputable def Gx (N:Nat) (k:Nat):Cut:=E3.cut (dw N k)
theorem Gw (N:Nat) (k:Nat):al Tryz.prog false Tryz.f158 [0] 250 (Gx N k) :=
 E3.loopT ag ap (o7 N) Tryz.f158 [0] (cuts:=[(32034,nc N N)]) ⟨ma N N,trivial⟩ (by decide +kernel) (by kernel_rfl) (iw N) (dw N) (fun _=>rfl) (fun _ _=>rfl) (fun f x=>by kernel_rfl) k
@[reducible] def w158:List SP:=[⟨[.str],[.var 200 (.agg [.sl 1,.mp 2]),.row (.int .i64) 3,.map (.int .i64) (.int .i64)]⟩]
noncomputable def Ti (N:Nat):(Int×Int×Bool×Bool×Int×Int×Int×Int×Int×Int×(List Int)×Int×(List Int)×(List (Int×Int)))→Option (ByteArray×(List Int)×(List (Int×Int)))
 | (x0,x1,x2,x3,x4,x5,x6,x7,x8,x9,x10,x11,x12,x13) =>
 Option.bind (Pf N (↑(List.length x12):Int)) fun y0 =>
 Option.bind (dw N N ((↑(List.length x12):Int),x10,x11,(0:Int),y0,x0,x1,x2,x3,x4,x5,x6,x7,x8,x9,(0:Int),(0:Int),x12,x13,[])) fun(y1_0,y1_1,y1_2,y1_3,y1_4,y1_5,y1_6,y1_7,y1_8,y1_9,y1_10,y1_11,y1_12,y1_13,y1_14,y1_15) =>
 Option.bind (mV N y1_0) fun y2 =>
 Option.bind (wT N (y1_1,y1_2,y1_3,y1_4,y1_5,y1_6,y1_7,y1_8,y1_9,y1_10,y1_13)) fun y3 =>
 ac (decide ((↑(ByteArray.size y2+ByteArray.size y3):Int)>(9223372036854775807:Int))) (
  none ) (
  Option.bind (IL N (y1_15,y1_11,y1_12,())) fun y4 =>
  Option.bind (S7 N y4) fun y5 =>
  ac (decide ((↑(ByteArray.size (y2++y3)+ByteArray.size y5):Int)>(9223372036854775807:Int))) (
   none ) (
   some ((y2++y3++y5,y1_13,y1_14))))
noncomputable def aG0 (N:Nat):Pk→Tr Pk:=ah s158 w158 (Ti N)
theorem Wx (N:Nat):aA Tryz.prog (158) (aG0 N) :=
 (af ag ap (o7 N) Tryz.func158 s158 w158 [0] (cuts:=[(32034,nc N N),(250,Gx N N)]) ⟨ma N N,Gw N N,trivial⟩ (fun _=>by kernel_rfl) (by decide +kernel) (Ti N) (fun x=>by kernel_rfl))
@[reducible] def s159:SP:=⟨[.agg [.agg [.int .i64,.int .i64,.bool,.bool,.int .i64,.int .i64,.int .i64,.int .i64,.int .i64,.int .i64]],.ro y0,.adr 0 []],[.var 200 (.agg [.sl 1,.mp 2]),.row (.int .i64) 3,.map (.int .i64) (.int .i64)]⟩
noncomputable def Z1 (N:Nat):List (Nat×(Pk→Tr Pk)):=[(154,OT N),(155,Sc N),(153,WA N),(221,aj9 N)]
theorem xH (N:Nat):ai Tryz.prog (Z1 N):=⟨nT N,rV N,A7 N,KD N,trivial⟩
@[reducible] def Lj:LD:=⟨58,[7,27,26,25,2],[(.ret,[6]),(.exit 0,[7])],⟨[.str,.int .i64,.int .i64,.ro y0,.adr 0 []],[.var 200 (.agg [.sl 1,.mp 2]),.row (.int .i64) 3,.map (.int .i64) (.int .i64)]⟩,[(.exit 0,⟨[.str],[.var 200 (.agg [.sl 1,.mp 2]),.row (.int .i64) 3,.map (.int .i64) (.int .i64)]⟩)]⟩
abbrev CE:Type:=ByteArray×Int×Int×(List (Int×(Int×Unit)))×(List Int)×(List (Int×Int))
abbrev BK:Type:=ByteArray×(List Int)×(List (Int×Int))
noncomputable def lS (N:Nat) (f:CE→Option BK):CE→Option BK
 | (x0,x1,x2,x3,x4,x5) =>
 ac (decide (x1<x2)) (
  ac (within x1 (List.length x3)) (
   Option.bind (x3[Int.toNat x1]?) fun y0 =>
   Option.bind (IP N (y0.1,x4,x5)) fun y1 =>
   ac (y0.2.1==(1:Int)) (
    Option.bind (mV N y1.1) fun y2 =>
    ac (decide ((↑(ByteArray.size x0+ByteArray.size y2):Int)>(9223372036854775807:Int))) (
     none ) (
     Option.bind (f (x0++y2,IntKind.wrap IntKind.i64 (x1+(1:Int)),x2,x3,y1.2.1,y1.2.2)) fun r=>some r)) (
    Option.bind (mV N (IntKind.wrap IntKind.i64 (↑(BitVec.toNat (BitVec.ofInt (64:Nat) (128:Int) ||| BitVec.ofInt (64:Nat) y1.1)):Int))) fun y3 =>
    Option.bind (Pd N y0.2.1) fun y4 =>
    ac (decide ((↑(ByteArray.size y3+ByteArray.size y4):Int)>(9223372036854775807:Int))) (
     none ) (
     ac (decide ((↑(ByteArray.size x0+ByteArray.size (y3++y4)):Int)>(9223372036854775807:Int))) (
      none ) (
      Option.bind (f (x0++(y3++y4),IntKind.wrap IntKind.i64 (x1+(1:Int)),x2,x3,y1.2.1,y1.2.2)) fun r=>some r)))) (
   none )) (
  some ((x0,x4,x5)))
noncomputable def eI (N:Nat):Nat→CE→Option BK
 | 0,_=>none
 | k+1,x=>lS N (eI N k) x
noncomputable def Me (N:Nat) (k:Nat):Cut:=Lj.cut (eI N k)
theorem Jl (N:Nat) (k:Nat):al Tryz.prog false Tryz.f159 [0] 58 (Me N k) :=
 Lj.loopT ag ap (xH N) Tryz.f159 [0] (cuts:=[]) trivial (by decide +kernel) (by kernel_rfl) (lS N) (eI N) (fun _=>rfl) (fun _ _=>rfl) (fun f x=>by kernel_rfl) k
@[reducible] def w159:List SP:=[⟨[.str],[.var 200 (.agg [.sl 1,.mp 2]),.row (.int .i64) 3,.map (.int .i64) (.int .i64)]⟩]
noncomputable def Ph (N:Nat):(Int×Int×Bool×Bool×Int×Int×Int×Int×Int×Int×(List (Int×(Int×Unit)))×(List Int)×(List (Int×Int)))→Option (ByteArray×(List Int)×(List (Int×Int)))
 | (x0,x1,x2,x3,x4,x5,x6,x7,x8,x9,x10,x11,x12) =>
 Option.bind (mV N (IntKind.wrap IntKind.i64 ((128:Int)+(↑(List.length x11):Int)))) fun y0 =>
 Option.bind (wT N (x0,x1,x2,x3,x4,x5,x6,x7,x8,x9,x11)) fun y1 =>
 ac (decide ((↑(ByteArray.size y0+ByteArray.size y1):Int)>(9223372036854775807:Int))) (
  none ) (
  Option.bind (eI N N (y0++y1,(0:Int),(↑(List.length x10):Int),x10,x11,x12)) fun y2 =>
  some ((y2.1,y2.2.1,y2.2.2)))
noncomputable def aF9 (N:Nat):Pk→Tr Pk:=ah s159 w159 (Ph N)
theorem Ww (N:Nat):aA Tryz.prog (159) (aF9 N) :=
 (af ag ap (xH N) Tryz.func159 s159 w159 [0] (cuts:=[(58,Me N N)]) ⟨Jl N N,trivial⟩ (fun _=>by kernel_rfl) (by decide +kernel) (Ph N) (fun x=>by kernel_rfl))
@[reducible] def s92:SP:=⟨[.agg [.agg [.int .i64,.int .i64,.bool,.bool,.int .i64,.int .i64,.int .i64,.int .i64,.int .i64,.int .i64]],.ro (.int .i64),.int .i64],[]⟩
noncomputable def as2 (N:Nat):List (Nat×(Pk→Tr Pk)):=[(153,WA N),(154,OT N),(155,Sc N),(156,aG2 N),(157,aG1 N),(158,aG0 N),(159,aF9 N)]
theorem sK (N:Nat):ai Tryz.prog (as2 N):=⟨A7 N,nT N,rV N,Wz N,Wy N,Wx N,Ww N,trivial⟩
@[reducible] def Si:LD:=⟨58,[21,20,3,1,2,19,7],[(.ret,[6]),(.exit 0,[2,1,3,7])],⟨[.int .i64,.int .i64,.adr 0 [],.ro (.int .i64),.int .i64,.ro (.int .i64),.adr 1 []],[.var 140 (.agg [.agg [.int .i64,.int .i64,.bool,.bool,.int .i64,.int .i64,.int .i64,.int .i64,.int .i64,.int .i64]]),.var 200 (.agg [.sl 2,.mp 3]),.row (.int .i64) 3,.map (.int .i64) (.int .i64)]⟩,[(.exit 0,⟨[.int .i64,.ro (.int .i64),.adr 0 [],.adr 1 []],[.var 140 (.agg [.agg [.int .i64,.int .i64,.bool,.bool,.int .i64,.int .i64,.int .i64,.int .i64,.int .i64,.int .i64]]),.var 200 (.agg [.sl 2,.mp 3]),.row (.int .i64) 3,.map (.int .i64) (.int .i64)]⟩)]⟩
abbrev Im:Type:=Int×Int×(List Int)×Int×(List Int)×Int×Int×Bool×Bool×Int×Int×Int×Int×Int×Int×(List Int)×(List (Int×Int))
abbrev H8:Type:=Int×(List Int)×Int×Int×Bool×Bool×Int×Int×Int×Int×Int×Int×(List Int)×(List (Int×Int))
noncomputable def qE (N:Nat) (f:Im→Option H8):Im→Option H8
 | (x0,x1,x2,x3,x4,x5,x6,x7,x8,x9,x10,x11,x12,x13,x14,x15,x16) =>
 ac (decide (x0<x1)) (
  ac (within x0 (List.length x4)) (
   Option.bind (x4[Int.toNat x0]?) fun y0 =>
   Option.bind (IP N (y0,x15,x16)) fun y1 =>
   Option.bind (f (IntKind.wrap IntKind.i64 (x0+(1:Int)),x1,x2,x3,x4,x5,x6,x7,x8,x9,x10,x11,x12,x13,x14,y1.2.1,y1.2.2)) fun r=>some r) (
   none )) (
  some ((x3,x2,x5,x6,x7,x8,x9,x10,x11,x12,x13,x14,x15,x16)))
noncomputable def iW (N:Nat):Nat→Im→Option H8
 | 0,_=>none
 | k+1,x=>qE N (iW N k) x
noncomputable def IS (N:Nat) (k:Nat):Cut:=Si.cut (iW N k)
theorem zp (N:Nat) (k:Nat):al Tryz.prog false Tryz.f92 [] 58 (IS N k) :=
 Si.loopT ag ap (sK N) Tryz.f92 [] (cuts:=[]) trivial (by decide +kernel) (by kernel_rfl) (qE N) (iW N) (fun _=>rfl) (fun _ _=>rfl) (fun f x=>by kernel_rfl) k
@[reducible] def yy:LD:=⟨16378,[13,79,78,77],[(.ret,[6]),(.exit 2,[13])],⟨[.str,.int .i64,.int .i64,.sl 0],[.row (.str) 9]⟩,[(.exit 2,⟨[.str],[]⟩)]⟩
abbrev p7:Type:=ByteArray×Int×Int×(List ByteArray)
abbrev pJ:Type:=ByteArray
noncomputable def eW (N:Nat) (f:p7→Option pJ):p7→Option pJ
 | (x0,x1,x2,x3) =>
 ac (decide (x1<x2)) (
  ac (within x1 (List.length x3)) (
   Option.bind (x3[Int.toNat x1]?) fun y0 =>
   ac (decide ((↑(ByteArray.size y0):Int)<(↑(ByteArray.size x0):Int))) (
    Option.bind (f (y0,IntKind.wrap IntKind.i64 (x1+(1:Int)),x2,x3)) fun r=>some r) (
    Option.bind (f (x0,IntKind.wrap IntKind.i64 (x1+(1:Int)),x2,x3)) fun r=>some r)) (
   none )) (
  some (x0))
noncomputable def bv (N:Nat):Nat→p7→Option pJ
 | 0,_=>none
 | k+1,x=>eW N (bv N k) x
noncomputable def zq (N:Nat) (k:Nat):Cut:=yy.cut (bv N k)
theorem C3 (N:Nat) (k:Nat):al Tryz.prog false Tryz.f92 [] 16378 (zq N k) :=
 yy.loopT ag ap (sK N) Tryz.f92 [] (cuts:=[(58,IS N N)]) ⟨zp N N,trivial⟩ (by decide +kernel) (by kernel_rfl) (eW N) (bv N) (fun _=>rfl) (fun _ _=>rfl) (fun f x=>by kernel_rfl) k
@[reducible] def w92:List SP:=[⟨[.str],[]⟩]
noncomputable def WQ (N:Nat):(Int×Int×Bool×Bool×Int×Int×Int×Int×Int×Int×(List Int)×Int)→Option (ByteArray)
 | (x0,x1,x2,x3,x4,x5,x6,x7,x8,x9,x10,x11) =>
 Option.bind (iW N N ((0:Int),(↑(List.length x10):Int),x10,x11,x10,x0,x1,x2,x3,x4,x5,x6,x7,x8,x9,[],[])) fun(y0_0,y0_1,y0_2,y0_3,y0_4,y0_5,y0_6,y0_7,y0_8,y0_9,y0_10,y0_11,y0_12,y0_13) =>
 ac ((↑(List.length y0_12):Int)==(1:Int)) (
  Option.bind (mV N (1:Int)) fun y1 =>
  Option.bind (wT N (y0_2,y0_3,y0_4,y0_5,y0_6,y0_7,y0_8,y0_9,y0_10,y0_11,y0_12)) fun y2 =>
  ac (decide ((↑(ByteArray.size y1+ByteArray.size y2):Int)>(9223372036854775807:Int))) (
   none ) (
   some (y1++y2))) (
  Option.bind (Tk N y0_1) fun y3 =>
  Option.bind (mV N (0:Int)) fun y4 =>
  Option.bind (wT N (y0_2,y0_3,y0_4,y0_5,y0_6,y0_7,y0_8,y0_9,y0_10,y0_11,y0_1)) fun y5 =>
  ac (decide ((↑(ByteArray.size y4+ByteArray.size y5):Int)>(9223372036854775807:Int))) (
   none ) (
   Option.bind (Tj N (y0_2,y0_3,y0_4,y0_5,y0_6,y0_7,y0_8,y0_9,y0_10,y0_11,y3)) fun y6 =>
   ac (decide ((↑(List.length y0_12):Int)≤(16:Int))) (
    Option.bind (Ti N (y0_2,y0_3,y0_4,y0_5,y0_6,y0_7,y0_8,y0_9,y0_10,y0_11,y0_1,y0_0,y0_12,y0_13)) fun y7 =>
    ac (decide ((List.length [y4++y5,y6]+List.length [y7.1])*(16:Nat)≤(140737488355328:Nat)∧List.length [y4++y5,y6]+List.length [y7.1]≤(140737488355328:Nat))) (
     ac (decide ((↑(List.length y0_12):Int)<(128:Int))) (
      Option.bind (Ph N (y0_2,y0_3,y0_4,y0_5,y0_6,y0_7,y0_8,y0_9,y0_10,y0_11,y3,y7.2.1,y7.2.2)) fun y8 =>
      ac (decide ((List.length [y4++y5,y6,y7.1]+List.length [y8.1])*(16:Nat)≤(140737488355328:Nat)∧List.length [y4++y5,y6,y7.1]+List.length [y8.1]≤(140737488355328:Nat))) (
       ac (within (0:Int) (List.length [y4++y5,y6,y7.1,y8.1])) (
        Option.bind (bv N N (y4++y5,(0:Int),(↑(List.length [y4++y5,y6,y7.1,y8.1]):Int),[y4++y5,y6,y7.1,y8.1])) fun y9 =>
        some (y9)) (
        none )) (
       none )) (
      ac (within (0:Int) (List.length [y4++y5,y6,y7.1])) (
       Option.bind (bv N N (y4++y5,(0:Int),(↑(List.length [y4++y5,y6,y7.1]):Int),[y4++y5,y6,y7.1])) fun y10 =>
       some (y10)) (
       none ))) (
     none )) (
    ac (decide ((↑(List.length y0_12):Int)<(128:Int))) (
     Option.bind (Ph N (y0_2,y0_3,y0_4,y0_5,y0_6,y0_7,y0_8,y0_9,y0_10,y0_11,y3,y0_12,y0_13)) fun y11 =>
     ac (decide ((List.length [y4++y5,y6]+List.length [y11.1])*(16:Nat)≤(140737488355328:Nat)∧List.length [y4++y5,y6]+List.length [y11.1]≤(140737488355328:Nat))) (
      ac (within (0:Int) (List.length [y4++y5,y6,y11.1])) (
       Option.bind (bv N N (y4++y5,(0:Int),(↑(List.length [y4++y5,y6,y11.1]):Int),[y4++y5,y6,y11.1])) fun y12 =>
       some (y12)) (
       none )) (
      none )) (
     ac (within (0:Int) (List.length [y4++y5,y6])) (
      Option.bind (bv N N (y4++y5,(0:Int),(↑(List.length [y4++y5,y6]):Int),[y4++y5,y6])) fun y13 =>
      some (y13)) (
      none )))))
noncomputable def T92 (N:Nat):Pk→Tr Pk:=ah s92 w92 (WQ N)
theorem ag0 (N:Nat):aA Tryz.prog (92) (T92 N) :=
 (af ag ap (sK N) Tryz.func92 s92 w92 [] (cuts:=[(58,IS N N),(16378,zq N N)]) ⟨zp N N,C3 N N,trivial⟩ (fun _=>by kernel_rfl) (by decide +kernel) (WQ N) (fun x=>by kernel_rfl))
@[reducible] def s34:SP:=⟨[.agg [.int .i64,.int .i64,.bool,.bool,.int .i64,.int .i64,.int .i64,.int .i64,.int .i64,.int .i64],.int .i64,.int .i64,.ro (.int .i64)],[]⟩
noncomputable def au5 (N:Nat):List (Nat×(Pk→Tr Pk)):=[(35,T35 N),(91,T91 N),(82,T82 N),(92,T92 N),(62,Uq s62.I (T62 N) (ag9 N))]
theorem jz (N:Nat):ai Tryz.prog (au5 N):=⟨A0 N,ag1 N,H1 N,ag0 N,mj (RR N) (Kb N),trivial⟩
@[reducible] def fu:LD:=⟨518554,[15,46,45,11,12,38,39,40,1,10,14],[(.ret,[8,9]),(.exit 2,[15,14,40,39,38,12,11,1,10]),(.exit 1,[40,39,38,12,11,1,10]),(.exit 0,[12])],⟨[.sl 0,.int .i64,.int .i64,.adr 1 [],.adr 2 [],.sl 3,.int .i64,.int .i64,.int .i64,.sl 4,.adr 5 []],[.row (.int .i64) 3,.var 140 (.agg [.agg [.int .i64,.int .i64,.bool,.bool,.int .i64,.int .i64,.int .i64,.int .i64,.int .i64,.int .i64]]),.var 95 (.agg [.nilp,.sl 6]),.row y1 126,.row (.int .i64) 3,.var 126 (.agg [.int .i64,.int .i64,.int .i64,.int .i64]),.row (.int .u8) 5]⟩,[(.exit 2,⟨[.sl 0,.adr 1 [],.int .i64,.int .i64,.sl 2,.adr 3 [],.adr 4 [],.int .i64,.sl 5],[.row (.int .i64) 3,.var 126 (.agg [.int .i64,.int .i64,.int .i64,.int .i64]),.row y1 126,.var 95 (.agg [.nilp,.sl 6]),.var 140 (.agg [.agg [.int .i64,.int .i64,.bool,.bool,.int .i64,.int .i64,.int .i64,.int .i64,.int .i64,.int .i64]]),.row (.int .i64) 3,.row (.int .u8) 5]⟩)]⟩
abbrev mN:Type:=Int×Int×Int×Int×Int×(List Int)×Int×Int×Bool×Bool×Int×Int×Int×Int×Int×Int×(List (Int×(Int×(Int×(Int×Unit)))))×(List Int)×Int×Int×Int×Int×(List Int)
abbrev mF:Type:=Int×Int×Int×(List Int)×Int×Int×Int×Int×(List (Int×(Int×(Int×(Int×Unit)))))×Int×Int×Bool×Bool×Int×Int×Int×Int×Int×Int×(List Int)×(List Int)
noncomputable def dQ (N:Nat) (f:mN→Option mF):mN→Option mF
 | (x0,x1,x2,x3,x4,x5,x6,x7,x8,x9,x10,x11,x12,x13,x14,x15,x16,x17,x18,x19,x20,x21,x22) =>
 ac (decide (x0<x1)) (
  ac (decide ((0:Int)≤IntKind.wrap IntKind.i64 (IntKind.wrap IntKind.i64 (IntKind.wrap IntKind.i64 (IntKind.wrap IntKind.i64 (x19+x0)*x4)+x18)+x20)∧IntKind.wrap IntKind.i64 (IntKind.wrap IntKind.i64 (IntKind.wrap IntKind.i64 (IntKind.wrap IntKind.i64 (x19+x0)*x4)+x18)+x20)≤(↑(List.length x17):Int))) (
   ac (decide ((0:Int)≤IntKind.wrap IntKind.i64 (IntKind.wrap IntKind.i64 (IntKind.wrap IntKind.i64 (x19+x0)*x4)+x18)∧IntKind.wrap IntKind.i64 (IntKind.wrap IntKind.i64 (IntKind.wrap IntKind.i64 (x19+x0)*x4)+x18)≤(↑(Int.toNat (IntKind.wrap IntKind.i64 (IntKind.wrap IntKind.i64 (IntKind.wrap IntKind.i64 (IntKind.wrap IntKind.i64 (x19+x0)*x4)+x18)+x20))):Int))) (
    ac (decide ((List.length x5+List.length (List.take (Int.toNat (IntKind.wrap IntKind.i64 (IntKind.wrap IntKind.i64 (IntKind.wrap IntKind.i64 (IntKind.wrap IntKind.i64 (x19+x0)*x4)+x18)+x20))-Int.toNat (IntKind.wrap IntKind.i64 (IntKind.wrap IntKind.i64 (IntKind.wrap IntKind.i64 (x19+x0)*x4)+x18))) (List.drop (Int.toNat (IntKind.wrap IntKind.i64 (IntKind.wrap IntKind.i64 (IntKind.wrap IntKind.i64 (x19+x0)*x4)+x18))) x17)))*(8:Nat)≤(140737488355328:Nat)∧List.length x5+List.length (List.take (Int.toNat (IntKind.wrap IntKind.i64 (IntKind.wrap IntKind.i64 (IntKind.wrap IntKind.i64 (IntKind.wrap IntKind.i64 (x19+x0)*x4)+x18)+x20))-Int.toNat (IntKind.wrap IntKind.i64 (IntKind.wrap IntKind.i64 (IntKind.wrap IntKind.i64 (x19+x0)*x4)+x18))) (List.drop (Int.toNat (IntKind.wrap IntKind.i64 (IntKind.wrap IntKind.i64 (IntKind.wrap IntKind.i64 (x19+x0)*x4)+x18))) x17))≤(140737488355328:Nat))) (
     Option.bind (f (IntKind.wrap IntKind.i64 (x0+(1:Int)),x1,x2,x3,x4,x5++List.take (Int.toNat (IntKind.wrap IntKind.i64 (IntKind.wrap IntKind.i64 (IntKind.wrap IntKind.i64 (IntKind.wrap IntKind.i64 (x19+x0)*x4)+x18)+x20))-Int.toNat (IntKind.wrap IntKind.i64 (IntKind.wrap IntKind.i64 (IntKind.wrap IntKind.i64 (x19+x0)*x4)+x18))) (List.drop (Int.toNat (IntKind.wrap IntKind.i64 (IntKind.wrap IntKind.i64 (IntKind.wrap IntKind.i64 (x19+x0)*x4)+x18))) x17),x6,x7,x8,x9,x10,x11,x12,x13,x14,x15,x16,x17,x18,x19,x20,x21,x22)) fun r=>some r) (
     none )) (
    none )) (
   none )) (
  some ((x3,x2,x4,x5,x18,x19,x20,x21,x16,x6,x7,x8,x9,x10,x11,x12,x13,x14,x15,x17,x22)))
noncomputable def bZ (N:Nat):Nat→mN→Option mF
 | 0,_=>none
 | k+1,x=>dQ N (bZ N k) x
noncomputable def fH (N:Nat) (k:Nat):Cut:=fu.cut (bZ N k)
theorem dX (N:Nat) (k:Nat):al Tryz.prog false Tryz.f34 [] 518554 (fH N k) :=
 fu.loopT ag ap (jz N) Tryz.f34 [] (cuts:=[]) trivial (by decide +kernel) (by kernel_rfl) (dQ N) (bZ N) (fun _=>rfl) (fun _ _=>rfl) (fun f x=>by kernel_rfl) k
@[reducible] def qZ:LD:=⟨518554,[15,46,45,11,12,38,39,40,1,10,14],[(.ret,[8,9]),(.exit 2,[15,14,40,39,38,12,11,1,10]),(.exit 1,[40,39,38,12,11,1,10]),(.exit 0,[12])],⟨[.sl 0,.int .i64,.int .i64,.adr 1 [],.adr 2 [],.sl 3,.int .i64,.int .i64,.int .i64,.sl 4,.adr 5 []],[.row (.int .i64) 3,.var 140 (.agg [.agg [.int .i64,.int .i64,.bool,.bool,.int .i64,.int .i64,.int .i64,.int .i64,.int .i64,.int .i64]]),.var 95 (.agg [.adr 2 [],.sl 6]),.row y1 126,.row (.int .i64) 3,.var 126 (.agg [.int .i64,.int .i64,.int .i64,.int .i64]),.row (.int .u8) 5]⟩,[(.exit 2,⟨[.sl 0,.adr 1 [],.int .i64,.int .i64,.sl 2,.adr 3 [],.adr 4 [],.int .i64,.sl 5],[.row (.int .i64) 3,.var 126 (.agg [.int .i64,.int .i64,.int .i64,.int .i64]),.row y1 126,.var 95 (.agg [.adr 3 [],.sl 6]),.var 140 (.agg [.agg [.int .i64,.int .i64,.bool,.bool,.int .i64,.int .i64,.int .i64,.int .i64,.int .i64,.int .i64]]),.row (.int .i64) 3,.row (.int .u8) 5]⟩)]⟩
abbrev kg:Type:=Int×Int×Int×Int×Int×(List Int)×Int×Int×Bool×Bool×Int×Int×Int×Int×Int×Int×(List (Int×(Int×(Int×(Int×Unit)))))×(List Int)×Int×Int×Int×Int×(List Int)
abbrev jZ:Type:=Int×Int×Int×(List Int)×Int×Int×Int×Int×(List (Int×(Int×(Int×(Int×Unit)))))×Int×Int×Bool×Bool×Int×Int×Int×Int×Int×Int×(List Int)×(List Int)
noncomputable def de (N:Nat) (f:kg→Option jZ):kg→Option jZ
 | (x0,x1,x2,x3,x4,x5,x6,x7,x8,x9,x10,x11,x12,x13,x14,x15,x16,x17,x18,x19,x20,x21,x22) =>
 ac (decide (x0<x1)) (
  ac (decide ((0:Int)≤IntKind.wrap IntKind.i64 (IntKind.wrap IntKind.i64 (IntKind.wrap IntKind.i64 (IntKind.wrap IntKind.i64 (x19+x0)*x4)+x18)+x20)∧IntKind.wrap IntKind.i64 (IntKind.wrap IntKind.i64 (IntKind.wrap IntKind.i64 (IntKind.wrap IntKind.i64 (x19+x0)*x4)+x18)+x20)≤(↑(List.length x17):Int))) (
   ac (decide ((0:Int)≤IntKind.wrap IntKind.i64 (IntKind.wrap IntKind.i64 (IntKind.wrap IntKind.i64 (x19+x0)*x4)+x18)∧IntKind.wrap IntKind.i64 (IntKind.wrap IntKind.i64 (IntKind.wrap IntKind.i64 (x19+x0)*x4)+x18)≤(↑(Int.toNat (IntKind.wrap IntKind.i64 (IntKind.wrap IntKind.i64 (IntKind.wrap IntKind.i64 (IntKind.wrap IntKind.i64 (x19+x0)*x4)+x18)+x20))):Int))) (
    ac (decide ((List.length x5+List.length (List.take (Int.toNat (IntKind.wrap IntKind.i64 (IntKind.wrap IntKind.i64 (IntKind.wrap IntKind.i64 (IntKind.wrap IntKind.i64 (x19+x0)*x4)+x18)+x20))-Int.toNat (IntKind.wrap IntKind.i64 (IntKind.wrap IntKind.i64 (IntKind.wrap IntKind.i64 (x19+x0)*x4)+x18))) (List.drop (Int.toNat (IntKind.wrap IntKind.i64 (IntKind.wrap IntKind.i64 (IntKind.wrap IntKind.i64 (x19+x0)*x4)+x18))) x17)))*(8:Nat)≤(140737488355328:Nat)∧List.length x5+List.length (List.take (Int.toNat (IntKind.wrap IntKind.i64 (IntKind.wrap IntKind.i64 (IntKind.wrap IntKind.i64 (IntKind.wrap IntKind.i64 (x19+x0)*x4)+x18)+x20))-Int.toNat (IntKind.wrap IntKind.i64 (IntKind.wrap IntKind.i64 (IntKind.wrap IntKind.i64 (x19+x0)*x4)+x18))) (List.drop (Int.toNat (IntKind.wrap IntKind.i64 (IntKind.wrap IntKind.i64 (IntKind.wrap IntKind.i64 (x19+x0)*x4)+x18))) x17))≤(140737488355328:Nat))) (
     Option.bind (f (IntKind.wrap IntKind.i64 (x0+(1:Int)),x1,x2,x3,x4,x5++List.take (Int.toNat (IntKind.wrap IntKind.i64 (IntKind.wrap IntKind.i64 (IntKind.wrap IntKind.i64 (IntKind.wrap IntKind.i64 (x19+x0)*x4)+x18)+x20))-Int.toNat (IntKind.wrap IntKind.i64 (IntKind.wrap IntKind.i64 (IntKind.wrap IntKind.i64 (x19+x0)*x4)+x18))) (List.drop (Int.toNat (IntKind.wrap IntKind.i64 (IntKind.wrap IntKind.i64 (IntKind.wrap IntKind.i64 (x19+x0)*x4)+x18))) x17),x6,x7,x8,x9,x10,x11,x12,x13,x14,x15,x16,x17,x18,x19,x20,x21,x22)) fun r=>some r) (
     none )) (
    none )) (
   none )) (
  some ((x3,x2,x4,x5,x18,x19,x20,x21,x16,x6,x7,x8,x9,x10,x11,x12,x13,x14,x15,x17,x22)))
noncomputable def bC (N:Nat):Nat→kg→Option jZ
 | 0,_=>none
 | k+1,x=>de N (bC N k) x
noncomputable def gh (N:Nat) (k:Nat):Cut:=qZ.cut (bC N k)
theorem fG (N:Nat) (k:Nat):al Tryz.prog false Tryz.f34 [] 518554 (gh N k) :=
 qZ.loopT ag ap (jz N) Tryz.f34 [] (cuts:=[(518554,fH N N)]) ⟨dX N N,trivial⟩ (by decide +kernel) (by kernel_rfl) (de N) (bC N) (fun _=>rfl) (fun _ _=>rfl) (fun f x=>by kernel_rfl) k
@[reducible] def fw:LD:=⟨506,[39,38,12,11,40,1,10],[(.ret,[8,9]),(.exit 0,[12])],⟨[.int .i64,.sl 0,.adr 1 [],.adr 2 [],.int .i64,.int .i64,.sl 3],[.row y1 126,.var 95 (.agg [.adr 1 [],.sl 4]),.var 140 (.agg [.agg [.int .i64,.int .i64,.bool,.bool,.int .i64,.int .i64,.int .i64,.int .i64,.int .i64,.int .i64]]),.row (.int .i64) 3,.row (.int .u8) 5]⟩,[(.exit 0,⟨[.adr 0 []],[.var 95 (.agg [.adr 0 [],.sl 1]),.row (.int .u8) 5]⟩),(.exit 0,⟨[.adr 0 []],[.var 95 (.agg [.nilp,.sl 1]),.row (.int .u8) 5]⟩)]⟩
abbrev vm:Type:=Int×Int×Int×(List (Int×(Int×(Int×(Int×Unit)))))×Int×Int×Bool×Bool×Int×Int×Int×Int×Int×Int×(List Int)×(List Int)
abbrev uC:Type:=(((List Int))⊕((List Int)))
noncomputable def fJ (N:Nat) (f:vm→Option uC):vm→Option uC
 | (x0,x1,x2,x3,x4,x5,x6,x7,x8,x9,x10,x11,x12,x13,x14,x15) =>
 ac (decide (x1<x0)) (
  ac (within x1 (List.length x3)) (
   Option.bind (x3[Int.toNat x1]?) fun y0 =>
   Option.bind (bC N N ((0:Int),y0.2.2.2.1,x0,x1,x2,[],x4,x5,x6,x7,x8,x9,x10,x11,x12,x13,x3,x14,y0.1,y0.2.1,y0.2.2.1,y0.2.2.2.1,x15)) fun(y1_0,y1_1,y1_2,y1_3,y1_4,y1_5,y1_6,y1_7,y1_8,y1_9,y1_10,y1_11,y1_12,y1_13,y1_14,y1_15,y1_16,y1_17,y1_18,y1_19,y1_20) =>
   Option.bind (WQ N (y1_9,y1_10,y1_11,y1_12,y1_13,y1_14,y1_15,y1_16,y1_17,y1_18,y1_3,y1_6)) fun y2 =>
   Option.bind (OW N (y2,y1_20)) fun y3 =>
   Option.bind (f (y1_1,IntKind.wrap IntKind.i64 (y1_0+(1:Int)),y1_2,y1_8,y1_9,y1_10,y1_11,y1_12,y1_13,y1_14,y1_15,y1_16,y1_17,y1_18,y1_19,y3.2)) fun r=>match r with|.inl y=>some (.inl y)|.inr y=>some (.inr y)) (
   none )) (
  some (.inl (x15)))
noncomputable def b7 (N:Nat):Nat→vm→Option uC
 | 0,_=>none
 | k+1,x=>fJ N (b7 N k) x
noncomputable def wm (N:Nat) (k:Nat):Cut:=fw.cut (b7 N k)
theorem rh (N:Nat) (k:Nat):al Tryz.prog false Tryz.f34 [] 506 (wm N k) :=
 fw.loopT ag ap (jz N) Tryz.f34 [] (cuts:=[(518554,Dc fu.s.I (fH N N) (gh N N))]) ⟨fun c' h=>cB (dX N N c' h) (fG N N c' h) rfl rfl,trivial⟩ (by decide +kernel) (by kernel_rfl) (fJ N) (b7 N) (fun _=>rfl) (fun _ _=>rfl) (fun f x=>by kernel_rfl) k
@[reducible] def K6:LD:=⟨506,fw.live,fw.out,⟨[.int .i64,.sl 0,.adr 1 [],.adr 2 [],.int .i64,.int .i64,.sl 3],[.row y1 126,.var 95 (.agg [.nilp,.sl 4]),.var 140 (.agg [.agg [.int .i64,.int .i64,.bool,.bool,.int .i64,.int .i64,.int .i64,.int .i64,.int .i64,.int .i64]]),.row (.int .i64) 3,.row (.int .u8) 5]⟩,fw.w⟩
noncomputable def lO (N:Nat) (f:(Int×Int×Int×(List (Int×(Int×(Int×(Int×Unit)))))×Int×Int×Bool×Bool×Int×Int×Int×Int×Int×Int×(List Int)×(List Int))→Option ((((List Int))⊕((List Int))))):(Int×Int×Int×(List (Int×(Int×(Int×(Int×Unit)))))×Int×Int×Bool×Bool×Int×Int×Int×Int×Int×Int×(List Int)×(List Int))→Option ((((List Int))⊕((List Int))))
 | (x0,x1,x2,x3,x4,x5,x6,x7,x8,x9,x10,x11,x12,x13,x14,x15) =>
 ac (decide (x1<x0)) (
  ac (within x1 (List.length x3)) (
   Option.bind (x3[Int.toNat x1]?) fun y0 =>
   Option.bind (bZ N N ((0:Int),y0.2.2.2.1,x0,x1,x2,[],x4,x5,x6,x7,x8,x9,x10,x11,x12,x13,x3,x14,y0.1,y0.2.1,y0.2.2.1,y0.2.2.2.1,x15)) fun(y1_0,y1_1,y1_2,y1_3,y1_4,y1_5,y1_6,y1_7,y1_8,y1_9,y1_10,y1_11,y1_12,y1_13,y1_14,y1_15,y1_16,y1_17,y1_18,y1_19,y1_20) =>
   Option.bind (WQ N (y1_9,y1_10,y1_11,y1_12,y1_13,y1_14,y1_15,y1_16,y1_17,y1_18,y1_3,y1_6)) fun y2 =>
   Option.bind (F62 N (y2,y1_20)) fun y3 =>
   Option.bind (f (y1_1,IntKind.wrap IntKind.i64 (y1_0+(1:Int)),y1_2,y1_8,y1_9,y1_10,y1_11,y1_12,y1_13,y1_14,y1_15,y1_16,y1_17,y1_18,y1_19,y3.2)) fun r=>match r with|.inl y=>some (.inl y)|.inr y=>some (.inr y)) (
   none )) (
  some (.inr (x15)))
noncomputable def CU (N:Nat) (k:Nat):(Int×Int×Int×(List (Int×(Int×(Int×(Int×Unit)))))×Int×Int×Bool×Bool×Int×Int×Int×Int×Int×Int×(List Int)×(List Int))→Option ((((List Int))⊕((List Int)))):=lO N (b7 N k)
noncomputable def LS (N:Nat) (k:Nat):Cut:=K6.cut (CU N k)
theorem Ja (N:Nat) (k:Nat):al Tryz.prog false Tryz.f34 [] 506 (LS N k) :=
 K6.loop2T ag ap (jz N) fw.s Tryz.f34 [] (cuts:=[(518554,Dc fu.s.I (fH N N) (gh N N)),(506,wm N N)]) ⟨fun c' h=>cB (dX N N c' h) (fG N N c' h) rfl rfl,rh N N,trivial⟩ (by decide +kernel) (by kernel_rfl) (lO N) (fJ N) (b7 N) (fun _=>rfl) (fun _ _=>rfl) (fun f g x=>by kernel_rfl) (fun f g x=>by kernel_rfl) k
@[reducible] def w34:List SP:=[⟨[.tup [.str,.int .i64]],[]⟩]
noncomputable def X6 (N:Nat):(Int×Int×Bool×Bool×Int×Int×Int×Int×Int×Int×Int×Int×(List Int))→Option (ByteArray×Int)
 | (x0,x1,x2,x3,x4,x5,x6,x7,x8,x9,x10,x11,x12) =>
 Option.bind (X5 N (x0,x1,x2,x3,x4,x5,x6,x7,x8,x9,x10,x11)) fun y0 =>
 ac (!y0) (
  some ((ByteArray.mk #[],(1:Int)))) (
  ac ((↑(List.length x12):Int) != IntKind.wrap IntKind.i64 (x10*x11)) (
   some ((ByteArray.mk #[],(1:Int)))) (
   Option.bind (F91 N (x0,x1,x2,x3,x4,x5,x6,x7,x8,x9,x12)) fun y1 =>
   Option.bind (F82 N (x10,x11,(64:Int))) fun y2 =>
   Option.bind (CU N N ((↑(List.length y2):Int),(0:Int),x10,y2,x0,x1,x2,x3,x4,x5,x6,x7,x8,x9,y1,[])) fun y3 =>
   match y3 with
   | .inl y4 =>
    ac (decide ((0:Nat)<List.length y4∧List.length y4≤(140737488355328:Nat))) (
     some ((aE y4,(0:Int)))) (
     ac (decide (List.length y4=(0:Nat))) (
      some ((ByteArray.empty,(0:Int)))) (
      none ))
   | .inr y4 =>
    ac (decide ((0:Nat)<List.length y4∧List.length y4≤(140737488355328:Nat))) (
     some ((aE y4,(0:Int)))) (
     ac (decide (List.length y4=(0:Nat))) (
      some ((ByteArray.empty,(0:Int)))) (
      none ))))
noncomputable def T34 (N:Nat):Pk→Tr Pk:=ah s34 w34 (X6 N)
theorem RX (N:Nat):aA Tryz.prog (34) (T34 N) :=
 (af ag ap (jz N) Tryz.func34 s34 w34 [] (cuts:=[(518554,Dc fu.s.I (fH N N) (gh N N)),(506,Dc fw.s.I (wm N N) (LS N N))]) ⟨fun c' h=>cB (dX N N c' h) (fG N N c' h) rfl rfl,fun c' h=>cB (rh N N c' h) (Ja N N c' h) rfl rfl,trivial⟩ (fun _=>by kernel_rfl) (by decide +kernel) (X6 N) (fun x=>by kernel_rfl))
@[reducible] def s229:SP:=⟨[.str],[]⟩
noncomputable def ZA (N:Nat):List (Nat×(Pk→Tr Pk)):=[]
theorem NG (N:Nat):ai Tryz.prog (ZA N):=trivial
@[reducible] def w229:List SP:=[⟨[.str],[]⟩]
noncomputable def IF (N:Nat):(ByteArray)→Option (ByteArray)
 | x0 =>
 ac (decide (((0:Int)≤if (0:Int)>IntKind.wrap IntKind.i64 ((↑(ByteArray.size x0):Int)-(32768:Int)) then (0:Int) else IntKind.wrap IntKind.i64 ((↑(ByteArray.size x0):Int)-(32768:Int)))∧(if (0:Int)>IntKind.wrap IntKind.i64 ((↑(ByteArray.size x0):Int)-(32768:Int)) then (0:Int) else IntKind.wrap IntKind.i64 ((↑(ByteArray.size x0):Int)-(32768:Int)))≤(↑(ByteArray.size x0):Int))) (
  some (ByteArray.extract x0 (Int.toNat (if (0:Int)>IntKind.wrap IntKind.i64 ((↑(ByteArray.size x0):Int)-(32768:Int)) then (0:Int) else IntKind.wrap IntKind.i64 ((↑(ByteArray.size x0):Int)-(32768:Int)))) (ByteArray.size x0))) (
  none )
noncomputable def OS (N:Nat):Pk→Tr Pk:=ah s229 w229 (IF N)
theorem nS (N:Nat):aA Tryz.prog (229) (OS N) :=
 (af ag ap (NG N) Tryz.func229 s229 w229 [] (cuts:=[]) trivial (fun _=>by kernel_rfl) (by decide +kernel) (IF N) (fun x=>by kernel_rfl))
@[reducible] def s286:SP:=⟨[.adr 0 [],.int .i64],[.var 318 (.agg [.str,.mp 1,.sl 2]),.map (.str) (.int .i64),.row (.int .i64) 3]⟩
noncomputable def Zl (N:Nat):List (Nat×(Pk→Tr Pk)):=[]
theorem Ny (N:Nat):ai Tryz.prog (Zl N):=trivial
@[reducible] def w286:List SP:=[⟨[.tup []],[.var 318 (.agg [.str,.mp 1,.sl 2]),.map (.str) (.int .i64),.row (.int .i64) 3]⟩]
noncomputable def Xj (N:Nat):(Int×ByteArray×(List (ByteArray×Int))×(List Int))→Option (ByteArray×(List (ByteArray×Int))×(List Int))
 | (x0,x1,x2,x3) =>
 ac (decide (IntKind.wrap IntKind.i64 (x0+(3:Int))≤(↑(ByteArray.size x1):Int))) (
  ac (decide ((0:Int)≤IntKind.wrap IntKind.i64 (x0+(3:Int))∧IntKind.wrap IntKind.i64 (x0+(3:Int))≤(↑(ByteArray.size x1):Int))) (
   ac (decide ((0:Int)≤x0∧x0≤(↑(Int.toNat (IntKind.wrap IntKind.i64 (x0+(3:Int)))):Int))) (
    ac (jP Ty.str (ByteArray.extract x1 (Int.toNat x0) (Int.toNat (IntKind.wrap IntKind.i64 (x0+(3:Int))))) x2) (
     ac (decide ((List.length x3+List.length [gx Ty.str (ByteArray.extract x1 (Int.toNat x0) (Int.toNat (IntKind.wrap IntKind.i64 (x0+(3:Int))))) (0:Int) x2])*(8:Nat)≤(140737488355328:Nat)∧List.length x3+List.length [gx Ty.str (ByteArray.extract x1 (Int.toNat x0) (Int.toNat (IntKind.wrap IntKind.i64 (x0+(3:Int))))) (0:Int) x2]≤(140737488355328:Nat))) (
      some ((x1,dJ Ty.str (ByteArray.extract x1 (Int.toNat x0) (Int.toNat (IntKind.wrap IntKind.i64 (x0+(3:Int))))) x0 x2,x3++[gx Ty.str (ByteArray.extract x1 (Int.toNat x0) (Int.toNat (IntKind.wrap IntKind.i64 (x0+(3:Int))))) (0:Int) x2]))) (
      none )) (
     ac (decide ((List.length x3+(1:Nat))*(8:Nat)≤(140737488355328:Nat)∧List.length x3+(1:Nat)≤(140737488355328:Nat))) (
      some ((x1,dJ Ty.str (ByteArray.extract x1 (Int.toNat x0) (Int.toNat (IntKind.wrap IntKind.i64 (x0+(3:Int))))) x0 x2,x3++[(-1:Int)]))) (
      none ))) (
    none )) (
   none )) (
  ac (decide ((List.length x3+(1:Nat))*(8:Nat)≤(140737488355328:Nat)∧List.length x3+(1:Nat)≤(140737488355328:Nat))) (
   some ((x1,x2,x3++[(-1:Int)]))) (
   none ))
noncomputable def aD1 (N:Nat):Pk→Tr Pk:=ah s286 w286 (Xj N)
theorem V1 (N:Nat):aA Tryz.prog (286) (aD1 N) :=
 (af ag ap (Ny N) Tryz.func286 s286 w286 [0] (cuts:=[]) trivial (fun _=>by kernel_rfl) (by decide +kernel) (Xj N) (fun x=>by kernel_rfl))
@[reducible] def y4:Ty:=(.cons (.int .i64) (.cons (.int .i64) (.cons (.int .i64) .unit)))
@[reducible] def s321:SP:=⟨[.adr 0 [],.int .i64,.int .i64],[.var 318 (.agg [.str,.mp 1,.sl 2]),.map (.str) (.int .i64),.row (.int .i64) 3]⟩
noncomputable def Zb (N:Nat):List (Nat×(Pk→Tr Pk)):=[]
theorem xt (N:Nat):ai Tryz.prog (Zb N):=trivial
@[reducible] def Lb:LD:=⟨28,[7,1,0,2],[(.ret,[6]),(.exit 0,[7])],⟨[.int .i64,.int .i64,.adr 0 [],.int .i64],[.var 318 (.agg [.str,.mp 1,.sl 2]),.map (.str) (.int .i64),.row (.int .i64) 3]⟩,[(.exit 0,⟨[.int .i64],[.var 318 (.agg [.str,.mp 1,.sl 2]),.map (.str) (.int .i64),.row (.int .i64) 3]⟩)]⟩
abbrev Cr:Type:=Int×Int×Int×ByteArray×(List (ByteArray×Int))×(List Int)
abbrev BA:Type:=Int×ByteArray×(List (ByteArray×Int))×(List Int)
noncomputable def MG (N:Nat) (f:Cr→Option BA):Cr→Option BA
 | (x0,x1,x2,x3,x4,x5) =>
 ac (decide (x0<(258:Int))) (
  ac (decide (IntKind.wrap IntKind.i64 (x2+x0)<(↑(ByteArray.size x3):Int))) (
   ac (decide ((0:Int)≤IntKind.wrap IntKind.i64 (x1+x0))) (
    Option.bind (x3[Int.toNat (IntKind.wrap IntKind.i64 (x1+x0))]?) fun y0 =>
    ac (decide ((0:Int)≤IntKind.wrap IntKind.i64 (x2+x0))) (
     Option.bind (x3[Int.toNat (IntKind.wrap IntKind.i64 (x2+x0))]?) fun y1 =>
     ac ((↑(UInt8.toNat y0):Int)==(↑(UInt8.toNat y1):Int)) (
      Option.bind (f (IntKind.wrap IntKind.i64 (x0+(1:Int)),x1,x2,x3,x4,x5)) fun r=>some r) (
      some ((x0,x3,x4,x5)))) (
     none )) (
    none )) (
   some ((x0,x3,x4,x5)))) (
  some ((x0,x3,x4,x5)))
noncomputable def sA (N:Nat):Nat→Cr→Option BA
 | 0,_=>none
 | k+1,x=>MG N (sA N k) x
noncomputable def LX (N:Nat) (k:Nat):Cut:=Lb.cut (sA N k)
theorem Je (N:Nat) (k:Nat):al Tryz.prog false Tryz.f321 [0] 28 (LX N k) :=
 Lb.loopT ag ap (xt N) Tryz.f321 [0] (cuts:=[]) trivial (by decide +kernel) (by kernel_rfl) (MG N) (sA N) (fun _=>rfl) (fun _ _=>rfl) (fun f x=>by kernel_rfl) k
@[reducible] def w321:List SP:=[⟨[.int .i64],[.var 318 (.agg [.str,.mp 1,.sl 2]),.map (.str) (.int .i64),.row (.int .i64) 3]⟩]
noncomputable def an5 (N:Nat):(Int×Int×ByteArray×(List (ByteArray×Int))×(List Int))→Option (Int×ByteArray×(List (ByteArray×Int))×(List Int))
 | (x0,x1,x2,x3,x4) =>
 Option.bind (sA N N ((0:Int),x0,x1,x2,x3,x4)) fun y0 =>
 some ((y0.1,y0.2.1,y0.2.2.1,y0.2.2.2))
noncomputable def aC4 (N:Nat):Pk→Tr Pk:=ah s321 w321 (an5 N)
theorem VS (N:Nat):aA Tryz.prog (321) (aC4 N) :=
 (af ag ap (xt N) Tryz.func321 s321 w321 [0] (cuts:=[(28,LX N N)]) ⟨Je N N,trivial⟩ (fun _=>by kernel_rfl) (by decide +kernel) (an5 N) (fun x=>by kernel_rfl))
@[reducible] def s287:SP:=⟨[.adr 0 [],.int .i64],[.var 318 (.agg [.str,.mp 1,.sl 2]),.map (.str) (.int .i64),.row (.int .i64) 3]⟩
noncomputable def Zk (N:Nat):List (Nat×(Pk→Tr Pk)):=[(321,aC4 N)]
theorem o5 (N:Nat):ai Tryz.prog (Zk N):=⟨VS N,trivial⟩
@[reducible] def yN:LD:=⟨1001,[7,9,8,4,1,6,0],[(.ret,[4,5]),(.exit 0,[6,4]),(.normal,[7,9,8,4,1,6,0])],⟨[.int .i64,.int .i64,.bool,.adr 1 [],.int .i64,.adr 2 [],.adr 0 []],[.var 318 (.agg [.str,.mp 3,.sl 4]),.var 281 (.agg [.int .i64,.int .i64,.int .i64]),.var 281 (.agg [.int .i64,.int .i64,.int .i64]),.map (.str) (.int .i64),.row (.int .i64) 3]⟩,[(.normal,⟨[.int .i64,.int .i64,.bool,.adr 1 [],.int .i64,.adr 2 [],.adr 0 []],[.var 318 (.agg [.str,.mp 3,.sl 4]),.var 281 (.agg [.int .i64,.int .i64,.int .i64]),.var 281 (.agg [.int .i64,.int .i64,.int .i64]),.map (.str) (.int .i64),.row (.int .i64) 3]⟩)]⟩
noncomputable def qp (N:Nat):(Int×Int×Bool×Int×ByteArray×Int×Int×Int×Int×Int×Int×(List (ByteArray×Int))×(List Int))→Option (Int×Int×Bool×Int×ByteArray×Int×Int×Int×Int×Int×Int×(List (ByteArray×Int))×(List Int))
 | (x0,x1,x2,x3,x4,x5,x6,x7,x8,x9,x10,x11,x12) =>
 Option.bind (an5 N (x0,x3,x4,x11,x12)) fun y0 =>
 ac (decide (y0.1>x9)) (
  ac (within x0 (List.length y0.2.2.2)) (
   Option.bind (y0.2.2.2[Int.toNat x0]?) fun y1 =>
   some ((y1,IntKind.wrap IntKind.i64 (x1+(1:Int)),x2,x3,y0.2.1,x5,x6,x7,(0:Int),y0.1,IntKind.wrap IntKind.i64 (x3-x0),y0.2.2.1,y0.2.2.2))) (
   none )) (
  ac (within x0 (List.length y0.2.2.2)) (
   Option.bind (y0.2.2.2[Int.toNat x0]?) fun y2 =>
   some ((y2,IntKind.wrap IntKind.i64 (x1+(1:Int)),x2,x3,y0.2.1,x5,x6,x7,x8,x9,x10,y0.2.2.1,y0.2.2.2))) (
   none ))
noncomputable def qB (N:Nat) (_:Nat):Cut:=yN.cut (qp N)
theorem oL (N:Nat) (k:Nat):al Tryz.prog false Tryz.f287 [0] 1001 (qB N k) :=
 yN.pieceT ag ap (o5 N) Tryz.f287 [0] (cuts:=[]) trivial (by decide +kernel) (by kernel_rfl) (qp N) (fun x=>by kernel_rfl)
@[reducible] def EU:LD:=⟨250,[7,9,8,4,1,6,0],[(.ret,[4,5]),(.exit 0,[6,4])],⟨[.int .i64,.int .i64,.bool,.adr 1 [],.int .i64,.adr 2 [],.adr 0 []],[.var 318 (.agg [.str,.mp 3,.sl 4]),.var 281 (.agg [.int .i64,.int .i64,.int .i64]),.var 281 (.agg [.int .i64,.int .i64,.int .i64]),.map (.str) (.int .i64),.row (.int .i64) 3]⟩,[(.exit 0,⟨[.adr 1 [],.adr 2 []],[.var 318 (.agg [.str,.mp 3,.sl 4]),.var 281 (.agg [.int .i64,.int .i64,.int .i64]),.var 281 (.agg [.int .i64,.int .i64,.int .i64]),.map (.str) (.int .i64),.row (.int .i64) 3]⟩)]⟩
abbrev vw:Type:=Int×Int×Bool×Int×ByteArray×Int×Int×Int×Int×Int×Int×(List (ByteArray×Int))×(List Int)
abbrev uJ:Type:=ByteArray×Int×Int×Int×Int×Int×Int×(List (ByteArray×Int))×(List Int)
noncomputable def GW (N:Nat) (f:vw→Option uJ):vw→Option uJ
 | (x0,x1,x2,x3,x4,x5,x6,x7,x8,x9,x10,x11,x12) =>
 ac (x2) (
  ac (decide (x1<(64:Int))) (
   ac (decide (x0≥(0:Int))) (
    ac (decide (IntKind.wrap IntKind.i64 (x3-x0)≤(32768:Int))) (
     Option.bind (qp N (x0,x1,x2,x3,x4,x5,x6,x7,x8,x9,x10,x11,x12)) fun(y0_0,y0_1,y0_2,y0_3,y0_4,y0_5,y0_6,y0_7,y0_8,y0_9,y0_10,y0_11,y0_12) =>
     Option.bind (f (y0_0,y0_1,y0_2,y0_3,y0_4,y0_5,y0_6,y0_7,y0_8,y0_9,y0_10,y0_11,y0_12)) fun r=>some r) (
     some ((x4,x8,x9,x10,x5,x6,x7,x11,x12)))) (
    some ((x4,x8,x9,x10,x5,x6,x7,x11,x12)))) (
   some ((x4,x8,x9,x10,x5,x6,x7,x11,x12)))) (
  some ((x4,x8,x9,x10,x5,x6,x7,x11,x12)))
noncomputable def oy (N:Nat):Nat→vw→Option uJ
 | 0,_=>none
 | k+1,x=>GW N (oy N k) x
noncomputable def Gi (N:Nat) (k:Nat):Cut:=EU.cut (oy N k)
theorem Gh (N:Nat) (k:Nat):al Tryz.prog false Tryz.f287 [0] 250 (Gi N k) :=
 EU.loopT ag ap (o5 N) Tryz.f287 [0] (cuts:=[(1001,qB N N)]) ⟨oL N N,trivial⟩ (by decide +kernel) (by kernel_rfl) (GW N) (oy N) (fun _=>rfl) (fun _ _=>rfl) (fun f x=>by kernel_rfl) k
@[reducible] def w287:List SP:=[⟨[.tup [.agg [.int .i64,.int .i64,.int .i64],.bool]],[.var 318 (.agg [.str,.mp 1,.sl 2]),.map (.str) (.int .i64),.row (.int .i64) 3]⟩]
noncomputable def ao2 (N:Nat):(Int×ByteArray×(List (ByteArray×Int))×(List Int))→Option (Int×Int×Int×Bool×ByteArray×(List (ByteArray×Int))×(List Int))
 | (x0,x1,x2,x3) =>
 ac (decide (IntKind.wrap IntKind.i64 (x0+(3:Int))>(↑(ByteArray.size x1):Int))) (
  some (((0:Int),(0:Int),(0:Int),false,x1,x2,x3))) (
  ac (decide ((0:Int)≤IntKind.wrap IntKind.i64 (x0+(3:Int))∧IntKind.wrap IntKind.i64 (x0+(3:Int))≤(↑(ByteArray.size x1):Int))) (
   ac (decide ((0:Int)≤x0∧x0≤(↑(Int.toNat (IntKind.wrap IntKind.i64 (x0+(3:Int)))):Int))) (
    Option.bind (oy N N (gx Ty.str (ByteArray.extract x1 (Int.toNat x0) (Int.toNat (IntKind.wrap IntKind.i64 (x0+(3:Int))))) (0:Int) x2,(0:Int),jP Ty.str (ByteArray.extract x1 (Int.toNat x0) (Int.toNat (IntKind.wrap IntKind.i64 (x0+(3:Int))))) x2,x0,x1,(0:Int),(0:Int),(0:Int),(0:Int),(0:Int),(0:Int),x2,x3)) fun(y0_0,y0_1,y0_2,y0_3,y0_4,y0_5,y0_6,y0_7,y0_8) =>
    some ((y0_1,y0_2,y0_3,decide (y0_2≥(3:Int)),y0_0,y0_7,y0_8))) (
    none )) (
   none ))
noncomputable def aD0 (N:Nat):Pk→Tr Pk:=ah s287 w287 (ao2 N)
theorem V0 (N:Nat):aA Tryz.prog (287) (aD0 N) :=
 (af ag ap (o5 N) Tryz.func287 s287 w287 [0] (cuts:=[(1001,qB N N),(250,Gi N N)]) ⟨oL N N,Gh N N,trivial⟩ (fun _=>by kernel_rfl) (by decide +kernel) (ao2 N) (fun x=>by kernel_rfl))
@[reducible] def s251:SP:=⟨[.str,.str],[]⟩
noncomputable def Zw (N:Nat):List (Nat×(Pk→Tr Pk)):=[(229,OS N),(286,aD1 N),(287,aD0 N)]
theorem kV (N:Nat):ai Tryz.prog (Zw N):=⟨nS N,V1 N,V0 N,trivial⟩
@[reducible] def EY:LD:=⟨122,[22,21,5,6],[(.ret,[4]),(.exit 0,[5,6])],⟨[.int .i64,.int .i64,.str,.adr 0 []],[.var 318 (.agg [.str,.mp 1,.sl 2]),.map (.str) (.int .i64),.row (.int .i64) 3]⟩,[(.exit 0,⟨[.str,.adr 0 []],[.var 318 (.agg [.str,.mp 1,.sl 2]),.map (.str) (.int .i64),.row (.int .i64) 3]⟩)]⟩
abbrev vC:Type:=Int×Int×ByteArray×ByteArray×(List (ByteArray×Int))×(List Int)
abbrev uN:Type:=ByteArray×ByteArray×(List (ByteArray×Int))×(List Int)
noncomputable def GZ (N:Nat) (f:vC→Option uN):vC→Option uN
 | (x0,x1,x2,x3,x4,x5) =>
 ac (decide (x0<x1)) (
  Option.bind (Xj N (x0,x3,x4,x5)) fun y0 =>
  Option.bind (f (IntKind.wrap IntKind.i64 (x0+(1:Int)),x1,x2,y0.1,y0.2.1,y0.2.2)) fun r=>some r) (
  some ((x2,x3,x4,x5)))
noncomputable def oB (N:Nat):Nat→vC→Option uN
 | 0,_=>none
 | k+1,x=>GZ N (oB N k) x
noncomputable def oM (N:Nat) (k:Nat):Cut:=EY.cut (oB N k)
theorem kK (N:Nat) (k:Nat):al Tryz.prog false Tryz.f251 [] 122 (oM N k) :=
 EY.loopT ag ap (kV N) Tryz.f251 [] (cuts:=[]) trivial (by decide +kernel) (by kernel_rfl) (GZ N) (oB N) (fun _=>rfl) (fun _ _=>rfl) (fun f x=>by kernel_rfl) k
@[reducible] def q7:LD:=⟨129630,[9,61,60,8,6],[(.ret,[4]),(.exit 4,[8,9,6]),(.exit 3,[8,9,6]),(.exit 2,[8])],⟨[.int .i64,.int .i64,.int .i64,.sl 0,.adr 1 []],[.row y4 281,.var 318 (.agg [.str,.mp 2,.sl 3]),.map (.str) (.int .i64),.row (.int .i64) 3]⟩,[(.exit 4,⟨[.sl 0,.int .i64,.adr 1 []],[.row y4 281,.var 318 (.agg [.str,.mp 2,.sl 3]),.map (.str) (.int .i64),.row (.int .i64) 3]⟩)]⟩
abbrev kl:Type:=Int×Int×Int×(List (Int×(Int×(Int×Unit))))×ByteArray×(List (ByteArray×Int))×(List Int)
abbrev j7:Type:=Int×(List (Int×(Int×(Int×Unit))))×ByteArray×(List (ByteArray×Int))×(List Int)
noncomputable def rq (N:Nat) (f:kl→Option j7):kl→Option j7
 | (x0,x1,x2,x3,x4,x5,x6) =>
 ac (decide (x1<x2)) (
  Option.bind (Xj N (x0,x4,x5,x6)) fun y0 =>
  Option.bind (f (IntKind.wrap IntKind.i64 (x0+(1:Int)),IntKind.wrap IntKind.i64 (x1+(1:Int)),x2,x3,y0.1,y0.2.1,y0.2.2)) fun r=>some r) (
  some ((x0,x3,x4,x5,x6)))
noncomputable def ef (N:Nat):Nat→kl→Option j7
 | 0,_=>none
 | k+1,x=>rq N (ef N k) x
noncomputable def kJ (N:Nat) (k:Nat):Cut:=q7.cut (ef N k)
theorem kI (N:Nat) (k:Nat):al Tryz.prog false Tryz.f251 [] 129630 (kJ N k) :=
 q7.loopT ag ap (kV N) Tryz.f251 [] (cuts:=[(122,oM N N)]) ⟨kK N N,trivial⟩ (by decide +kernel) (by kernel_rfl) (rq N) (ef N) (fun _=>rfl) (fun _ _=>rfl) (fun f x=>by kernel_rfl) k
@[reducible] def EX:LD:=⟨506,[8,9,6],[(.ret,[4]),(.exit 2,[8])],⟨[.sl 0,.int .i64,.adr 1 []],[.row y4 281,.var 318 (.agg [.str,.mp 2,.sl 3]),.map (.str) (.int .i64),.row (.int .i64) 3]⟩,[(.exit 2,⟨[.sl 0],[.row y4 281]⟩)]⟩
abbrev vB:Type:=Int×(List (Int×(Int×(Int×Unit))))×ByteArray×(List (ByteArray×Int))×(List Int)
abbrev uM:Type:=(List (Int×(Int×(Int×Unit))))
noncomputable def GY (N:Nat) (f:vB→Option uM):vB→Option uM
 | (x0,x1,x2,x3,x4) =>
 ac (decide (x0<(↑(ByteArray.size x2):Int))) (
  Option.bind (ao2 N (x0,x2,x3,x4)) fun(y0_0,y0_1,y0_2,y0_3,y0_4,y0_5,y0_6) =>
  ac (!y0_3) (
   ac (decide ((0:Int)≤x0)) (
    Option.bind (y0_4[Int.toNat x0]?) fun y1 =>
    ac (decide ((List.length x1+List.length [(IntKind.wrap IntKind.i64 (↑(UInt8.toNat y1):Int),(0:Int),(0:Int),())])*(24:Nat)≤(140737488355328:Nat)∧List.length x1+List.length [(IntKind.wrap IntKind.i64 (↑(UInt8.toNat y1):Int),(0:Int),(0:Int),())]≤(140737488355328:Nat))) (
     Option.bind (ef N N (x0,(0:Int),(1:Int),x1++[(IntKind.wrap IntKind.i64 (↑(UInt8.toNat y1):Int),(0:Int),(0:Int),())],y0_4,y0_5,y0_6)) fun y2 =>
     Option.bind (f (y2.1,y2.2.1,y2.2.2.1,y2.2.2.2.1,y2.2.2.2.2)) fun r=>some r) (
     none )) (
    none )) (
   ac (decide ((List.length x1+List.length [(y0_0,y0_1,y0_2,())])*(24:Nat)≤(140737488355328:Nat)∧List.length x1+List.length [(y0_0,y0_1,y0_2,())]≤(140737488355328:Nat))) (
    Option.bind (ef N N (x0,(0:Int),if (1:Int)>y0_1 then (1:Int) else y0_1,x1++[(y0_0,y0_1,y0_2,())],y0_4,y0_5,y0_6)) fun y3 =>
    Option.bind (f (y3.1,y3.2.1,y3.2.2.1,y3.2.2.2.1,y3.2.2.2.2)) fun r=>some r) (
    none ))) (
  some (x1))
noncomputable def oA (N:Nat):Nat→vB→Option uM
 | 0,_=>none
 | k+1,x=>GY N (oA N k) x
noncomputable def Gp (N:Nat) (k:Nat):Cut:=EX.cut (oA N k)
theorem Gn (N:Nat) (k:Nat):al Tryz.prog false Tryz.f251 [] 506 (Gp N k) :=
 EX.loopT ag ap (kV N) Tryz.f251 [] (cuts:=[(122,oM N N),(129630,kJ N N)]) ⟨kK N N,kI N N,trivial⟩ (by decide +kernel) (by kernel_rfl) (GY N) (oA N) (fun _=>rfl) (fun _ _=>rfl) (fun f x=>by kernel_rfl) k
@[reducible] def w251:List SP:=[⟨[.sl 0],[.row y4 281]⟩]
noncomputable def ao4 (N:Nat):(ByteArray×ByteArray)→Option ((List (Int×(Int×(Int×Unit)))))
 | (x0,x1) =>
 Option.bind (IF N x0) fun y0 =>
 ac (decide ((↑(ByteArray.size y0+ByteArray.size x1):Int)>(9223372036854775807:Int))) (
  none ) (
  Option.bind (oB N N ((0:Int),(↑(ByteArray.size y0):Int),y0,y0++x1,[],[])) fun y1 =>
  Option.bind (oA N N ((↑(ByteArray.size y1.1):Int),[],y1.2.1,y1.2.2.1,y1.2.2.2)) fun y2 =>
  some (y2))
noncomputable def aD9 (N:Nat):Pk→Tr Pk:=ah s251 w251 (ao4 N)
theorem V9 (N:Nat):aA Tryz.prog (251) (aD9 N) :=
 (af ag ap (kV N) Tryz.func251 s251 w251 [] (cuts:=[(122,oM N N),(129630,kJ N N),(506,Gp N N)]) ⟨kK N N,kI N N,Gn N N,trivial⟩ (fun _=>by kernel_rfl) (by decide +kernel) (ao4 N) (fun x=>by kernel_rfl))
@[reducible] def s352:SP:=⟨[.int .i64,.int .i64,.int .i64],[]⟩
noncomputable def YO (N:Nat):List (Nat×(Pk→Tr Pk)):=[]
theorem Na (N:Nat):ai Tryz.prog (YO N):=trivial
@[reducible] def w352:List SP:=[⟨[.bool],[]⟩]
noncomputable def SN (N:Nat):(Int×Int×Int)→Option (Bool)
 | (x0,x1,x2) =>
 ac (decide (x1≤x0)) (
  some (decide (x0≤x2))) (
  some (false))
noncomputable def aA8 (N:Nat):Pk→Tr Pk:=ah s352 w352 (SN N)
theorem VC (N:Nat):aA Tryz.prog (352) (aA8 N) :=
 (af ag ap (Na N) Tryz.func352 s352 w352 [] (cuts:=[]) trivial (fun _=>by kernel_rfl) (by decide +kernel) (SN N) (fun x=>by kernel_rfl))
@[reducible] def s335:SP:=⟨[.agg [.int .i64,.int .i64,.int .i64]],[]⟩
noncomputable def Y2 (N:Nat):List (Nat×(Pk→Tr Pk)):=[(352,aA8 N)]
theorem Nj (N:Nat):ai Tryz.prog (Y2 N):=⟨VC N,trivial⟩
@[reducible] def w335:List SP:=[⟨[.bool],[]⟩]
noncomputable def O3 (N:Nat):(Int×Int×Int)→Option (Bool)
 | (x0,x1,x2) =>
 ac (x1==(0:Int)) (
  ac (x2==(0:Int)) (
   Option.bind (SN N (x0,(0:Int),(255:Int))) fun y0 =>
   some (y0)) (
   some (false))) (
  ac (x0==(0:Int)) (
   Option.bind (SN N (x1,(3:Int),(258:Int))) fun y1 =>
   ac (y1) (
    Option.bind (SN N (x2,(1:Int),(32768:Int))) fun y2 =>
    some (y2)) (
    some (false))) (
   some (false)))
noncomputable def RY (N:Nat):Pk→Tr Pk:=ah s335 w335 (O3 N)
theorem rU (N:Nat):aA Tryz.prog (335) (RY N) :=
 (af ag ap (Nj N) Tryz.func335 s335 w335 [] (cuts:=[]) trivial (fun _=>by kernel_rfl) (by decide +kernel) (O3 N) (fun x=>by kernel_rfl))
@[reducible] def s271:SP:=⟨[.adr 0 [],.bool,.int .i64],[.var 221 (.agg [.sl 1,.int .i64,.int .i64]),.row (.int .u8) 5]⟩
noncomputable def Zo (N:Nat):List (Nat×(Pk→Tr Pk)):=[(269,H4 N)]
theorem NB (N:Nat):ai Tryz.prog (Zo N):=⟨lq N,trivial⟩
@[reducible] def w271:List SP:=[⟨[.tup []],[.var 221 (.agg [.sl 1,.int .i64,.int .i64]),.row (.int .u8) 5]⟩]
noncomputable def O7 (N:Nat):(Bool×Int×Int×Int×(List Int))→Option (Int×Int×(List Int))
 | (x0,x1,x2,x3,x4) =>
 ac (x0) (
  Option.bind (eF N ((1:Int),(1:Int),x2,x3,x4)) fun y0 =>
  Option.bind (eF N ((2:Int),x1,y0.1,y0.2.1,y0.2.2)) fun y1 =>
  some ((y1.1,y1.2.1,y1.2.2))) (
  Option.bind (eF N ((1:Int),(0:Int),x2,x3,x4)) fun y2 =>
  Option.bind (eF N ((2:Int),x1,y2.1,y2.2.1,y2.2.2)) fun y3 =>
  some ((y3.1,y3.2.1,y3.2.2)))
noncomputable def aj3 (N:Nat):Pk→Tr Pk:=ah s271 w271 (O7 N)
theorem Ky (N:Nat):aA Tryz.prog (271) (aj3 N) :=
 (af ag ap (NB N) Tryz.func271 s271 w271 [0] (cuts:=[]) trivial (fun _=>by kernel_rfl) (by decide +kernel) (O7 N) (fun x=>by kernel_rfl))
@[reducible] def s353:SP:=⟨[.sl 0,.int .i64,.int .i64],[.row (.int .i64) 3]⟩
noncomputable def YN (N:Nat):List (Nat×(Pk→Tr Pk)):=[]
theorem xn (N:Nat):ai Tryz.prog (YN N):=trivial
@[reducible] def K5:LD:=⟨12,[0,1,2],[(.ret,[6]),(.exit 0,[0])],⟨[.sl 0,.int .i64,.int .i64],[.row (.int .i64) 3]⟩,[(.exit 0,⟨[.sl 0],[.row (.int .i64) 3]⟩)]⟩
abbrev Cn:Type:=Int×Int×(List Int)
abbrev Bv:Type:=(List Int)
noncomputable def MC (N:Nat) (f:Cn→Option Bv):Cn→Option Bv
 | (x0,x1,x2) =>
 ac (decide ((↑(List.length x2):Int)<x0)) (
  ac (decide ((List.length x2+List.length [x1])*(8:Nat)≤(140737488355328:Nat)∧List.length x2+List.length [x1]≤(140737488355328:Nat))) (
   Option.bind (f (x0,x1,x2++[x1])) fun r=>some r) (
   none )) (
  some (x2))
noncomputable def su (N:Nat):Nat→Cn→Option Bv
 | 0,_=>none
 | k+1,x=>MC N (su N k) x
noncomputable def LR (N:Nat) (k:Nat):Cut:=K5.cut (su N k)
theorem I9 (N:Nat) (k:Nat):al Tryz.prog false Tryz.f353 [] 12 (LR N k) :=
 K5.loopT ag ap (xn N) Tryz.f353 [] (cuts:=[]) trivial (by decide +kernel) (by kernel_rfl) (MC N) (su N) (fun _=>rfl) (fun _ _=>rfl) (fun f x=>by kernel_rfl) k
@[reducible] def w353:List SP:=[⟨[.sl 0],[.row (.int .i64) 3]⟩]
noncomputable def IC (N:Nat):(Int×Int×(List Int))→Option ((List Int))
 | (x0,x1,x2) =>
 Option.bind (su N N (x0,x1,x2)) fun y0 =>
 some (y0)
noncomputable def aA7 (N:Nat):Pk→Tr Pk:=ah s353 w353 (IC N)
theorem VB (N:Nat):aA Tryz.prog (353) (aA7 N) :=
 (af ag ap (xn N) Tryz.func353 s353 w353 [] (cuts:=[(12,LR N N)]) ⟨I9 N N,trivial⟩ (fun _=>by kernel_rfl) (by decide +kernel) (IC N) (fun x=>by kernel_rfl))
@[reducible] def s336:SP:=⟨[],[]⟩
noncomputable def Y1 (N:Nat):List (Nat×(Pk→Tr Pk)):=[(353,aA7 N)]
theorem Ni (N:Nat):ai Tryz.prog (Y1 N):=⟨VB N,trivial⟩
@[reducible] def w336:List SP:=[⟨[.tup [.sl 0,.sl 1]],[.row (.int .i64) 3,.row (.int .i64) 3]⟩]
noncomputable def Xe (N:Nat):(Unit)→Option ((List Int)×(List Int))
 | () =>
 Option.bind (IC N ((144:Int),(8:Int),[])) fun y0 =>
 Option.bind (IC N ((256:Int),(9:Int),y0)) fun y1 =>
 Option.bind (IC N ((280:Int),(7:Int),y1)) fun y2 =>
 Option.bind (IC N ((288:Int),(8:Int),y2)) fun y3 =>
 Option.bind (IC N ((30:Int),(5:Int),[])) fun y4 =>
 some ((y3,y4))
noncomputable def ai9 (N:Nat):Pk→Tr Pk:=ah s336 w336 (Xe N)
theorem Kv (N:Nat):aA Tryz.prog (336) (ai9 N) :=
 (af ag ap (Ni N) Tryz.func336 s336 w336 [] (cuts:=[]) trivial (fun _=>by kernel_rfl) (by decide +kernel) (Xe N) (fun x=>by kernel_rfl))
@[reducible] def s371:SP:=⟨[.ro (.int .i64)],[]⟩
noncomputable def Yw (N:Nat):List (Nat×(Pk→Tr Pk)):=[]
theorem xh (N:Nat):ai Tryz.prog (Yw N):=trivial
@[reducible] def EJ:LD:=⟨122,[12,11,13,4,2],[(.ret,[2,3]),(.exit 0,[4,2])],⟨[.int .i64,.ro (.int .i64),.int .i64,.adr 0 [],.adr 1 []],[.var 383 (.arr (.int .i64) 16),.var 383 (.arr (.int .i64) 16)]⟩,[(.ret,⟨[.adr 0 [],.int .i64],[.var 383 (.arr (.int .i64) 16)]⟩),(.exit 0,⟨[.adr 0 [],.adr 1 []],[.var 383 (.arr (.int .i64) 16),.var 383 (.arr (.int .i64) 16)]⟩)]⟩
abbrev vd:Type:=Int×(List Int)×Int×(List Int)×(List Int)
abbrev uv:Type:=((Int×(List Int))⊕((List Int)×(List Int)))
noncomputable def GI (N:Nat) (f:vd→Option uv):vd→Option uv
 | (x0,x1,x2,x3,x4) =>
 ac (decide (x2<x0)) (
  ac (within x2 (List.length x1)) (
   Option.bind (x1[Int.toNat x2]?) fun y0 =>
   ac (decide (y0<(0:Int))) (
    some (.inl (((50:Int),x3)))) (
    ac (decide (y0>(15:Int))) (
     some (.inl (((50:Int),x3)))) (
     ac (within y0 (16:Nat)) (
      Option.bind (x3[Int.toNat y0]?) fun y1 =>
      ac (within y0 (16:Nat)) (
       Option.bind (x3[Int.toNat y0]?) fun y2 =>
       Option.bind (f (x0,x1,IntKind.wrap IntKind.i64 (x2+(1:Int)),List.set x3 (Int.toNat y0) (IntKind.wrap IntKind.i64 (y1+(1:Int))),x4)) fun r=>match r with|.inl y=>some (.inl y)|.inr y=>some (.inr y)) (
       none )) (
      none )))) (
   none )) (
  some (.inr ((x3,x4))))
noncomputable def og (N:Nat):Nat→vd→Option uv
 | 0,_=>none
 | k+1,x=>GI N (og N k) x
noncomputable def FP (N:Nat) (k:Nat):Cut:=EJ.cut (og N k)
theorem FO (N:Nat) (k:Nat):al Tryz.prog false Tryz.f371 [] 122 (FP N k) :=
 EJ.loopT ag ap (xh N) Tryz.f371 [] (cuts:=[]) trivial (by decide +kernel) (by kernel_rfl) (GI N) (og N) (fun _=>rfl) (fun _ _=>rfl) (fun f x=>by kernel_rfl) k
@[reducible] def w371:List SP:=[⟨[.tup [.arr (.int .i64) 16,.int .i64]],[]⟩]
noncomputable def SI (N:Nat):((List Int))→Option ((List Int)×Int)
 | x0 =>
 ac (decide ((↑(List.length x0):Int)>(320:Int))) (
  some (([(0:Int),(0:Int),(0:Int),(0:Int),(0:Int),(0:Int),(0:Int),(0:Int),(0:Int),(0:Int),(0:Int),(0:Int),(0:Int),(0:Int),(0:Int),(0:Int)],(50:Int)))) (
  Option.bind (og N N ((↑(List.length x0):Int),x0,(0:Int),[(0:Int),(0:Int),(0:Int),(0:Int),(0:Int),(0:Int),(0:Int),(0:Int),(0:Int),(0:Int),(0:Int),(0:Int),(0:Int),(0:Int),(0:Int),(0:Int)],[(0:Int),(0:Int),(0:Int),(0:Int),(0:Int),(0:Int),(0:Int),(0:Int),(0:Int),(0:Int),(0:Int),(0:Int),(0:Int),(0:Int),(0:Int),(0:Int)])) fun y0 =>
  match y0 with
  | .inl y1 =>
   some ((y1.2,y1.1))
  | .inr y1 =>
   some ((y1.1,(0:Int))))
noncomputable def Vs (N:Nat):Pk→Tr Pk:=ah s371 w371 (SI N)
theorem AY (N:Nat):aA Tryz.prog (371) (Vs N) :=
 (af ag ap (xh N) Tryz.func371 s371 w371 [] (cuts:=[(122,FP N N)]) ⟨FO N N,trivial⟩ (fun _=>by kernel_rfl) (by decide +kernel) (SI N) (fun x=>by kernel_rfl))
@[reducible] def s370:SP:=⟨[.ro (.int .i64)],[]⟩
noncomputable def Yx (N:Nat):List (Nat×(Pk→Tr Pk)):=[(371,Vs N)]
theorem xi (N:Nat):ai Tryz.prog (Yx N):=⟨AY N,trivial⟩
@[reducible] def EK:LD:=⟨122,[6,5,7,4],[(.ret,[2,3]),(.exit 0,[6,5])],⟨[.int .i64,.int .i64,.int .i64,.adr 0 []],[.var 383 (.arr (.int .i64) 16)]⟩,[(.exit 0,⟨[.int .i64,.int .i64],[]⟩)]⟩
abbrev ve:Type:=Int×Int×Int×(List Int)
abbrev uw:Type:=Int×Int
noncomputable def GJ (N:Nat) (f:ve→Option uw):ve→Option uw
 | (x0,x1,x2,x3) =>
 ac (decide (x2≤(15:Int))) (
  ac (x1==(0:Int)) (
   ac (within x2 (16:Nat)) (
    Option.bind (x3[Int.toNat x2]?) fun y0 =>
    ac (decide (IntKind.wrap IntKind.i64 (IntKind.wrap IntKind.i64 (x0*(2:Int))-y0)<(0:Int))) (
     Option.bind (f (IntKind.wrap IntKind.i64 (IntKind.wrap IntKind.i64 (x0*(2:Int))-y0),(50:Int),IntKind.wrap IntKind.i64 (x2+(1:Int)),x3)) fun r=>some r) (
     Option.bind (f (IntKind.wrap IntKind.i64 (IntKind.wrap IntKind.i64 (x0*(2:Int))-y0),x1,IntKind.wrap IntKind.i64 (x2+(1:Int)),x3)) fun r=>some r)) (
    none )) (
   some ((x0,x1)))) (
  some ((x0,x1)))
noncomputable def oh (N:Nat):Nat→ve→Option uw
 | 0,_=>none
 | k+1,x=>GJ N (oh N k) x
noncomputable def FR (N:Nat) (k:Nat):Cut:=EK.cut (oh N k)
theorem FQ (N:Nat) (k:Nat):al Tryz.prog false Tryz.f370 [] 122 (FR N k) :=
 EK.loopT ag ap (xi N) Tryz.f370 [] (cuts:=[]) trivial (by decide +kernel) (by kernel_rfl) (GJ N) (oh N) (fun _=>rfl) (fun _ _=>rfl) (fun f x=>by kernel_rfl) k
@[reducible] def w370:List SP:=[⟨[.tup [.int .i64,.int .i64]],[]⟩]
noncomputable def W2 (N:Nat):((List Int))→Option (Int×Int)
 | x0 =>
 Option.bind (SI N x0) fun y0 =>
 Option.bind (oh N N ((1:Int),y0.2,(1:Int),y0.1)) fun y1 =>
 ac (y1.2 != (0:Int)) (
  some (((0:Int),y1.2))) (
  some ((y1.1,(0:Int))))
noncomputable def ah7 (N:Nat):Pk→Tr Pk:=ah s370 w370 (W2 N)
theorem Ki (N:Nat):aA Tryz.prog (370) (ah7 N) :=
 (af ag ap (xi N) Tryz.func370 s370 w370 [] (cuts:=[(122,FR N N)]) ⟨FQ N N,trivial⟩ (fun _=>by kernel_rfl) (by decide +kernel) (W2 N) (fun x=>by kernel_rfl))
@[reducible] def s354:SP:=⟨[.ro (.int .i64)],[]⟩
noncomputable def YM (N:Nat):List (Nat×(Pk→Tr Pk)):=[(370,ah7 N),(371,Vs N)]
theorem oY (N:Nat):ai Tryz.prog (YM N):=⟨Ki N,AY N,trivial⟩
@[reducible] def EO:LD:=⟨250,[9,0,6,8],[(.ret,[2,3]),(.exit 0,[0,8])],⟨[.int .i64,.ro (.int .i64),.adr 0 [],.adr 1 []],[.var 383 (.arr (.int .i64) 16),.var 383 (.arr (.int .i64) 16)]⟩,[(.exit 0,⟨[.ro (.int .i64),.adr 0 []],[.var 383 (.arr (.int .i64) 16)]⟩)]⟩
abbrev vj:Type:=Int×(List Int)×(List Int)×(List Int)
abbrev uA:Type:=(List Int)×(List Int)
noncomputable def GN (N:Nat) (f:vj→Option uA):vj→Option uA
 | (x0,x1,x2,x3) =>
 ac (decide (x0<(15:Int))) (
  ac (within x0 (16:Nat)) (
   Option.bind (x3[Int.toNat x0]?) fun y0 =>
   ac (within x0 (16:Nat)) (
    Option.bind (x2[Int.toNat x0]?) fun y1 =>
    ac (within (IntKind.wrap IntKind.i64 (x0+(1:Int))) (16:Nat)) (
     Option.bind (x3[Int.toNat (IntKind.wrap IntKind.i64 (x0+(1:Int)))]?) fun y2 =>
     Option.bind (f (IntKind.wrap IntKind.i64 (x0+(1:Int)),x1,x2,List.set x3 (Int.toNat (IntKind.wrap IntKind.i64 (x0+(1:Int)))) (IntKind.wrap IntKind.i64 (IntKind.wrap IntKind.i64 (y0+y1)*(2:Int))))) fun r=>some r) (
     none )) (
    none )) (
   none )) (
  some ((x1,x3)))
noncomputable def om (N:Nat):Nat→vj→Option uA
 | 0,_=>none
 | k+1,x=>GN N (om N k) x
noncomputable def wl (N:Nat) (k:Nat):Cut:=EO.cut (om N k)
theorem rf (N:Nat) (k:Nat):al Tryz.prog false Tryz.f354 [] 250 (wl N k) :=
 EO.loopT ag ap (oY N) Tryz.f354 [] (cuts:=[]) trivial (by decide +kernel) (by kernel_rfl) (GN N) (om N) (fun _=>rfl) (fun _ _=>rfl) (fun f x=>by kernel_rfl) k
@[reducible] def yI:LD:=⟨1018,[46,45,44,10,8],[(.ret,[2,3]),(.exit 2,[10])],⟨[.int .i64,.int .i64,.ro (.int .i64),.sl 0,.adr 1 []],[.row y0 248,.var 383 (.arr (.int .i64) 16)]⟩,[(.exit 2,⟨[.sl 0],[.row y0 248]⟩)]⟩
abbrev qf:Type:=Int×Int×(List Int)×(List (Int×(Int×Unit)))×(List Int)
abbrev pR:Type:=(List (Int×(Int×Unit)))
noncomputable def zB (N:Nat) (f:qf→Option pR):qf→Option pR
 | (x0,x1,x2,x3,x4) =>
 ac (decide (x0<x1)) (
  ac (within x0 (List.length x2)) (
   Option.bind (x2[Int.toNat x0]?) fun y0 =>
   ac (decide (y0>(0:Int))) (
    ac (within y0 (16:Nat)) (
     Option.bind (x4[Int.toNat y0]?) fun y1 =>
     ac (within x0 (List.length x3)) (
      Option.bind (x3[Int.toNat x0]?) fun y2 =>
      ac (within y0 (16:Nat)) (
       Option.bind (x4[Int.toNat y0]?) fun y3 =>
       ac (within y0 (16:Nat)) (
        Option.bind (x4[Int.toNat y0]?) fun y4 =>
        Option.bind (f (IntKind.wrap IntKind.i64 (x0+(1:Int)),x1,x2,List.set x3 (Int.toNat x0) (y1,y0,()),List.set x4 (Int.toNat y0) (IntKind.wrap IntKind.i64 (y3+(1:Int))))) fun r=>some r) (
        none )) (
       none )) (
      none )) (
     none )) (
    Option.bind (f (IntKind.wrap IntKind.i64 (x0+(1:Int)),x1,x2,x3,x4)) fun r=>some r)) (
   none )) (
  some (x3))
noncomputable def lz (N:Nat):Nat→qf→Option pR
 | 0,_=>none
 | k+1,x=>zB N (lz N k) x
noncomputable def zt (N:Nat) (k:Nat):Cut:=yI.cut (lz N k)
theorem C8 (N:Nat) (k:Nat):al Tryz.prog false Tryz.f354 [] 1018 (zt N k) :=
 yI.loopT ag ap (oY N) Tryz.f354 [] (cuts:=[(250,wl N N)]) ⟨rf N N,trivial⟩ (by decide +kernel) (by kernel_rfl) (zB N) (lz N) (fun _=>rfl) (fun _ _=>rfl) (fun f x=>by kernel_rfl) k
@[reducible] def w354:List SP:=[⟨[.tup [.sl 0,.int .i64]],[.row y0 248]⟩]
noncomputable def SL (N:Nat):((List Int))→Option (Int×(List (Int×(Int×Unit))))
 | x0 =>
 Option.bind (W2 N x0) fun y0 =>
 ac (y0.2 != (0:Int)) (
  some ((y0.2,[]))) (
  Option.bind (SI N x0) fun y1 =>
  Option.bind (om N N ((1:Int),x0,y1.1,[(0:Int),(0:Int),(0:Int),(0:Int),(0:Int),(0:Int),(0:Int),(0:Int),(0:Int),(0:Int),(0:Int),(0:Int),(0:Int),(0:Int),(0:Int),(0:Int)])) fun y2 =>
  ac (decide ((0:Int)≤(↑(List.length y2.1):Int)∧(↑(List.length y2.1):Int)≤(↑(List.length y2.1):Int)∧(↑(List.length y2.1):Int)*(16:Int)≤(140737488355328:Int)∧(↑(List.length y2.1):Int)≤(140737488355328:Int))) (
   Option.bind (lz N N ((0:Int),(↑(List.length y2.1):Int),y2.1,List.replicate (Int.toNat (↑(List.length y2.1):Int)) ((0:Int),(0:Int),()),y2.2)) fun y3 =>
   some (((0:Int),y3))) (
   none ))
noncomputable def ai6 (N:Nat):Pk→Tr Pk:=ah s354 w354 (SL N)
theorem Kr (N:Nat):aA Tryz.prog (354) (ai6 N) :=
 (af ag ap (oY N) Tryz.func354 s354 w354 [] (cuts:=[(250,wl N N),(1018,zt N N)]) ⟨rf N N,C8 N N,trivial⟩ (fun _=>by kernel_rfl) (by decide +kernel) (SL N) (fun x=>by kernel_rfl))
@[reducible] def s387:SP:=⟨[.int .i64,.int .i64,.int .i64],[]⟩
noncomputable def Yg (N:Nat):List (Nat×(Pk→Tr Pk)):=[]
theorem MV (N:Nat):ai Tryz.prog (Yg N):=trivial
@[reducible] def w387:List SP:=[⟨[.int .i64],[]⟩]
noncomputable def WW (N:Nat):(Int×Int×Int)→Option (Int)
 | (x0,x1,x2) =>
 ac (decide (x2=(0:Int))) (
  none ) (
  ac (decide (x1=(0:Int))) (
   none ) (
   some (IntKind.wrap IntKind.i64 ((if (0:Int)>IntKind.wrap IntKind.i64 (IntKind.wrap IntKind.i64 (Int.tdiv (IntKind.wrap IntKind.i64 (x0-x1)) x2)+(1:Int)) then (0:Int) else IntKind.wrap IntKind.i64 (IntKind.wrap IntKind.i64 (Int.tdiv (IntKind.wrap IntKind.i64 (x0-x1)) x2)+(1:Int)))*if (1:Int)<IntKind.wrap IntKind.i64 (Int.tdiv x0 x1) then (1:Int) else IntKind.wrap IntKind.i64 (Int.tdiv x0 x1)))))
noncomputable def az0 (N:Nat):Pk→Tr Pk:=ah s387 w387 (WW N)
theorem Vi (N:Nat):aA Tryz.prog (387) (az0 N) :=
 (af ag ap (MV N) Tryz.func387 s387 w387 [] (cuts:=[]) trivial (fun _=>by kernel_rfl) (by decide +kernel) (WW N) (fun x=>by kernel_rfl))
@[reducible] def s382:SP:=⟨[.int .i64,.int .i64,.int .i64,.int .i64],[]⟩
noncomputable def Yl (N:Nat):List (Nat×(Pk→Tr Pk)):=[(387,az0 N)]
theorem xb (N:Nat):ai Tryz.prog (Yl N):=⟨Vi N,trivial⟩
@[reducible] def KQ:LD:=⟨58,[10,14,13,0,1,2],[(.ret,[8,9]),(.exit 0,[10,0,1,2])],⟨[.int .i64,.int .i64,.int .i64,.int .i64,.int .i64,.int .i64],[]⟩,[(.exit 0,⟨[.int .i64,.int .i64,.int .i64,.int .i64],[]⟩)]⟩
abbrev BZ:Type:=Int×Int×Int×Int×Int×Int
abbrev Bh:Type:=Int×Int×Int×Int
noncomputable def Mq (N:Nat) (f:BZ→Option Bh):BZ→Option Bh
 | (x0,x1,x2,x3,x4,x5) =>
 ac (decide (x1<x2)) (
  Option.bind (WW N (x1,x4,x5)) fun y0 =>
  ac (decide (y0<(0:Int))) (
   none ) (
   Option.bind (f (IntKind.wrap IntKind.i64 (x0+IntKind.wrap IntKind.i64 ((1:Int)*(2:Int)^min (Int.toNat y0) (64:Nat))),IntKind.wrap IntKind.i64 (x1+(1:Int)),x2,x3,x4,x5)) fun r=>some r)) (
  some ((x0,x3,x4,x5)))
noncomputable def r8 (N:Nat):Nat→BZ→Option Bh
 | 0,_=>none
 | k+1,x=>Mq N (r8 N k) x
noncomputable def LF (N:Nat) (k:Nat):Cut:=KQ.cut (r8 N k)
theorem IX (N:Nat) (k:Nat):al Tryz.prog false Tryz.f382 [] 58 (LF N k) :=
 KQ.loopT ag ap (xb N) Tryz.f382 [] (cuts:=[]) trivial (by decide +kernel) (by kernel_rfl) (Mq N) (r8 N) (fun _=>rfl) (fun _ _=>rfl) (fun f x=>by kernel_rfl) k
@[reducible] def w382:List SP:=[⟨[.tup [.int .i64,.int .i64]],[]⟩]
noncomputable def WX (N:Nat):(Int×Int×Int×Int)→Option (Int×Int)
 | (x0,x1,x2,x3) =>
 Option.bind (r8 N N (x3,(0:Int),x0,x0,x1,x2)) fun y0 =>
 Option.bind (WW N (y0.2.1,y0.2.2.1,y0.2.2.2)) fun y1 =>
 some ((y0.1,y1))
noncomputable def ah2 (N:Nat):Pk→Tr Pk:=ah s382 w382 (WX N)
theorem Kd (N:Nat):aA Tryz.prog (382) (ah2 N) :=
 (af ag ap (xb N) Tryz.func382 s382 w382 [] (cuts:=[(58,LF N N)]) ⟨IX N N,trivial⟩ (fun _=>by kernel_rfl) (by decide +kernel) (WX N) (fun x=>by kernel_rfl))
@[reducible] def s373:SP:=⟨[.int .i64],[]⟩
noncomputable def Yu (N:Nat):List (Nat×(Pk→Tr Pk)):=[(382,ah2 N)]
theorem M3 (N:Nat):ai Tryz.prog (Yu N):=⟨Kd N,trivial⟩
@[reducible] def w373:List SP:=[⟨[.tup [.int .i64,.int .i64]],[]⟩]
noncomputable def W1 (N:Nat):(Int)→Option (Int×Int)
 | x0 =>
 ac (x0==(285:Int)) (
  some (((258:Int),(0:Int)))) (
  ac (decide (x0<(257:Int))) (
   some (((0:Int),(0:Int)))) (
   ac (decide (x0>(285:Int))) (
    some (((0:Int),(0:Int)))) (
    Option.bind (WX N (IntKind.wrap IntKind.i64 (x0-(257:Int)),(8:Int),(4:Int),(3:Int))) fun y0 =>
    some ((y0.1,y0.2)))))
noncomputable def ah6 (N:Nat):Pk→Tr Pk:=ah s373 w373 (W1 N)
theorem Kh (N:Nat):aA Tryz.prog (373) (ah6 N) :=
 (af ag ap (M3 N) Tryz.func373 s373 w373 [] (cuts:=[]) trivial (fun _=>by kernel_rfl) (by decide +kernel) (W1 N) (fun x=>by kernel_rfl))
@[reducible] def s372:SP:=⟨[.int .i64,.int .i64,.int .i64,.fn 373],[]⟩
noncomputable def Yv (N:Nat):List (Nat×(Pk→Tr Pk)):=[(373,ah6 N)]
theorem xg (N:Nat):ai Tryz.prog (Yv N):=⟨Kh N,trivial⟩
@[reducible] def KW:LD:=⟨26,[1,3,11,0],[(.ret,[8,9,10]),(.exit 0,[])],⟨[.int .i64,.fn 373,.int .i64,.int .i64],[]⟩,[(.ret,⟨[.int .i64,.int .i64,.int .i64],[]⟩),(.exit 0,⟨[],[]⟩)]⟩
abbrev Cg:Type:=Int×Int×Int
abbrev Bo:Type:=((Int×Int×Int)⊕(Unit))
noncomputable def Mv (N:Nat) (f:Cg→Option Bo):Cg→Option Bo
 | (x0,x1,x2) =>
 ac (decide (x1≥x0)) (
  Option.bind (W1 N x1) fun y0 =>
  ac (decide (y0.1≤x2)) (
   some (.inl ((x1,IntKind.wrap IntKind.i64 (x2-y0.1),y0.2)))) (
   Option.bind (f (x0,IntKind.wrap IntKind.i64 (x1-(1:Int)),x2)) fun r=>match r with|.inl y=>some (.inl y)|.inr y=>some (.inr y))) (
  some (.inr (())))
noncomputable def si (N:Nat):Nat→Cg→Option Bo
 | 0,_=>none
 | k+1,x=>Mv N (si N k) x
noncomputable def LL (N:Nat) (k:Nat):Cut:=KW.cut (si N k)
theorem I3 (N:Nat) (k:Nat):al Tryz.prog false Tryz.f372 [] 26 (LL N k) :=
 KW.loopT ag ap (xg N) Tryz.f372 [] (cuts:=[]) trivial (by decide +kernel) (by kernel_rfl) (Mv N) (si N) (fun _=>rfl) (fun _ _=>rfl) (fun f x=>by kernel_rfl) k
@[reducible] def w372:List SP:=[⟨[.tup [.int .i64,.int .i64,.int .i64]],[]⟩]
noncomputable def am1 (N:Nat):(Int×Int×Int)→Option (Int×Int×Int)
 | (x0,x1,x2) =>
 Option.bind (si N N (x1,x2,x0)) fun y0 =>
 match y0 with
 | .inl y1 =>
  some ((y1.1,y1.2.1,y1.2.2))
 | .inr y1 =>
  some (((0:Int),(0:Int),(0:Int)))
noncomputable def az9 (N:Nat):Pk→Tr Pk:=ah s372 w372 (am1 N)
theorem Vr (N:Nat):aA Tryz.prog (372) (az9 N) :=
 (af ag ap (xg N) Tryz.func372 s372 w372 [] (cuts:=[(26,LL N N)]) ⟨I3 N N,trivial⟩ (fun _=>by kernel_rfl) (by decide +kernel) (am1 N) (fun x=>by kernel_rfl))
@[reducible] def s356:SP:=⟨[.int .i64],[]⟩
noncomputable def YK (N:Nat):List (Nat×(Pk→Tr Pk)):=[(372,az9 N)]
theorem M9 (N:Nat):ai Tryz.prog (YK N):=⟨Vr N,trivial⟩
@[reducible] def w356:List SP:=[⟨[.tup [.int .i64,.int .i64,.int .i64]],[]⟩]
noncomputable def W8 (N:Nat):(Int)→Option (Int×Int×Int)
 | x0 =>
 ac (decide (x0>(258:Int))) (
  some (((0:Int),(0:Int),(0:Int)))) (
  Option.bind (am1 N (x0,(257:Int),(285:Int))) fun y0 =>
  some ((y0.1,y0.2.1,y0.2.2)))
noncomputable def ai5 (N:Nat):Pk→Tr Pk:=ah s356 w356 (W8 N)
theorem Kq (N:Nat):aA Tryz.prog (356) (ai5 N) :=
 (af ag ap (M9 N) Tryz.func356 s356 w356 [] (cuts:=[]) trivial (fun _=>by kernel_rfl) (by decide +kernel) (W8 N) (fun x=>by kernel_rfl))
@[reducible] def s374:SP:=⟨[.int .i64],[]⟩
noncomputable def Yt (N:Nat):List (Nat×(Pk→Tr Pk)):=[(382,ah2 N)]
theorem M2 (N:Nat):ai Tryz.prog (Yt N):=⟨Kd N,trivial⟩
@[reducible] def w374:List SP:=[⟨[.tup [.int .i64,.int .i64]],[]⟩]
noncomputable def W0 (N:Nat):(Int)→Option (Int×Int)
 | x0 =>
 ac (decide (x0<(0:Int))) (
  some (((0:Int),(0:Int)))) (
  ac (decide (x0≥(30:Int))) (
   some (((0:Int),(0:Int)))) (
   Option.bind (WX N (x0,(4:Int),(2:Int),(1:Int))) fun y0 =>
   some ((y0.1,y0.2))))
noncomputable def ah5 (N:Nat):Pk→Tr Pk:=ah s374 w374 (W0 N)
theorem Kg (N:Nat):aA Tryz.prog (374) (ah5 N) :=
 (af ag ap (M2 N) Tryz.func374 s374 w374 [] (cuts:=[]) trivial (fun _=>by kernel_rfl) (by decide +kernel) (W0 N) (fun x=>by kernel_rfl))
@[reducible] def s372a:SP:=⟨[.int .i64,.int .i64,.int .i64,.fn 374],[]⟩
noncomputable def TX (N:Nat):List (Nat×(Pk→Tr Pk)):=[(374,ah5 N)]
theorem sM (N:Nat):ai Tryz.prog (TX N):=⟨Kg N,trivial⟩
@[reducible] def EI:LD:=⟨26,[1,3,11,0],[(.ret,[8,9,10]),(.exit 0,[])],⟨[.int .i64,.fn 374,.int .i64,.int .i64],[]⟩,[(.ret,⟨[.int .i64,.int .i64,.int .i64],[]⟩),(.exit 0,⟨[],[]⟩)]⟩
abbrev vb:Type:=Int×Int×Int
abbrev uu:Type:=((Int×Int×Int)⊕(Unit))
noncomputable def GH (N:Nat) (f:vb→Option uu):vb→Option uu
 | (x0,x1,x2) =>
 ac (decide (x1≥x0)) (
  Option.bind (W0 N x1) fun y0 =>
  ac (decide (y0.1≤x2)) (
   some (.inl ((x1,IntKind.wrap IntKind.i64 (x2-y0.1),y0.2)))) (
   Option.bind (f (x0,IntKind.wrap IntKind.i64 (x1-(1:Int)),x2)) fun r=>match r with|.inl y=>some (.inl y)|.inr y=>some (.inr y))) (
  some (.inr (())))
noncomputable def oe (N:Nat):Nat→vb→Option uu
 | 0,_=>none
 | k+1,x=>GH N (oe N k) x
noncomputable def FN (N:Nat) (k:Nat):Cut:=EI.cut (oe N k)
theorem FM (N:Nat) (k:Nat):al Tryz.prog false Tryz.f372 [] 26 (FN N k) :=
 EI.loopT ag ap (sM N) Tryz.f372 [] (cuts:=[]) trivial (by decide +kernel) (by kernel_rfl) (GH N) (oe N) (fun _=>rfl) (fun _ _=>rfl) (fun f x=>by kernel_rfl) k
@[reducible] def w372a:List SP:=[⟨[.tup [.int .i64,.int .i64,.int .i64]],[]⟩]
noncomputable def SH (N:Nat):(Int×Int×Int)→Option (Int×Int×Int)
 | (x0,x1,x2) =>
 Option.bind (oe N N (x1,x2,x0)) fun y0 =>
 match y0 with
 | .inl y1 =>
  some ((y1.1,y1.2.1,y1.2.2))
 | .inr y1 =>
  some (((0:Int),(0:Int),(0:Int)))
noncomputable def XW (N:Nat):Pk→Tr Pk:=ah s372a w372a (SH N)
theorem RU (N:Nat):aA Tryz.prog (372) (XW N) :=
 (af ag ap (sM N) Tryz.func372 s372a w372a [] (cuts:=[(26,FN N N)]) ⟨FM N N,trivial⟩ (fun _=>by kernel_rfl) (by decide +kernel) (SH N) (fun x=>by kernel_rfl))
@[reducible] def s357:SP:=⟨[.int .i64],[]⟩
noncomputable def YJ (N:Nat):List (Nat×(Pk→Tr Pk)):=[(372,XW N)]
theorem M8 (N:Nat):ai Tryz.prog (YJ N):=⟨RU N,trivial⟩
@[reducible] def w357:List SP:=[⟨[.tup [.int .i64,.int .i64,.int .i64]],[]⟩]
noncomputable def W7 (N:Nat):(Int)→Option (Int×Int×Int)
 | x0 =>
 ac (decide (x0>(32768:Int))) (
  some (((0:Int),(0:Int),(0:Int)))) (
  Option.bind (SH N (x0,(0:Int),(29:Int))) fun y0 =>
  some ((y0.1,y0.2.1,y0.2.2)))
noncomputable def ai4 (N:Nat):Pk→Tr Pk:=ah s357 w357 (W7 N)
theorem Kp (N:Nat):aA Tryz.prog (357) (ai4 N) :=
 (af ag ap (M8 N) Tryz.func357 s357 w357 [] (cuts:=[]) trivial (fun _=>by kernel_rfl) (by decide +kernel) (W7 N) (fun x=>by kernel_rfl))
@[reducible] def s338:SP:=⟨[.ro y4],[]⟩
noncomputable def YZ (N:Nat):List (Nat×(Pk→Tr Pk)):=[(335,RY N),(356,ai5 N),(357,ai4 N)]
theorem xp (N:Nat):ai Tryz.prog (YZ N):=⟨rU N,Kq N,Kp N,trivial⟩
@[reducible] def ER:LD:=⟨122,[18,17,16,2,3],[(.ret,[2,3]),(.exit 0,[2,3])],⟨[.int .i64,.int .i64,.ro y4,.sl 0,.sl 1],[.row (.int .i64) 3,.row (.int .i64) 3]⟩,[(.exit 0,⟨[.sl 0,.sl 1],[.row (.int .i64) 3,.row (.int .i64) 3]⟩)]⟩
abbrev vt:Type:=Int×Int×(List (Int×(Int×(Int×Unit))))×(List Int)×(List Int)
abbrev uG:Type:=(List Int)×(List Int)
noncomputable def GU (N:Nat) (f:vt→Option uG):vt→Option uG
 | (x0,x1,x2,x3,x4) =>
 ac (decide (x0<x1)) (
  ac (within x0 (List.length x2)) (
   Option.bind (x2[Int.toNat x0]?) fun y0 =>
   Option.bind (O3 N (y0.1,y0.2.1,y0.2.2.1)) fun y1 =>
   ac (!y1) (
    Option.bind (f (IntKind.wrap IntKind.i64 (x0+(1:Int)),x1,x2,x3,x4)) fun r=>some r) (
    ac (y0.2.1==(0:Int)) (
     ac (within y0.1 (List.length x3)) (
      Option.bind (x3[Int.toNat y0.1]?) fun y2 =>
      ac (within y0.1 (List.length x3)) (
       Option.bind (x3[Int.toNat y0.1]?) fun y3 =>
       Option.bind (f (IntKind.wrap IntKind.i64 (x0+(1:Int)),x1,x2,List.set x3 (Int.toNat y0.1) (IntKind.wrap IntKind.i64 (y2+(1:Int))),x4)) fun r=>some r) (
       none )) (
      none )) (
     Option.bind (W8 N y0.2.1) fun y4 =>
     Option.bind (W7 N y0.2.2.1) fun y5 =>
     ac (within y4.1 (List.length x3)) (
      Option.bind (x3[Int.toNat y4.1]?) fun y6 =>
      ac (within y4.1 (List.length x3)) (
       Option.bind (x3[Int.toNat y4.1]?) fun y7 =>
       ac (within y5.1 (List.length x4)) (
        Option.bind (x4[Int.toNat y5.1]?) fun y8 =>
        ac (within y5.1 (List.length x4)) (
         Option.bind (x4[Int.toNat y5.1]?) fun y9 =>
         Option.bind (f (IntKind.wrap IntKind.i64 (x0+(1:Int)),x1,x2,List.set x3 (Int.toNat y4.1) (IntKind.wrap IntKind.i64 (y6+(1:Int))),List.set x4 (Int.toNat y5.1) (IntKind.wrap IntKind.i64 (y8+(1:Int))))) fun r=>some r) (
         none )) (
        none )) (
       none )) (
      none )))) (
   none )) (
  some ((x3,x4)))
noncomputable def ov (N:Nat):Nat→vt→Option uG
 | 0,_=>none
 | k+1,x=>GU N (ov N k) x
noncomputable def Gb (N:Nat) (k:Nat):Cut:=ER.cut (ov N k)
theorem Ga (N:Nat) (k:Nat):al Tryz.prog false Tryz.f338 [] 122 (Gb N k) :=
 ER.loopT ag ap (xp N) Tryz.f338 [] (cuts:=[]) trivial (by decide +kernel) (by kernel_rfl) (GU N) (ov N) (fun _=>rfl) (fun _ _=>rfl) (fun f x=>by kernel_rfl) k
@[reducible] def w338:List SP:=[⟨[.tup [.sl 0,.sl 1]],[.row (.int .i64) 3,.row (.int .i64) 3]⟩]
noncomputable def Xc (N:Nat):((List (Int×(Int×(Int×Unit)))))→Option ((List Int)×(List Int))
 | x0 =>
 Option.bind (ov N N ((0:Int),(↑(List.length x0):Int),x0,[(0:Int),(0:Int),(0:Int),(0:Int),(0:Int),(0:Int),(0:Int),(0:Int),(0:Int),(0:Int),(0:Int),(0:Int),(0:Int),(0:Int),(0:Int),(0:Int),(0:Int),(0:Int),(0:Int),(0:Int),(0:Int),(0:Int),(0:Int),(0:Int),(0:Int),(0:Int),(0:Int),(0:Int),(0:Int),(0:Int),(0:Int),(0:Int),(0:Int),(0:Int),(0:Int),(0:Int),(0:Int),(0:Int),(0:Int),(0:Int),(0:Int),(0:Int),(0:Int),(0:Int),(0:Int),(0:Int),(0:Int),(0:Int),(0:Int),(0:Int),(0:Int),(0:Int),(0:Int),(0:Int),(0:Int),(0:Int),(0:Int),(0:Int),(0:Int),(0:Int),(0:Int),(0:Int),(0:Int),(0:Int),(0:Int),(0:Int),(0:Int),(0:Int),(0:Int),(0:Int),(0:Int),(0:Int),(0:Int),(0:Int),(0:Int),(0:Int),(0:Int),(0:Int),(0:Int),(0:Int),(0:Int),(0:Int),(0:Int),(0:Int),(0:Int),(0:Int),(0:Int),(0:Int),(0:Int),(0:Int),(0:Int),(0:Int),(0:Int),(0:Int),(0:Int),(0:Int),(0:Int),(0:Int),(0:Int),(0:Int),(0:Int),(0:Int),(0:Int),(0:Int),(0:Int),(0:Int),(0:Int),(0:Int),(0:Int),(0:Int),(0:Int),(0:Int),(0:Int),(0:Int),(0:Int),(0:Int),(0:Int),(0:Int),(0:Int),(0:Int),(0:Int),(0:Int),(0:Int),(0:Int),(0:Int),(0:Int),(0:Int),(0:Int),(0:Int),(0:Int),(0:Int),(0:Int),(0:Int),(0:Int),(0:Int),(0:Int),(0:Int),(0:Int),(0:Int),(0:Int),(0:Int),(0:Int),(0:Int),(0:Int),(0:Int),(0:Int),(0:Int),(0:Int),(0:Int),(0:Int),(0:Int),(0:Int),(0:Int),(0:Int),(0:Int),(0:Int),(0:Int),(0:Int),(0:Int),(0:Int),(0:Int),(0:Int),(0:Int),(0:Int),(0:Int),(0:Int),(0:Int),(0:Int),(0:Int),(0:Int),(0:Int),(0:Int),(0:Int),(0:Int),(0:Int),(0:Int),(0:Int),(0:Int),(0:Int),(0:Int),(0:Int),(0:Int),(0:Int),(0:Int),(0:Int),(0:Int),(0:Int),(0:Int),(0:Int),(0:Int),(0:Int),(0:Int),(0:Int),(0:Int),(0:Int),(0:Int),(0:Int),(0:Int),(0:Int),(0:Int),(0:Int),(0:Int),(0:Int),(0:Int),(0:Int),(0:Int),(0:Int),(0:Int),(0:Int),(0:Int),(0:Int),(0:Int),(0:Int),(0:Int),(0:Int),(0:Int),(0:Int),(0:Int),(0:Int),(0:Int),(0:Int),(0:Int),(0:Int),(0:Int),(0:Int),(0:Int),(0:Int),(0:Int),(0:Int),(0:Int),(0:Int),(0:Int),(0:Int),(0:Int),(0:Int),(0:Int),(0:Int),(0:Int),(0:Int),(0:Int),(0:Int),(0:Int),(0:Int),(0:Int),(0:Int),(0:Int),(0:Int),(0:Int),(0:Int),(0:Int),(0:Int),(0:Int),(0:Int),(0:Int),(0:Int),(0:Int),(1:Int),(0:Int),(0:Int),(0:Int),(0:Int),(0:Int),(0:Int),(0:Int),(0:Int),(0:Int),(0:Int),(0:Int),(0:Int),(0:Int),(0:Int),(0:Int),(0:Int),(0:Int),(0:Int),(0:Int),(0:Int),(0:Int),(0:Int),(0:Int),(0:Int),(0:Int),(0:Int),(0:Int),(0:Int),(0:Int)],List.replicate (30:Nat) (0:Int))) fun y0 =>
 some ((y0.1,y0.2))
noncomputable def ai8 (N:Nat):Pk→Tr Pk:=ah s338 w338 (Xc N)
theorem Ku (N:Nat):aA Tryz.prog (338) (ai8 N) :=
 (af ag ap (xp N) Tryz.func338 s338 w338 [] (cuts:=[(122,Gb N N)]) ⟨Ga N N,trivial⟩ (fun _=>by kernel_rfl) (by decide +kernel) (Xc N) (fun x=>by kernel_rfl))
@[reducible] def s355:SP:=⟨[.ro y0,.ro (.int .i64)],[]⟩
noncomputable def YL (N:Nat):List (Nat×(Pk→Tr Pk)):=[]
theorem xm (N:Nat):ai Tryz.prog (YL N):=trivial
@[reducible] def K4:LD:=⟨26,[8,7,0,9],[(.ret,[4]),(.exit 0,[])],⟨[.int .i64,.ro (.int .i64),.ro y0,.int .i64],[]⟩,[(.ret,⟨[.bool],[]⟩),(.exit 0,⟨[],[]⟩)]⟩
abbrev Cm:Type:=Int×(List Int)×(List (Int×(Int×Unit)))×Int
abbrev Bu:Type:=((Bool)⊕(Unit))
noncomputable def MB (N:Nat) (f:Cm→Option Bu):Cm→Option Bu
 | (x0,x1,x2,x3) =>
 ac (decide (x3<x0)) (
  ac (within x3 (List.length x1)) (
   Option.bind (x1[Int.toNat x3]?) fun y0 =>
   ac (decide (y0>(0:Int))) (
    ac (decide (x3≥(↑(List.length x2):Int))) (
     some (.inl (false))) (
     ac (within x3 (List.length x2)) (
      Option.bind (x2[Int.toNat x3]?) fun y1 =>
      ac (y1.2.1==(0:Int)) (
       some (.inl (false))) (
       Option.bind (f (x0,x1,x2,IntKind.wrap IntKind.i64 (x3+(1:Int)))) fun r=>match r with|.inl y=>some (.inl y)|.inr y=>some (.inr y))) (
      none ))) (
    Option.bind (f (x0,x1,x2,IntKind.wrap IntKind.i64 (x3+(1:Int)))) fun r=>match r with|.inl y=>some (.inl y)|.inr y=>some (.inr y))) (
   none )) (
  some (.inr (())))
noncomputable def ss (N:Nat):Nat→Cm→Option Bu
 | 0,_=>none
 | k+1,x=>MB N (ss N k) x
noncomputable def LQ (N:Nat) (k:Nat):Cut:=K4.cut (ss N k)
theorem I8 (N:Nat) (k:Nat):al Tryz.prog false Tryz.f355 [] 26 (LQ N k) :=
 K4.loopT ag ap (xm N) Tryz.f355 [] (cuts:=[]) trivial (by decide +kernel) (by kernel_rfl) (MB N) (ss N) (fun _=>rfl) (fun _ _=>rfl) (fun f x=>by kernel_rfl) k
@[reducible] def w355:List SP:=[⟨[.bool],[]⟩]
noncomputable def W9 (N:Nat):((List (Int×(Int×Unit)))×(List Int))→Option (Bool)
 | (x0,x1) =>
 Option.bind (ss N N ((↑(List.length x1):Int),x1,x0,(0:Int))) fun y0 =>
 match y0 with
 | .inl y1 =>
  some (y1)
 | .inr y1 =>
  some (true)
noncomputable def aA6 (N:Nat):Pk→Tr Pk:=ah s355 w355 (W9 N)
theorem VA (N:Nat):aA Tryz.prog (355) (aA6 N) :=
 (af ag ap (xm N) Tryz.func355 s355 w355 [] (cuts:=[(26,LQ N N)]) ⟨I8 N N,trivial⟩ (fun _=>by kernel_rfl) (by decide +kernel) (W9 N) (fun x=>by kernel_rfl))
@[reducible] def s337:SP:=⟨[.adr 0 [],.ro (.int .i64),.ro (.int .i64),.ro y4],[.var 221 (.agg [.sl 1,.int .i64,.int .i64]),.row (.int .u8) 5]⟩
noncomputable def Y0 (N:Nat):List (Nat×(Pk→Tr Pk)):=[(335,RY N),(354,ai6 N),(338,ai8 N),(355,aA6 N),(222,Wg N),(356,ai5 N),(269,H4 N),(357,ai4 N)]
theorem kU (N:Nat):ai Tryz.prog (Y0 N):=⟨rU N,Kr N,Ku N,VA N,A6 N,Kq N,lq N,Kp N,trivial⟩
@[reducible] def K9:LD:=⟨26,[23,3,0,2,1,22,24],[(.ret,[8]),(.exit 0,[1,2,0,3])],⟨[.int .i64,.ro y4,.adr 0 [],.ro (.int .i64),.ro (.int .i64),.ro y4,.int .i64],[.var 221 (.agg [.sl 1,.int .i64,.int .i64]),.row (.int .u8) 5]⟩,[(.ret,⟨[.int .i64],[.var 221 (.agg [.sl 1,.int .i64,.int .i64]),.row (.int .u8) 5]⟩),(.exit 0,⟨[.ro (.int .i64),.ro (.int .i64),.adr 0 [],.ro y4],[.var 221 (.agg [.sl 1,.int .i64,.int .i64]),.row (.int .u8) 5]⟩)]⟩
abbrev Cp:Type:=Int×(List (Int×(Int×(Int×Unit))))×(List Int)×(List Int)×(List (Int×(Int×(Int×Unit))))×Int×Int×Int×(List Int)
abbrev By:Type:=((Int×Int×Int×(List Int))⊕((List Int)×(List Int)×(List (Int×(Int×(Int×Unit))))×Int×Int×(List Int)))
noncomputable def ME (N:Nat) (f:Cp→Option By):Cp→Option By
 | (x0,x1,x2,x3,x4,x5,x6,x7,x8) =>
 ac (decide (x5<x0)) (
  ac (within x5 (List.length x4)) (
   Option.bind (x4[Int.toNat x5]?) fun y0 =>
   Option.bind (O3 N (y0.1,y0.2.1,y0.2.2.1)) fun y1 =>
   ac (!y1) (
    some (.inl (((1:Int),x6,x7,x8)))) (
    Option.bind (f (x0,x1,x2,x3,x4,IntKind.wrap IntKind.i64 (x5+(1:Int)),x6,x7,x8)) fun r=>match r with|.inl y=>some (.inl y)|.inr y=>some (.inr y))) (
   none )) (
  some (.inr ((x3,x2,x1,x6,x7,x8))))
noncomputable def sx (N:Nat):Nat→Cp→Option By
 | 0,_=>none
 | k+1,x=>ME N (sx N k) x
noncomputable def sF (N:Nat) (k:Nat):Cut:=K9.cut (sx N k)
theorem na (N:Nat) (k:Nat):al Tryz.prog false Tryz.f337 [0] 26 (sF N k) :=
 K9.loopT ag ap (kU N) Tryz.f337 [0] (cuts:=[]) trivial (by decide +kernel) (by kernel_rfl) (ME N) (sx N) (fun _=>rfl) (fun _ _=>rfl) (fun f x=>by kernel_rfl) k
@[reducible] def yM:LD:=⟨1018,[67,66,65,13,0,11],[(.ret,[8]),(.exit 2,[0,11])],⟨[.int .i64,.int .i64,.ro y4,.sl 1,.adr 0 [],.sl 2],[.var 221 (.agg [.sl 3,.int .i64,.int .i64]),.row y0 248,.row y0 248,.row (.int .u8) 5]⟩,[(.exit 2,⟨[.adr 0 [],.sl 1],[.var 221 (.agg [.sl 2,.int .i64,.int .i64]),.row y0 248,.row (.int .u8) 5]⟩)]⟩
abbrev ql:Type:=Int×Int×(List (Int×(Int×(Int×Unit))))×Int×Int×(List (Int×(Int×Unit)))×(List (Int×(Int×Unit)))×(List Int)
abbrev pX:Type:=Int×Int×(List (Int×(Int×Unit)))×(List Int)
noncomputable def zH (N:Nat) (f:ql→Option pX):ql→Option pX
 | (x0,x1,x2,x3,x4,x5,x6,x7) =>
 ac (decide (x0<x1)) (
  ac (within x0 (List.length x2)) (
   Option.bind (x2[Int.toNat x0]?) fun y0 =>
   ac (y0.2.1==(0:Int)) (
    ac (within y0.1 (List.length x6)) (
     Option.bind (x6[Int.toNat y0.1]?) fun y1 =>
     Option.bind (wR N (y1.1,y1.2.1,x3,x4,x7)) fun y2 =>
     Option.bind (f (IntKind.wrap IntKind.i64 (x0+(1:Int)),x1,x2,y2.1,y2.2.1,x5,x6,y2.2.2)) fun r=>some r) (
     none )) (
    Option.bind (W8 N y0.2.1) fun y3 =>
    ac (within y3.1 (List.length x6)) (
     Option.bind (x6[Int.toNat y3.1]?) fun y4 =>
     Option.bind (wR N (y4.1,y4.2.1,x3,x4,x7)) fun y5 =>
     Option.bind (eF N (y3.2.2,y3.2.1,y5.1,y5.2.1,y5.2.2)) fun y6 =>
     Option.bind (W7 N y0.2.2.1) fun y7 =>
     ac (within y7.1 (List.length x5)) (
      Option.bind (x5[Int.toNat y7.1]?) fun y8 =>
      Option.bind (wR N (y8.1,y8.2.1,y6.1,y6.2.1,y6.2.2)) fun y9 =>
      Option.bind (eF N (y7.2.2,y7.2.1,y9.1,y9.2.1,y9.2.2)) fun y10 =>
      Option.bind (f (IntKind.wrap IntKind.i64 (x0+(1:Int)),x1,x2,y10.1,y10.2.1,x5,x6,y10.2.2)) fun r=>some r) (
      none )) (
     none ))) (
   none )) (
  some ((x3,x4,x6,x7)))
noncomputable def lF (N:Nat):Nat→ql→Option pX
 | 0,_=>none
 | k+1,x=>zH N (lF N k) x
noncomputable def qA (N:Nat) (k:Nat):Cut:=yM.cut (lF N k)
theorem oK (N:Nat) (k:Nat):al Tryz.prog false Tryz.f337 [0] 1018 (qA N k) :=
 yM.loopT ag ap (kU N) Tryz.f337 [0] (cuts:=[(26,sF N N)]) ⟨na N N,trivial⟩ (by decide +kernel) (by kernel_rfl) (zH N) (lF N) (fun _=>rfl) (fun _ _=>rfl) (fun f x=>by kernel_rfl) k
@[reducible] def ES:LD:=⟨127,[3,13,0,11],[(.ret,[8]),(.normal,[8])],⟨[.ro y4,.sl 1,.adr 0 [],.sl 2],[.var 221 (.agg [.sl 3,.int .i64,.int .i64]),.row y0 248,.row y0 248,.row (.int .u8) 5]⟩,[(.ret,⟨[.int .i64],[.var 221 (.agg [.sl 1,.int .i64,.int .i64]),.row (.int .u8) 5]⟩)]⟩
noncomputable def vW (N:Nat):((List (Int×(Int×(Int×Unit))))×Int×Int×(List (Int×(Int×Unit)))×(List (Int×(Int×Unit)))×(List Int))→Option (Int×Int×Int×(List Int))
 | (x0,x1,x2,x3,x4,x5) =>
 Option.bind (lF N N ((0:Int),(↑(List.length x0):Int),x0,x1,x2,x3,x4,x5)) fun y0 =>
 ac (within (256:Int) (List.length y0.2.2.1)) (
  Option.bind (y0.2.2.1[(256:Nat)]?) fun y1 =>
  Option.bind (wR N (y1.1,y1.2.1,y0.1,y0.2.1,y0.2.2.2)) fun y2 =>
  some (((0:Int),y2.1,y2.2.1,y2.2.2))) (
  none )
noncomputable def Ge (N:Nat) (_:Nat):Cut:=ES.cut (vW N)
theorem Gc (N:Nat) (k:Nat):al Tryz.prog false Tryz.f337 [0] 127 (Ge N k) :=
 ES.pieceT ag ap (kU N) Tryz.f337 [0] (cuts:=[(26,sF N N),(1018,qA N N)]) ⟨na N N,oK N N,trivial⟩ (by decide +kernel) (by kernel_rfl) (vW N) (fun x=>by kernel_rfl)
@[reducible] def w337:List SP:=[⟨[.int .i64],[.var 221 (.agg [.sl 1,.int .i64,.int .i64]),.row (.int .u8) 5]⟩]
noncomputable def Xd (N:Nat):((List Int)×(List Int)×(List (Int×(Int×(Int×Unit))))×Int×Int×(List Int))→Option (Int×Int×Int×(List Int))
 | (x0,x1,x2,x3,x4,x5) =>
 Option.bind (sx N N ((↑(List.length x2):Int),x2,x1,x0,x2,(0:Int),x3,x4,x5)) fun y0 =>
 match y0 with
 | .inl y1 =>
  some ((y1.1,y1.2.1,y1.2.2.1,y1.2.2.2))
 | .inr (y1_0,y1_1,y1_2,y1_3,y1_4,y1_5) =>
  Option.bind (SL N y1_0) fun y2 =>
  Option.bind (SL N y1_1) fun y3 =>
  Option.bind (Xc N y1_2) fun y4 =>
  ac (y2.1 != (0:Int)) (
   some (((50:Int),y1_3,y1_4,y1_5))) (
   ac (y3.1 != (0:Int)) (
    some (((50:Int),y1_3,y1_4,y1_5))) (
    Option.bind (W9 N (y2.2,y4.1)) fun y5 =>
    ac (!y5) (
     some (((50:Int),y1_3,y1_4,y1_5))) (
     Option.bind (W9 N (y3.2,y4.2)) fun y6 =>
     ac (!y6) (
      some (((50:Int),y1_3,y1_4,y1_5))) (
      Option.bind (vW N (y1_2,y1_3,y1_4,y3.2,y2.2,y1_5)) fun y7 =>
      some ((y7.1,y7.2.1,y7.2.2.1,y7.2.2.2))))))
noncomputable def aB8 (N:Nat):Pk→Tr Pk:=ah s337 w337 (Xd N)
theorem VM (N:Nat):aA Tryz.prog (337) (aB8 N) :=
 (af ag ap (kU N) Tryz.func337 s337 w337 [0] (cuts:=[(26,sF N N),(1018,qA N N),(127,Ge N N)]) ⟨na N N,oK N N,Gc N N,trivial⟩ (fun _=>by kernel_rfl) (by decide +kernel) (Xd N) (fun x=>by kernel_rfl))
@[reducible] def y5:Ty:=(.cons (.int .i64) (.cons (.sl (.int .i64)) .unit))
@[reducible] def y6:Ty:=(.sl (.cons (.int .i64) (.cons (.sl (.int .i64)) .unit)))
@[reducible] def s388:SP:=⟨[.nilsl,.int .i64],[]⟩
noncomputable def Yf (N:Nat):List (Nat×(Pk→Tr Pk)):=[]
theorem MU (N:Nat):ai Tryz.prog (Yf N):=trivial
@[reducible] def w388:List SP:=[⟨[.slp 0 (.c 0) (.c 0)],[.row y5 391]⟩,⟨[.sl 0],[.row y5 391]⟩]
noncomputable def al2 (N:Nat):(Int)→Option ((((List (Int×((List Int)×Unit))))⊕((List (Int×((List Int)×Unit))))))
 | x0 =>
 ac (decide (x0<(0:Int))) (
  none ) (
  ac (decide (IntKind.wrap IntKind.i64 (x0-(0:Int))>(0:Int))) (
   ac (decide ((0:Int)<IntKind.wrap IntKind.i64 (x0-(0:Int))∧IntKind.wrap IntKind.i64 (x0-(0:Int))*(32:Int)≤(140737488355328:Int)∧IntKind.wrap IntKind.i64 (x0-(0:Int))≤(140737488355328:Int))) (
    ac (decide ((0:Int)≤(0:Int)∧(0:Int)≤(↑(List.length (List.replicate (Int.toNat (IntKind.wrap IntKind.i64 (x0-(0:Int)))) ((0:Int),aw1 (Ty.den (Ty.int IntKind.i64)),()))):Int))) (
     some (.inl (List.replicate (Int.toNat (IntKind.wrap IntKind.i64 (x0-(0:Int)))) ((0:Int),aw1 (Ty.den (Ty.int IntKind.i64)),())))) (
     none )) (
    none )) (
   some (.inr ([]))))
noncomputable def ay9 (N:Nat):Pk→Tr Pk:=tr (Ju (Ty.cons (Ty.int IntKind.i64) (Ty.cons (Ty.sl (Ty.int IntKind.i64)) (Ty.unit))) 391) (ah s388 w388 (al2 N))
theorem Vh (N:Nat):aA Tryz.prog (388) (ay9 N) :=
 jM (Dj _ _) (af ag ap (MU N) Tryz.func388 s388 w388 [] (cuts:=[]) trivial (fun _=>by kernel_rfl) (by decide +kernel) (al2 N) (fun x=>by kernel_rfl)) (by decide +kernel)
@[reducible] def s383:SP:=⟨[.sl 0],[.row y6 387]⟩
noncomputable def Yk (N:Nat):List (Nat×(Pk→Tr Pk)):=[(388,ay9 N)]
theorem oV (N:Nat):ai Tryz.prog (Yk N):=⟨Vh N,trivial⟩
@[reducible] def KP:LD:=⟨58,[3,11,10,0,9],[(.ret,[2]),(.exit 0,[3,0])],⟨[.int .i64,.int .i64,.int .i64,.sl 0,.sl 0],[.row y6 387]⟩,[(.exit 0,⟨[.int .i64,.sl 0],[.row y6 387]⟩)]⟩
abbrev BY:Type:=Int×Int×Int×(List (List (Int×((List Int)×Unit))))
abbrev Bg:Type:=Int×(List (List (Int×((List Int)×Unit))))
noncomputable def Mp (N:Nat) (f:BY→Option Bg):BY→Option Bg
 | (x0,x1,x2,x3) =>
 ac (decide (x1<x2)) (
  ac (within x1 (List.length x3)) (
   Option.bind (x3[Int.toNat x1]?) fun y0 =>
   ac (decide (IntKind.wrap IntKind.i64 (x0+(↑(List.length y0):Int))<(0:Int))) (
    none ) (
    Option.bind (f (IntKind.wrap IntKind.i64 (x0+(↑(List.length y0):Int)),IntKind.wrap IntKind.i64 (x1+(1:Int)),x2,x3)) fun r=>some r)) (
   none )) (
  some ((x0,x3)))
noncomputable def r7 (N:Nat):Nat→BY→Option Bg
 | 0,_=>none
 | k+1,x=>Mp N (r7 N k) x
noncomputable def C6 (N:Nat) (k:Nat):Cut:=KP.cut (r7 N k)
theorem wi (N:Nat) (k:Nat):al Tryz.prog false Tryz.f383 [] 58 (C6 N k) :=
 KP.loopT ag ap (oV N) Tryz.f383 [] (cuts:=[]) trivial (by decide +kernel) (by kernel_rfl) (Mp N) (r7 N) (fun _=>rfl) (fun _ _=>rfl) (fun f x=>by kernel_rfl) k
@[reducible] def EH:LD:=⟨250,[6,27,26,25],[(.ret,[2]),(.exit 2,[6])],⟨[.sl 0,.int .i64,.int .i64,.sl 1],[.row y5 391,.row y6 387]⟩,[(.exit 2,⟨[.sl 0],[.row y5 391]⟩)]⟩
abbrev u9:Type:=Int×Int×(List (Int×((List Int)×Unit)))×(List (List (Int×((List Int)×Unit))))
abbrev ut:Type:=(List (Int×((List Int)×Unit)))
noncomputable def GG (N:Nat) (f:u9→Option ut):u9→Option ut
 | (x0,x1,x2,x3) =>
 ac (decide (x0<x1)) (
  ac (within x0 (List.length x3)) (
   Option.bind (x3[Int.toNat x0]?) fun y0 =>
   ac (decide ((List.length x2+List.length y0)*(32:Nat)≤(140737488355328:Nat)∧List.length x2+List.length y0≤(140737488355328:Nat))) (
    Option.bind (f (IntKind.wrap IntKind.i64 (x0+(1:Int)),x1,x2++y0,x3)) fun r=>some r) (
    none )) (
   none )) (
  some (x2))
noncomputable def kq (N:Nat):Nat→u9→Option ut
 | 0,_=>none
 | k+1,x=>GG N (kq N k) x
noncomputable def FL (N:Nat) (k:Nat):Cut:=EH.cut (kq N k)
theorem FK (N:Nat) (k:Nat):al Tryz.prog false Tryz.f383 [] 250 (FL N k) :=
 EH.loopT ag ap (oV N) Tryz.f383 [] (cuts:=[(58,C6 N N)]) ⟨wi N N,trivial⟩ (by decide +kernel) (by kernel_rfl) (GG N) (kq N) (fun _=>rfl) (fun _ _=>rfl) (fun f x=>by kernel_rfl) k
@[reducible] def w383:List SP:=[⟨[.sl 0],[.row y5 391]⟩]
noncomputable def al5 (N:Nat):((List (List (Int×((List Int)×Unit)))))→Option ((List (Int×((List Int)×Unit))))
 | x0 =>
 Option.bind (r7 N N ((0:Int),(0:Int),(↑(List.length x0):Int),x0)) fun y0 =>
 Option.bind (al2 N y0.1) fun y1 =>
 match y1 with
 | .inl y2 =>
  Option.bind (kq N N ((0:Int),(↑(List.length y0.2):Int),[],y0.2)) fun y3 =>
  some (y3)
 | .inr y2 =>
  Option.bind (kq N N ((0:Int),(↑(List.length y0.2):Int),y2,y0.2)) fun y4 =>
  some (y4)
noncomputable def az3 (N:Nat):Pk→Tr Pk:=ah s383 w383 (al5 N)
theorem Vl (N:Nat):aA Tryz.prog (383) (az3 N) :=
 (af ag ap (oV N) Tryz.func383 s383 w383 [] (cuts:=[(58,C6 N N),(250,FL N N)]) ⟨wi N N,FK N N,trivial⟩ (fun _=>by kernel_rfl) (by decide +kernel) (al5 N) (fun x=>by kernel_rfl))
@[reducible] def s390:SP:=⟨[.int .i64],[]⟩
noncomputable def Yd (N:Nat):List (Nat×(Pk→Tr Pk)):=[]
theorem MS (N:Nat):ai Tryz.prog (Yd N):=trivial
@[reducible] def w390:List SP:=[⟨[.bool],[]⟩]
noncomputable def WV (N:Nat):(Int)→Option (Bool)
 | x0 =>
 some (x0 != x0)
noncomputable def ay7 (N:Nat):Pk→Tr Pk:=ah s390 w390 (WV N)
theorem Vf (N:Nat):aA Tryz.prog (390) (ay7 N) :=
 (af ag ap (MS N) Tryz.func390 s390 w390 [] (cuts:=[]) trivial (fun _=>by kernel_rfl) (by decide +kernel) (WV N) (fun x=>by kernel_rfl))
@[reducible] def s386:SP:=⟨[.int .i64,.int .i64],[]⟩
noncomputable def Yh (N:Nat):List (Nat×(Pk→Tr Pk)):=[(390,ay7 N)]
theorem MW (N:Nat):ai Tryz.prog (Yh N):=⟨Vf N,trivial⟩
@[reducible] def w386:List SP:=[⟨[.int .i64],[]⟩]
noncomputable def al3 (N:Nat):(Int×Int)→Option (Int)
 | (x0,x1) =>
 Option.bind (WV N x0) fun y0 =>
 Option.bind (WV N x1) fun y1 =>
 ac (y0) (
  ac (y1) (
   some ((0:Int))) (
   some ((-1:Int)))) (
  ac (y1) (
   some ((1:Int))) (
   ac (decide (x0<x1)) (
    some ((-1:Int))) (
    ac (decide (x0>x1)) (
     some ((1:Int))) (
     some ((0:Int))))))
noncomputable def az1 (N:Nat):Pk→Tr Pk:=ah s386 w386 (al3 N)
theorem Vj (N:Nat):aA Tryz.prog (386) (az1 N) :=
 (af ag ap (MW N) Tryz.func386 s386 w386 [] (cuts:=[]) trivial (fun _=>by kernel_rfl) (by decide +kernel) (al3 N) (fun x=>by kernel_rfl))
@[reducible] def s385:SP:=⟨[.agg [.int .i64,.ro (.int .i64)],.agg [.int .i64,.ro (.int .i64)]],[]⟩
noncomputable def Yi (N:Nat):List (Nat×(Pk→Tr Pk)):=[(386,az1 N)]
theorem MX (N:Nat):ai Tryz.prog (Yi N):=⟨Vj N,trivial⟩
@[reducible] def w385:List SP:=[⟨[.int .i64],[]⟩]
noncomputable def OY (N:Nat):(Int×(List Int)×Int×(List Int))→Option (Int)
 | (x0,x1,x2,x3) =>
 Option.bind (al3 N (x0,x2)) fun y0 =>
 some (y0)
noncomputable def ah1 (N:Nat):Pk→Tr Pk:=ah s385 w385 (OY N)
theorem Kc (N:Nat):aA Tryz.prog (385) (ah1 N) :=
 (af ag ap (MX N) Tryz.func385 s385 w385 [] (cuts:=[]) trivial (fun _=>by kernel_rfl) (by decide +kernel) (OY N) (fun x=>by kernel_rfl))
@[reducible] def s391:SP:=⟨[.slp 0 .h .h,.int .i64,.int .i64,.fn 385],[.row y5 391]⟩
noncomputable def Yc (N:Nat):List (Nat×(Pk→Tr Pk)):=[(385,ah1 N)]
theorem oU (N:Nat):ai Tryz.prog (Yc N):=⟨Kc N,trivial⟩
@[reducible] def EG:LD:=⟨402,[9,3,1,2,8,0],[(.exit 2,[8,2,1,3,0]),(.exit 1,[8,2,1,3,0])],⟨[.int .i64,.fn 385,.int .i64,.int .i64,.int .i64,.slp 0 .h .h],[.row y5 391]⟩,[(.exit 2,⟨[.int .i64,.int .i64,.int .i64,.fn 385,.slp 0 .h .h],[.row y5 391]⟩)]⟩
abbrev u6:Type:=Int×Int×Int×Int×Nat×Nat×(List (Int×((List Int)×Unit)))
abbrev uo:Type:=Int×Int×Int×Nat×Nat×(List (Int×((List Int)×Unit)))
noncomputable def GF (N:Nat) (f:u6→Option uo):u6→Option uo
 | (x0,x1,x2,x3,x4,x5,x6) =>
 ac (decide (x0>x1)) (
  ac (within x0 x5) (
   Option.bind (x6[x4+Int.toNat x0]?) fun y0 =>
   ac (within (IntKind.wrap IntKind.i64 (x0-(1:Int))) x5) (
    Option.bind (x6[x4+Int.toNat (IntKind.wrap IntKind.i64 (x0-(1:Int)))]?) fun y1 =>
    Option.bind (OY N (y0.1,y0.2.1,y1.1,y1.2.1)) fun y2 =>
    ac (decide (y2<(0:Int))) (
     ac (within (IntKind.wrap IntKind.i64 (x0-(1:Int))) x5) (
      Option.bind (x6[x4+Int.toNat (IntKind.wrap IntKind.i64 (x0-(1:Int)))]?) fun y3 =>
      ac (within x0 x5) (
       Option.bind (x6[x4+Int.toNat x0]?) fun y4 =>
       ac (within x0 x5) (
        Option.bind (x6[x4+Int.toNat x0]?) fun y5 =>
        ac (within (IntKind.wrap IntKind.i64 (x0-(1:Int))) x5) (
         Option.bind ((List.set x6 (x4+Int.toNat x0) (y3.1,y3.2.1,()))[x4+Int.toNat (IntKind.wrap IntKind.i64 (x0-(1:Int)))]?) fun y6 =>
         Option.bind (f (IntKind.wrap IntKind.i64 (x0-(1:Int)),x1,x2,x3,x4,x5,List.set (List.set x6 (x4+Int.toNat x0) (y3.1,y3.2.1,())) (x4+Int.toNat (IntKind.wrap IntKind.i64 (x0-(1:Int)))) (y4.1,y4.2.1,()))) fun r=>some r) (
         none )) (
        none )) (
       none )) (
      none )) (
     some ((x3,x2,x1,x4,x5,x6)))) (
    none )) (
   none )) (
  some ((x3,x2,x1,x4,x5,x6)))
noncomputable def od (N:Nat):Nat→u6→Option uo
 | 0,_=>none
 | k+1,x=>GF N (od N k) x
noncomputable def wh (N:Nat) (k:Nat):Cut:=EG.cut (od N k)
theorem re (N:Nat) (k:Nat):al Tryz.prog false Tryz.f391 [0] 402 (wh N k) :=
 EG.loopT ag ap (oU N) Tryz.f391 [0] (cuts:=[]) trivial (by decide +kernel) (by kernel_rfl) (GF N) (od N) (fun _=>rfl) (fun _ _=>rfl) (fun f x=>by kernel_rfl) k
@[reducible] def Sm:LD:=⟨6,[2,1,3,8,0],[(.exit 0,[])],⟨[.int .i64,.int .i64,.fn 385,.int .i64,.slp 0 .h .h],[.row y5 391]⟩,[(.exit 0,⟨[],[.row y5 391]⟩)]⟩
abbrev Is:Type:=Int×Int×Int×Nat×Nat×(List (Int×((List Int)×Unit)))
abbrev Ie:Type:=(List (Int×((List Int)×Unit)))
noncomputable def TM (N:Nat) (f:Is→Option Ie):Is→Option Ie
 | (x0,x1,x2,x3,x4,x5) =>
 ac (decide (x2<x0)) (
  Option.bind (od N N (x2,x1,x0,x2,x3,x4,x5)) fun(y0_0,y0_1,y0_2,y0_3,y0_4,y0_5) =>
  Option.bind (f (y0_1,y0_2,IntKind.wrap IntKind.i64 (y0_0+(1:Int)),y0_3,y0_4,y0_5)) fun r=>some r) (
  some (x5))
noncomputable def CR (N:Nat):Nat→Is→Option Ie
 | 0,_=>none
 | k+1,x=>TM N (CR N k) x
noncomputable def TD (N:Nat) (k:Nat):Cut:=Sm.cut (CR N k)
theorem Pt (N:Nat) (k:Nat):al Tryz.prog false Tryz.f391 [0] 6 (TD N k) :=
 Sm.loopT ag ap (oU N) Tryz.f391 [0] (cuts:=[(402,wh N N)]) ⟨re N N,trivial⟩ (by decide +kernel) (by kernel_rfl) (TM N) (CR N) (fun _=>rfl) (fun _ _=>rfl) (fun f x=>by kernel_rfl) k
@[reducible] def w391:List SP:=[⟨[.tup []],[.row y5 391]⟩]
noncomputable def WU (N:Nat):(Nat×Nat×Int×Int×(List (Int×((List Int)×Unit))))→Option ((List (Int×((List Int)×Unit))))
 | (x0,x1,x2,x3,x4) =>
 Option.bind (CR N N (x3,x2,IntKind.wrap IntKind.i64 (x2+(1:Int)),x0,x1,x4)) fun y0 =>
 some (y0)
noncomputable def ay6 (N:Nat):Pk→Tr Pk:=ah s391 w391 (WU N)
theorem Ve (N:Nat):aA Tryz.prog (391) (ay6 N) :=
 (af ag ap (oU N) Tryz.func391 s391 w391 [0] (cuts:=[(402,wh N N),(6,TD N N)]) ⟨re N N,Pt N N,trivial⟩ (fun _=>by kernel_rfl) (by decide +kernel) (WU N) (fun x=>by kernel_rfl))
@[reducible] def s394:SP:=⟨[.slp 0 .h .h,.int .i64,.int .i64,.int .i64,.fn 385],[.row y5 391]⟩
noncomputable def X9 (N:Nat):List (Nat×(Pk→Tr Pk)):=[]
theorem wZ (N:Nat):ai Tryz.prog (X9 N):=trivial
@[reducible] def Sl:LD:=⟨6,[10,3,2,0,1],[(.exit 0,[])],⟨[.int .i64,.int .i64,.int .i64,.slp 0 .h .h,.int .i64],[.row y5 391]⟩,[(.exit 0,⟨[],[.row y5 391]⟩)]⟩
abbrev Ir:Type:=Int×Int×Int×Nat×Nat×Int×(List (Int×((List Int)×Unit)))
abbrev Ic:Type:=(List (Int×((List Int)×Unit)))
noncomputable def TL (N:Nat) (f:Ir→Option Ic):Ir→Option Ic
 | (x0,x1,x2,x3,x4,x5,x6) =>
 ac (decide (x0<x1)) (
  ac (within (IntKind.wrap IntKind.i64 (x2+x0)) x4) (
   Option.bind (x6[x3+Int.toNat (IntKind.wrap IntKind.i64 (x2+x0))]?) fun y0 =>
   ac (within (IntKind.wrap IntKind.i64 (x5+x0)) x4) (
    Option.bind (x6[x3+Int.toNat (IntKind.wrap IntKind.i64 (x5+x0))]?) fun y1 =>
    ac (within (IntKind.wrap IntKind.i64 (x5+x0)) x4) (
     Option.bind (x6[x3+Int.toNat (IntKind.wrap IntKind.i64 (x5+x0))]?) fun y2 =>
     ac (within (IntKind.wrap IntKind.i64 (x2+x0)) x4) (
      Option.bind ((List.set x6 (x3+Int.toNat (IntKind.wrap IntKind.i64 (x5+x0))) (y0.1,y0.2.1,()))[x3+Int.toNat (IntKind.wrap IntKind.i64 (x2+x0))]?) fun y3 =>
      Option.bind (f (IntKind.wrap IntKind.i64 (x0+(1:Int)),x1,x2,x3,x4,x5,List.set (List.set x6 (x3+Int.toNat (IntKind.wrap IntKind.i64 (x5+x0))) (y0.1,y0.2.1,())) (x3+Int.toNat (IntKind.wrap IntKind.i64 (x2+x0))) (y1.1,y1.2.1,()))) fun r=>some r) (
      none )) (
     none )) (
    none )) (
   none )) (
  some (x6))
noncomputable def CQ (N:Nat):Nat→Ir→Option Ic
 | 0,_=>none
 | k+1,x=>TL N (CQ N k) x
noncomputable def TC (N:Nat) (k:Nat):Cut:=Sl.cut (CQ N k)
theorem Ps (N:Nat) (k:Nat):al Tryz.prog false Tryz.f394 [0] 6 (TC N k) :=
 Sl.loopT ag ap (wZ N) Tryz.f394 [0] (cuts:=[]) trivial (by decide +kernel) (by kernel_rfl) (TL N) (CQ N) (fun _=>rfl) (fun _ _=>rfl) (fun f x=>by kernel_rfl) k
@[reducible] def w394:List SP:=[⟨[.tup []],[.row y5 391]⟩]
noncomputable def SE (N:Nat):(Nat×Nat×Int×Int×Int×(List (Int×((List Int)×Unit))))→Option ((List (Int×((List Int)×Unit))))
 | (x0,x1,x2,x3,x4,x5) =>
 Option.bind (CQ N N ((0:Int),x4,x3,x0,x1,x2,x5)) fun y0 =>
 some (y0)
noncomputable def ay3 (N:Nat):Pk→Tr Pk:=ah s394 w394 (SE N)
theorem Va (N:Nat):aA Tryz.prog (394) (ay3 N) :=
 (af ag ap (wZ N) Tryz.func394 s394 w394 [0] (cuts:=[(6,TC N N)]) ⟨Ps N N,trivial⟩ (fun _=>by kernel_rfl) (by decide +kernel) (SE N) (fun x=>by kernel_rfl))
@[reducible] def s393:SP:=⟨[.slp 0 .h .h,.int .i64,.int .i64,.int .i64,.fn 385],[.row y5 391]⟩
noncomputable def Ya (N:Nat):List (Nat×(Pk→Tr Pk)):=[(394,ay3 N)]
theorem xa (N:Nat):ai Tryz.prog (Ya N):=⟨Va N,trivial⟩
@[reducible] def KM:LD:=⟨28,[10,0,2,4,11],[(.exit 0,[0,2,10,4])],⟨[.int .i64,.slp 0 .h .h,.int .i64,.fn 385,.int .i64],[.row y5 391]⟩,[(.exit 0,⟨[.slp 0 .h .h,.int .i64,.int .i64,.fn 385],[.row y5 391]⟩)]⟩
abbrev BU:Type:=Int×Nat×Nat×Int×Int×(List (Int×((List Int)×Unit)))
abbrev Bc:Type:=Nat×Nat×Int×Int×(List (Int×((List Int)×Unit)))
noncomputable def Mm (N:Nat) (f:BU→Option Bc):BU→Option Bc
 | (x0,x1,x2,x3,x4,x5) =>
 ac (x0 != x4) (
  ac (decide (x0>x4)) (
   Option.bind (SE N (x1,x2,IntKind.wrap IntKind.i64 (x3-x0),x3,x4,x5)) fun y0 =>
   Option.bind (f (IntKind.wrap IntKind.i64 (x0-x4),x1,x2,x3,x4,y0)) fun r=>some r) (
   Option.bind (SE N (x1,x2,IntKind.wrap IntKind.i64 (x3-x0),IntKind.wrap IntKind.i64 (IntKind.wrap IntKind.i64 (x3+x4)-x0),x0,x5)) fun y1 =>
   Option.bind (f (x0,x1,x2,x3,IntKind.wrap IntKind.i64 (x4-x0),y1)) fun r=>some r)) (
  some ((x1,x2,x3,x0,x5)))
noncomputable def rZ (N:Nat):Nat→BU→Option Bc
 | 0,_=>none
 | k+1,x=>Mm N (rZ N k) x
noncomputable def LB (N:Nat) (k:Nat):Cut:=KM.cut (rZ N k)
theorem IV (N:Nat) (k:Nat):al Tryz.prog false Tryz.f393 [0] 28 (LB N k) :=
 KM.loopT ag ap (xa N) Tryz.f393 [0] (cuts:=[]) trivial (by decide +kernel) (by kernel_rfl) (Mm N) (rZ N) (fun _=>rfl) (fun _ _=>rfl) (fun f x=>by kernel_rfl) k
@[reducible] def w393:List SP:=[⟨[.tup []],[.row y5 391]⟩]
noncomputable def ak9 (N:Nat):(Nat×Nat×Int×Int×Int×(List (Int×((List Int)×Unit))))→Option ((List (Int×((List Int)×Unit))))
 | (x0,x1,x2,x3,x4,x5) =>
 Option.bind (rZ N N (IntKind.wrap IntKind.i64 (x3-x2),x0,x1,x3,IntKind.wrap IntKind.i64 (x4-x3),x5)) fun y0 =>
 Option.bind (SE N (y0.1,y0.2.1,IntKind.wrap IntKind.i64 (y0.2.2.1-y0.2.2.2.1),y0.2.2.1,y0.2.2.2.1,y0.2.2.2.2)) fun y1 =>
 some (y1)
noncomputable def ay4 (N:Nat):Pk→Tr Pk:=ah s393 w393 (ak9 N)
theorem Vb (N:Nat):aA Tryz.prog (393) (ay4 N) :=
 (af ag ap (xa N) Tryz.func393 s393 w393 [0] (cuts:=[(28,LB N N)]) ⟨IV N N,trivial⟩ (fun _=>by kernel_rfl) (by decide +kernel) (ak9 N) (fun x=>by kernel_rfl))
@[reducible] def s392:SP:=⟨[.slp 0 .h .h,.int .i64,.int .i64,.int .i64,.fn 385],[.row y5 391]⟩
@[reducible] def w392:List SP:=[⟨[.tup []],[.row (.cons (.int .i64) (.cons (.sl (.int .i64)) .unit)) 391]⟩]
noncomputable def Yb (N:Nat) (G:(Nat×Nat×Int×Int×Int×(List (Int×((List Int)×Unit))))→Option ((List (Int×((List Int)×Unit))))):List (Nat×(Pk→Tr Pk)):=[(392,ah s392 w392 G),(385,ah1 N),(393,ay4 N)]
theorem cv (N:Nat) (G:(Nat×Nat×Int×Int×Int×(List (Int×((List Int)×Unit))))→Option ((List (Int×((List Int)×Unit))))) (hG:aA Tryz.prog 392 (ah s392 w392 G)):ai Tryz.prog (Yb N G):=⟨hG,Kc N,Vb N,trivial⟩
@[reducible] def EE:LD:=⟨172,[10,11,4,0,1],[(.exit 0,[1,10,0])],⟨[.int .i64,.int .i64,.fn 385,.slp 0 .h .h,.int .i64],[.row y5 391]⟩,[(.exit 0,⟨[.int .i64,.int .i64,.slp 0 .h .h],[.row y5 391]⟩)]⟩
abbrev u5:Type:=Int×Int×Nat×Nat×Int×(List (Int×((List Int)×Unit)))
abbrev un:Type:=Int×Int×Nat×Nat×(List (Int×((List Int)×Unit)))
noncomputable def GD (N:Nat) (G:(Nat×Nat×Int×Int×Int×(List (Int×((List Int)×Unit))))→Option ((List (Int×((List Int)×Unit))))) (f:u5→Option un):u5→Option un
 | (x0,x1,x2,x3,x4,x5) =>
 ac (decide (x0<x1)) (
  ac (within (IntKind.wrap IntKind.i64 (Int.fdiv (IntKind.wrap IntKind.u64 (IntKind.wrap IntKind.i64 (x0+x1))) (2:Int))) x3) (
   Option.bind (x5[x2+Int.toNat (IntKind.wrap IntKind.i64 (Int.fdiv (IntKind.wrap IntKind.u64 (IntKind.wrap IntKind.i64 (x0+x1))) (2:Int)))]?) fun y0 =>
   ac (within x4 x3) (
    Option.bind (x5[x2+Int.toNat x4]?) fun y1 =>
    Option.bind (OY N (y0.1,y0.2.1,y1.1,y1.2.1)) fun y2 =>
    ac (decide (y2<(0:Int))) (
     Option.bind (f (IntKind.wrap IntKind.i64 (IntKind.wrap IntKind.i64 (Int.fdiv (IntKind.wrap IntKind.u64 (IntKind.wrap IntKind.i64 (x0+x1))) (2:Int))+(1:Int)),x1,x2,x3,x4,x5)) fun r=>some r) (
     Option.bind (f (x0,IntKind.wrap IntKind.i64 (Int.fdiv (IntKind.wrap IntKind.u64 (IntKind.wrap IntKind.i64 (x0+x1))) (2:Int)),x2,x3,x4,x5)) fun r=>some r)) (
    none )) (
   none )) (
  some ((x4,x0,x2,x3,x5)))
noncomputable def nZ (N:Nat) (G:(Nat×Nat×Int×Int×Int×(List (Int×((List Int)×Unit))))→Option ((List (Int×((List Int)×Unit))))):Nat→u5→Option un
 | 0,_=>none
 | k+1,x=>GD N G (nZ N G k) x
noncomputable def dy (N:Nat) (G:(Nat×Nat×Int×Int×Int×(List (Int×((List Int)×Unit))))→Option ((List (Int×((List Int)×Unit))))) (k:Nat):Cut:=EE.cut (nZ N G k)
theorem bS (N:Nat) (G:(Nat×Nat×Int×Int×Int×(List (Int×((List Int)×Unit))))→Option ((List (Int×((List Int)×Unit))))) (hG:aA Tryz.prog 392 (ah s392 w392 G)) (k:Nat):al Tryz.prog false Tryz.f392 [0] 172 (dy N G k) :=
 EE.loopT ag ap (cv N G hG) Tryz.f392 [0] (cuts:=[]) trivial (by decide +kernel) (by kernel_rfl) (GD N G) (nZ N G) (fun _=>rfl) (fun _ _=>rfl) (fun f x=>by kernel_rfl) k
@[reducible] def EC:LD:=⟨698,[13,10,0],[(.exit 2,[])],⟨[.int .i64,.int .i64,.slp 0 .h .h],[.row y5 391]⟩,[(.exit 2,⟨[],[.row y5 391]⟩)]⟩
abbrev uY:Type:=Int×Int×Nat×Nat×(List (Int×((List Int)×Unit)))
abbrev ul:Type:=(List (Int×((List Int)×Unit)))
noncomputable def GB (N:Nat) (G:(Nat×Nat×Int×Int×Int×(List (Int×((List Int)×Unit))))→Option ((List (Int×((List Int)×Unit))))) (f:uY→Option ul):uY→Option ul
 | (x0,x1,x2,x3,x4) =>
 ac (decide (x0<IntKind.wrap IntKind.i64 (x1-(1:Int)))) (
  ac (within (IntKind.wrap IntKind.i64 (x0+(1:Int))) x3) (
   Option.bind (x4[x2+Int.toNat (IntKind.wrap IntKind.i64 (x0+(1:Int)))]?) fun y0 =>
   ac (within x0 x3) (
    Option.bind (x4[x2+Int.toNat x0]?) fun y1 =>
    ac (within x0 x3) (
     Option.bind (x4[x2+Int.toNat x0]?) fun y2 =>
     ac (within (IntKind.wrap IntKind.i64 (x0+(1:Int))) x3) (
      Option.bind ((List.set x4 (x2+Int.toNat x0) (y0.1,y0.2.1,()))[x2+Int.toNat (IntKind.wrap IntKind.i64 (x0+(1:Int)))]?) fun y3 =>
      Option.bind (f (IntKind.wrap IntKind.i64 (x0+(1:Int)),x1,x2,x3,List.set (List.set x4 (x2+Int.toNat x0) (y0.1,y0.2.1,())) (x2+Int.toNat (IntKind.wrap IntKind.i64 (x0+(1:Int)))) (y1.1,y1.2.1,()))) fun r=>some r) (
      none )) (
     none )) (
    none )) (
   none )) (
  some (x4))
noncomputable def nX (N:Nat) (G:(Nat×Nat×Int×Int×Int×(List (Int×((List Int)×Unit))))→Option ((List (Int×((List Int)×Unit))))):Nat→uY→Option ul
 | 0,_=>none
 | k+1,x=>GB N G (nX N G k) x
noncomputable def eh (N:Nat) (G:(Nat×Nat×Int×Int×Int×(List (Int×((List Int)×Unit))))→Option ((List (Int×((List Int)×Unit))))) (k:Nat):Cut:=EC.cut (nX N G k)
theorem cu (N:Nat) (G:(Nat×Nat×Int×Int×Int×(List (Int×((List Int)×Unit))))→Option ((List (Int×((List Int)×Unit))))) (hG:aA Tryz.prog 392 (ah s392 w392 G)) (k:Nat):al Tryz.prog false Tryz.f392 [0] 698 (eh N G k) :=
 EC.loopT ag ap (cv N G hG) Tryz.f392 [0] (cuts:=[(172,dy N G N)]) ⟨bS N G hG N,trivial⟩ (by decide +kernel) (by kernel_rfl) (GB N G) (nX N G) (fun _=>rfl) (fun _ _=>rfl) (fun f x=>by kernel_rfl) k
@[reducible] def ED:LD:=⟨428,[14,15,4,2,0],[(.exit 4,[2,14,0])],⟨[.int .i64,.int .i64,.fn 385,.int .i64,.slp 0 .h .h],[.row y5 391]⟩,[(.exit 4,⟨[.int .i64,.int .i64,.slp 0 .h .h],[.row y5 391]⟩)]⟩
abbrev uZ:Type:=Int×Int×Int×Nat×Nat×(List (Int×((List Int)×Unit)))
abbrev um:Type:=Int×Int×Nat×Nat×(List (Int×((List Int)×Unit)))
noncomputable def GC (N:Nat) (G:(Nat×Nat×Int×Int×Int×(List (Int×((List Int)×Unit))))→Option ((List (Int×((List Int)×Unit))))) (f:uZ→Option um):uZ→Option um
 | (x0,x1,x2,x3,x4,x5) =>
 ac (decide (x0<x1)) (
  ac (within x2 x4) (
   Option.bind (x5[x3+Int.toNat x2]?) fun y0 =>
   ac (within (IntKind.wrap IntKind.i64 (Int.fdiv (IntKind.wrap IntKind.u64 (IntKind.wrap IntKind.i64 (x0+x1))) (2:Int))) x4) (
    Option.bind (x5[x3+Int.toNat (IntKind.wrap IntKind.i64 (Int.fdiv (IntKind.wrap IntKind.u64 (IntKind.wrap IntKind.i64 (x0+x1))) (2:Int)))]?) fun y1 =>
    Option.bind (OY N (y0.1,y0.2.1,y1.1,y1.2.1)) fun y2 =>
    ac (!decide (y2<(0:Int))) (
     Option.bind (f (IntKind.wrap IntKind.i64 (IntKind.wrap IntKind.i64 (Int.fdiv (IntKind.wrap IntKind.u64 (IntKind.wrap IntKind.i64 (x0+x1))) (2:Int))+(1:Int)),x1,x2,x3,x4,x5)) fun r=>some r) (
     Option.bind (f (x0,IntKind.wrap IntKind.i64 (Int.fdiv (IntKind.wrap IntKind.u64 (IntKind.wrap IntKind.i64 (x0+x1))) (2:Int)),x2,x3,x4,x5)) fun r=>some r)) (
    none )) (
   none )) (
  some ((x2,x0,x3,x4,x5)))
noncomputable def nY (N:Nat) (G:(Nat×Nat×Int×Int×Int×(List (Int×((List Int)×Unit))))→Option ((List (Int×((List Int)×Unit))))):Nat→uZ→Option um
 | 0,_=>none
 | k+1,x=>GC N G (nY N G k) x
noncomputable def fF (N:Nat) (G:(Nat×Nat×Int×Int×Int×(List (Int×((List Int)×Unit))))→Option ((List (Int×((List Int)×Unit))))) (k:Nat):Cut:=ED.cut (nY N G k)
theorem dc (N:Nat) (G:(Nat×Nat×Int×Int×Int×(List (Int×((List Int)×Unit))))→Option ((List (Int×((List Int)×Unit))))) (hG:aA Tryz.prog 392 (ah s392 w392 G)) (k:Nat):al Tryz.prog false Tryz.f392 [0] 428 (fF N G k) :=
 ED.loopT ag ap (cv N G hG) Tryz.f392 [0] (cuts:=[(172,dy N G N),(698,eh N G N)]) ⟨bS N G hG N,cu N G hG N,trivial⟩ (by decide +kernel) (by kernel_rfl) (GC N G) (nY N G) (fun _=>rfl) (fun _ _=>rfl) (fun f x=>by kernel_rfl) k
@[reducible] def yC:LD:=⟨1722,[17,14,0],[(.exit 6,[])],⟨[.int .i64,.int .i64,.slp 0 .h .h],[.row y5 391]⟩,[(.exit 6,⟨[],[.row y5 391]⟩)]⟩
abbrev p9:Type:=Int×Int×Nat×Nat×(List (Int×((List Int)×Unit)))
abbrev pL:Type:=(List (Int×((List Int)×Unit)))
noncomputable def zw (N:Nat) (G:(Nat×Nat×Int×Int×Int×(List (Int×((List Int)×Unit))))→Option ((List (Int×((List Int)×Unit))))) (f:p9→Option pL):p9→Option pL
 | (x0,x1,x2,x3,x4) =>
 ac (decide (x0>x1)) (
  ac (within (IntKind.wrap IntKind.i64 (x0-(1:Int))) x3) (
   Option.bind (x4[x2+Int.toNat (IntKind.wrap IntKind.i64 (x0-(1:Int)))]?) fun y0 =>
   ac (within x0 x3) (
    Option.bind (x4[x2+Int.toNat x0]?) fun y1 =>
    ac (within x0 x3) (
     Option.bind (x4[x2+Int.toNat x0]?) fun y2 =>
     ac (within (IntKind.wrap IntKind.i64 (x0-(1:Int))) x3) (
      Option.bind ((List.set x4 (x2+Int.toNat x0) (y0.1,y0.2.1,()))[x2+Int.toNat (IntKind.wrap IntKind.i64 (x0-(1:Int)))]?) fun y3 =>
      Option.bind (f (IntKind.wrap IntKind.i64 (x0-(1:Int)),x1,x2,x3,List.set (List.set x4 (x2+Int.toNat x0) (y0.1,y0.2.1,())) (x2+Int.toNat (IntKind.wrap IntKind.i64 (x0-(1:Int)))) (y1.1,y1.2.1,()))) fun r=>some r) (
      none )) (
     none )) (
    none )) (
   none )) (
  some (x4))
noncomputable def lu (N:Nat) (G:(Nat×Nat×Int×Int×Int×(List (Int×((List Int)×Unit))))→Option ((List (Int×((List Int)×Unit))))):Nat→p9→Option pL
 | 0,_=>none
 | k+1,x=>zw N G (lu N G k) x
noncomputable def eV (N:Nat) (G:(Nat×Nat×Int×Int×Int×(List (Int×((List Int)×Unit))))→Option ((List (Int×((List Int)×Unit))))) (k:Nat):Cut:=yC.cut (lu N G k)
theorem dx (N:Nat) (G:(Nat×Nat×Int×Int×Int×(List (Int×((List Int)×Unit))))→Option ((List (Int×((List Int)×Unit))))) (hG:aA Tryz.prog 392 (ah s392 w392 G)) (k:Nat):al Tryz.prog false Tryz.f392 [0] 1722 (eV N G k) :=
 yC.loopT ag ap (cv N G hG) Tryz.f392 [0] (cuts:=[(172,dy N G N),(698,eh N G N),(428,fF N G N)]) ⟨bS N G hG N,cu N G hG N,dc N G hG N,trivial⟩ (by decide +kernel) (by kernel_rfl) (zw N G) (lu N G) (fun _=>rfl) (fun _ _=>rfl) (fun f x=>by kernel_rfl) k
@[reducible] def yD:LD:=⟨1020,[20,3,18,1,2,19,21,4,22,0],[(.exit 8,[19,2,1,20,0,18,3,4])],⟨[.int .i64,.int .i64,.int .i64,.int .i64,.int .i64,.int .i64,.int .i64,.fn 385,.int .i64,.slp 0 .h .h],[.row y5 391]⟩,[(.exit 8,⟨[.int .i64,.int .i64,.int .i64,.int .i64,.slp 0 .h .h,.int .i64,.int .i64,.fn 385],[.row y5 391]⟩)]⟩
abbrev qb:Type:=Int×Int×Int×Int×Int×Int×Int×Int×Nat×Nat×(List (Int×((List Int)×Unit)))
abbrev pM:Type:=Int×Int×Int×Int×Nat×Nat×Int×Int×(List (Int×((List Int)×Unit)))
noncomputable def zx (N:Nat) (G:(Nat×Nat×Int×Int×Int×(List (Int×((List Int)×Unit))))→Option ((List (Int×((List Int)×Unit))))) (f:qb→Option pM):qb→Option pM
 | (x0,x1,x2,x3,x4,x5,x6,x7,x8,x9,x10) =>
 ac (decide (x0<x6)) (
  ac (within (IntKind.wrap IntKind.i64 (x7-IntKind.wrap IntKind.i64 (Int.fdiv (IntKind.wrap IntKind.u64 (IntKind.wrap IntKind.i64 (x0+x6))) (2:Int)))) x9) (
   Option.bind (x10[x8+Int.toNat (IntKind.wrap IntKind.i64 (x7-IntKind.wrap IntKind.i64 (Int.fdiv (IntKind.wrap IntKind.u64 (IntKind.wrap IntKind.i64 (x0+x6))) (2:Int))))]?) fun y0 =>
   ac (within (IntKind.wrap IntKind.i64 (Int.fdiv (IntKind.wrap IntKind.u64 (IntKind.wrap IntKind.i64 (x0+x6))) (2:Int))) x9) (
    Option.bind (x10[x8+Int.toNat (IntKind.wrap IntKind.i64 (Int.fdiv (IntKind.wrap IntKind.u64 (IntKind.wrap IntKind.i64 (x0+x6))) (2:Int)))]?) fun y1 =>
    Option.bind (OY N (y0.1,y0.2.1,y1.1,y1.2.1)) fun y2 =>
    ac (!decide (y2<(0:Int))) (
     Option.bind (f (IntKind.wrap IntKind.i64 (IntKind.wrap IntKind.i64 (Int.fdiv (IntKind.wrap IntKind.u64 (IntKind.wrap IntKind.i64 (x0+x6))) (2:Int))+(1:Int)),x1,x2,x3,x4,x5,x6,x7,x8,x9,x10)) fun r=>some r) (
     Option.bind (f (x0,x1,x2,x3,x4,x5,IntKind.wrap IntKind.i64 (Int.fdiv (IntKind.wrap IntKind.u64 (IntKind.wrap IntKind.i64 (x0+x6))) (2:Int)),x7,x8,x9,x10)) fun r=>some r)) (
    none )) (
   none )) (
  some ((x5,x4,x3,x0,x8,x9,x2,x1,x10)))
noncomputable def lw (N:Nat) (G:(Nat×Nat×Int×Int×Int×(List (Int×((List Int)×Unit))))→Option ((List (Int×((List Int)×Unit))))):Nat→qb→Option pM
 | 0,_=>none
 | k+1,x=>zx N G (lw N G k) x
noncomputable def ie (N:Nat) (G:(Nat×Nat×Int×Int×Int×(List (Int×((List Int)×Unit))))→Option ((List (Int×((List Int)×Unit))))) (k:Nat):Cut:=yD.cut (lw N G k)
theorem eN (N:Nat) (G:(Nat×Nat×Int×Int×Int×(List (Int×((List Int)×Unit))))→Option ((List (Int×((List Int)×Unit))))) (hG:aA Tryz.prog 392 (ah s392 w392 G)) (k:Nat):al Tryz.prog false Tryz.f392 [0] 1020 (ie N G k) :=
 yD.loopT ag ap (cv N G hG) Tryz.f392 [0] (cuts:=[(172,dy N G N),(698,eh N G N),(428,fF N G N),(1722,eV N G N)]) ⟨bS N G hG N,cu N G hG N,dc N G hG N,dx N G hG N,trivial⟩ (by decide +kernel) (by kernel_rfl) (zx N G) (lw N G) (fun _=>rfl) (fun _ _=>rfl) (fun f x=>by kernel_rfl) k
@[reducible] def yA:LD:=⟨4095,[0,18,24,3,4],[(.normal,[])],⟨[.slp 0 .h .h,.int .i64,.int .i64,.int .i64,.fn 385],[.row y5 391]⟩,[(.normal,⟨[],[.row y5 391]⟩)]⟩
noncomputable def hJ (N:Nat) (G:(Nat×Nat×Int×Int×Int×(List (Int×((List Int)×Unit))))→Option ((List (Int×((List Int)×Unit))))):(Nat×Nat×Int×Int×Int×(List (Int×((List Int)×Unit))))→Option ((List (Int×((List Int)×Unit))))
 | (x0,x1,x2,x3,x4,x5) =>
 ac (decide (x2<x3)) (
  ac (decide (x3<x4)) (
   Option.bind (G (x0,x1,x2,x3,x4,x5)) fun y0 =>
   some (y0)) (
   some (x5))) (
  some (x5))
noncomputable def lI (N:Nat) (G:(Nat×Nat×Int×Int×Int×(List (Int×((List Int)×Unit))))→Option ((List (Int×((List Int)×Unit))))) (_:Nat):Cut:=yA.cut (hJ N G)
theorem je (N:Nat) (G:(Nat×Nat×Int×Int×Int×(List (Int×((List Int)×Unit))))→Option ((List (Int×((List Int)×Unit))))) (hG:aA Tryz.prog 392 (ah s392 w392 G)) (k:Nat):al Tryz.prog false Tryz.f392 [0] 4095 (lI N G k) :=
 yA.pieceT ag ap (cv N G hG) Tryz.f392 [0] (cuts:=[(172,dy N G N),(698,eh N G N),(428,fF N G N),(1722,eV N G N),(1020,ie N G N)]) ⟨bS N G hG N,cu N G hG N,dc N G hG N,dx N G hG N,eN N G hG N,trivial⟩ (by decide +kernel) (by kernel_rfl) (hJ N G) (fun x=>by kernel_rfl)
@[reducible] def yB:LD:=⟨2047,[1,20,0,18,24,3,4],[(.normal,[])],⟨[.int .i64,.int .i64,.slp 0 .h .h,.int .i64,.int .i64,.int .i64,.fn 385],[.row y5 391]⟩,[(.normal,⟨[],[.row y5 391]⟩)]⟩
noncomputable def hK (N:Nat) (G:(Nat×Nat×Int×Int×Int×(List (Int×((List Int)×Unit))))→Option ((List (Int×((List Int)×Unit))))):(Int×Int×Nat×Nat×Int×Int×Int×(List (Int×((List Int)×Unit))))→Option ((List (Int×((List Int)×Unit))))
 | (x0,x1,x2,x3,x4,x5,x6,x7) =>
 ac (decide (x0<x1)) (
  ac (decide (x1<x4)) (
   Option.bind (G (x2,x3,x0,x1,x4,x7)) fun y0 =>
   Option.bind (hJ N G (x2,x3,x4,x5,x6,y0)) fun y1 =>
   some (y1)) (
   Option.bind (hJ N G (x2,x3,x4,x5,x6,x7)) fun y2 =>
   some (y2))) (
  Option.bind (hJ N G (x2,x3,x4,x5,x6,x7)) fun y3 =>
  some (y3))
noncomputable def qv (N:Nat) (G:(Nat×Nat×Int×Int×Int×(List (Int×((List Int)×Unit))))→Option ((List (Int×((List Int)×Unit))))) (_:Nat):Cut:=yB.cut (hK N G)
theorem oE (N:Nat) (G:(Nat×Nat×Int×Int×Int×(List (Int×((List Int)×Unit))))→Option ((List (Int×((List Int)×Unit))))) (hG:aA Tryz.prog 392 (ah s392 w392 G)) (k:Nat):al Tryz.prog false Tryz.f392 [0] 2047 (qv N G k) :=
 yB.pieceT ag ap (cv N G hG) Tryz.f392 [0] (cuts:=[(172,dy N G N),(698,eh N G N),(428,fF N G N),(1722,eV N G N),(1020,ie N G N),(4095,lI N G N)]) ⟨bS N G hG N,cu N G hG N,dc N G hG N,dx N G hG N,eN N G hG N,je N G hG N,trivial⟩ (by decide +kernel) (by kernel_rfl) (hK N G) (fun x=>by kernel_rfl)
@[reducible] def EF:LD:=⟨127,[20,3,18,1,2,19,21,4,0],[(.normal,[])],⟨[.int .i64,.int .i64,.int .i64,.int .i64,.int .i64,.int .i64,.int .i64,.fn 385,.slp 0 .h .h],[.row y5 391]⟩,[(.normal,⟨[],[.row y5 391]⟩)]⟩
noncomputable def oa (N:Nat) (G:(Nat×Nat×Int×Int×Int×(List (Int×((List Int)×Unit))))→Option ((List (Int×((List Int)×Unit))))):(Int×Int×Int×Int×Int×Int×Int×Nat×Nat×(List (Int×((List Int)×Unit))))→Option ((List (Int×((List Int)×Unit))))
 | (x0,x1,x2,x3,x4,x5,x6,x7,x8,x9) =>
 Option.bind (lw N G N (x0,x1,x2,x3,x4,x5,x6,IntKind.wrap IntKind.i64 (x5-(1:Int)),x7,x8,x9)) fun(y0_0,y0_1,y0_2,y0_3,y0_4,y0_5,y0_6,y0_7,y0_8) =>
 ac (decide (y0_3<y0_1)) (
  ac (decide (y0_1<IntKind.wrap IntKind.i64 (y0_0-y0_3))) (
   Option.bind (ak9 N (y0_4,y0_5,y0_3,y0_1,IntKind.wrap IntKind.i64 (y0_0-y0_3),y0_8)) fun y1 =>
   Option.bind (hK N G (y0_2,y0_3,y0_4,y0_5,y0_6,IntKind.wrap IntKind.i64 (y0_0-y0_3),y0_7,y1)) fun y2 =>
   some (y2)) (
   Option.bind (hK N G (y0_2,y0_3,y0_4,y0_5,y0_6,IntKind.wrap IntKind.i64 (y0_0-y0_3),y0_7,y0_8)) fun y3 =>
   some (y3))) (
  Option.bind (hK N G (y0_2,y0_3,y0_4,y0_5,y0_6,IntKind.wrap IntKind.i64 (y0_0-y0_3),y0_7,y0_8)) fun y4 =>
  some (y4))
noncomputable def FJ (N:Nat) (G:(Nat×Nat×Int×Int×Int×(List (Int×((List Int)×Unit))))→Option ((List (Int×((List Int)×Unit))))) (_:Nat):Cut:=EF.cut (oa N G)
theorem FI (N:Nat) (G:(Nat×Nat×Int×Int×Int×(List (Int×((List Int)×Unit))))→Option ((List (Int×((List Int)×Unit))))) (hG:aA Tryz.prog 392 (ah s392 w392 G)) (k:Nat):al Tryz.prog false Tryz.f392 [0] 127 (FJ N G k) :=
 EF.pieceT ag ap (cv N G hG) Tryz.f392 [0] (cuts:=[(172,dy N G N),(698,eh N G N),(428,fF N G N),(1722,eV N G N),(1020,ie N G N),(4095,lI N G N),(2047,qv N G N)]) ⟨bS N G hG N,cu N G hG N,dc N G hG N,dx N G hG N,eN N G hG N,je N G hG N,oE N G hG N,trivial⟩ (by decide +kernel) (by kernel_rfl) (oa N G) (fun x=>by kernel_rfl)
noncomputable def aI0 (N:Nat) (G:(Nat×Nat×Int×Int×Int×(List (Int×((List Int)×Unit))))→Option ((List (Int×((List Int)×Unit))))):(Nat×Nat×Int×Int×Int×(List (Int×((List Int)×Unit))))→Option ((List (Int×((List Int)×Unit))))
 | (x0,x1,x2,x3,x4,x5) =>
 ac (IntKind.wrap IntKind.i64 (x3-x2)==(1:Int)) (
  Option.bind (nZ N G N (x3,x4,x0,x1,x2,x5)) fun y0 =>
  Option.bind (nX N G N (y0.1,y0.2.1,y0.2.2.1,y0.2.2.2.1,y0.2.2.2.2)) fun y1 =>
  some (y1)) (
  ac (IntKind.wrap IntKind.i64 (x4-x3)==(1:Int)) (
   Option.bind (nY N G N (x2,x3,x3,x0,x1,x5)) fun y2 =>
   Option.bind (lu N G N (y2.1,y2.2.1,y2.2.2.1,y2.2.2.2.1,y2.2.2.2.2)) fun y3 =>
   some (y3)) (
   ac (decide (x3>IntKind.wrap IntKind.i64 (Int.fdiv (IntKind.wrap IntKind.u64 (IntKind.wrap IntKind.i64 (x2+x4))) (2:Int)))) (
    Option.bind (oa N G (IntKind.wrap IntKind.i64 (IntKind.wrap IntKind.i64 (IntKind.wrap IntKind.i64 (Int.fdiv (IntKind.wrap IntKind.u64 (IntKind.wrap IntKind.i64 (x2+x4))) (2:Int))+x3)-x4),x4,IntKind.wrap IntKind.i64 (Int.fdiv (IntKind.wrap IntKind.u64 (IntKind.wrap IntKind.i64 (x2+x4))) (2:Int)),x2,x3,IntKind.wrap IntKind.i64 (IntKind.wrap IntKind.i64 (Int.fdiv (IntKind.wrap IntKind.u64 (IntKind.wrap IntKind.i64 (x2+x4))) (2:Int))+x3),IntKind.wrap IntKind.i64 (Int.fdiv (IntKind.wrap IntKind.u64 (IntKind.wrap IntKind.i64 (x2+x4))) (2:Int)),x0,x1,x5)) fun y4 =>
    some (y4)) (
    Option.bind (oa N G (x2,x4,IntKind.wrap IntKind.i64 (Int.fdiv (IntKind.wrap IntKind.u64 (IntKind.wrap IntKind.i64 (x2+x4))) (2:Int)),x2,x3,IntKind.wrap IntKind.i64 (IntKind.wrap IntKind.i64 (Int.fdiv (IntKind.wrap IntKind.u64 (IntKind.wrap IntKind.i64 (x2+x4))) (2:Int))+x3),x3,x0,x1,x5)) fun y5 =>
    some (y5))))
noncomputable def cN (N:Nat):Nat→(Nat×Nat×Int×Int×Int×(List (Int×((List Int)×Unit))))→Option ((List (Int×((List Int)×Unit))))
 | 0,_=>none
 | k+1,x=>aI0 N (cN N k) x
noncomputable def al0 (N:Nat):(Nat×Nat×Int×Int×Int×(List (Int×((List Int)×Unit))))→Option ((List (Int×((List Int)×Unit)))):=cN N N
noncomputable def ay5 (N:Nat):Pk→Tr Pk:=ah s392 w392 (al0 N)
theorem cL (N:Nat):∀k,aA Tryz.prog 392 (ah s392 w392 (cN N k))
 | 0=>MP fun _=>rfl
 | k+1=>af ag ap (cv N (cN N k) (cL N k)) Tryz.func392 s392 w392 [0] (cuts:=[(172,dy N (cN N k) N),(698,eh N (cN N k) N),(428,fF N (cN N k) N),(1722,eV N (cN N k) N),(1020,ie N (cN N k) N),(4095,lI N (cN N k) N),(2047,qv N (cN N k) N),(127,FJ N (cN N k) N)]) ⟨bS N (cN N k) (cL N k) N,cu N (cN N k) (cL N k) N,dc N (cN N k) (cL N k) N,dx N (cN N k) (cL N k) N,eN N (cN N k) (cL N k) N,je N (cN N k) (cL N k) N,oE N (cN N k) (cL N k) N,FI N (cN N k) (cL N k) N,trivial⟩ (fun _=>by kernel_rfl) (by decide +kernel) (cN N (k+1)) (fun x=>by kernel_rfl)
theorem Vd (N:Nat):aA Tryz.prog (392) (ay5 N) :=
 (cL N N)
@[reducible] def s389:SP:=⟨[.slp 0 .h .h,.int .i64,.fn 385],[.row y5 391]⟩
noncomputable def Ye (N:Nat):List (Nat×(Pk→Tr Pk)):=[(391,ay6 N),(392,ay5 N)]
theorem kR (N:Nat):ai Tryz.prog (Ye N):=⟨Ve N,Vd N,trivial⟩
@[reducible] def KO:LD:=⟨28,[7,8,1,0,2,6],[(.exit 0,[7,1,0,2,6])],⟨[.int .i64,.int .i64,.int .i64,.slp 0 .h .h,.fn 385,.int .i64],[.row y5 391]⟩,[(.exit 0,⟨[.int .i64,.int .i64,.slp 0 .h .h,.fn 385,.int .i64],[.row y5 391]⟩)]⟩
abbrev BX:Type:=Int×Int×Int×Nat×Nat×Int×(List (Int×((List Int)×Unit)))
abbrev Bf:Type:=Int×Int×Nat×Nat×Int×(List (Int×((List Int)×Unit)))
noncomputable def Mo (N:Nat) (f:BX→Option Bf):BX→Option Bf
 | (x0,x1,x2,x3,x4,x5,x6) =>
 ac (decide (x1≤x2)) (
  Option.bind (WU N (x3,x4,x0,x1,x6)) fun y0 =>
  Option.bind (f (x1,IntKind.wrap IntKind.i64 (x1+x5),x2,x3,x4,x5,y0)) fun r=>some r) (
  some ((x0,x2,x3,x4,x5,x6)))
noncomputable def r6 (N:Nat):Nat→BX→Option Bf
 | 0,_=>none
 | k+1,x=>Mo N (r6 N k) x
noncomputable def sE (N:Nat) (k:Nat):Cut:=KO.cut (r6 N k)
theorem mX (N:Nat) (k:Nat):al Tryz.prog false Tryz.f389 [0] 28 (sE N k) :=
 KO.loopT ag ap (kR N) Tryz.f389 [0] (cuts:=[]) trivial (by decide +kernel) (by kernel_rfl) (Mo N) (r6 N) (fun _=>rfl) (fun _ _=>rfl) (fun f x=>by kernel_rfl) k
@[reducible] def yE:LD:=⟨3988,[7,8,1,0,2,6],[(.exit 4,[7,6,1,0,2]),(.exit 3,[1,0,2,6])],⟨[.int .i64,.int .i64,.int .i64,.slp 0 .h .h,.fn 385,.int .i64],[.row y5 391]⟩,[(.exit 4,⟨[.int .i64,.int .i64,.int .i64,.slp 0 .h .h,.fn 385],[.row y5 391]⟩)]⟩
abbrev qc:Type:=Int×Int×Int×Nat×Nat×Int×(List (Int×((List Int)×Unit)))
abbrev pN:Type:=Int×Int×Int×Nat×Nat×(List (Int×((List Int)×Unit)))
noncomputable def zy (N:Nat) (f:qc→Option pN):qc→Option pN
 | (x0,x1,x2,x3,x4,x5,x6) =>
 ac (decide (x1≤x2)) (
  Option.bind (al0 N (x3,x4,x0,IntKind.wrap IntKind.i64 (x0+x5),x1,x6)) fun y0 =>
  Option.bind (f (x1,IntKind.wrap IntKind.i64 (x1+IntKind.wrap IntKind.i64 ((2:Int)*x5)),x2,x3,x4,x5,y0)) fun r=>some r) (
  some ((x0,x5,x2,x3,x4,x6)))
noncomputable def lx (N:Nat):Nat→qc→Option pN
 | 0,_=>none
 | k+1,x=>zy N (lx N k) x
noncomputable def qw (N:Nat) (k:Nat):Cut:=yE.cut (lx N k)
theorem oF (N:Nat) (k:Nat):al Tryz.prog false Tryz.f389 [0] 3988 (qw N k) :=
 yE.loopT ag ap (kR N) Tryz.f389 [0] (cuts:=[(28,sE N N)]) ⟨mX N N,trivial⟩ (by decide +kernel) (by kernel_rfl) (zy N) (lx N) (fun _=>rfl) (fun _ _=>rfl) (fun f x=>by kernel_rfl) k
@[reducible] def KN:LD:=⟨62,[1,0,2,6],[(.exit 2,[])],⟨[.int .i64,.slp 0 .h .h,.fn 385,.int .i64],[.row y5 391]⟩,[(.exit 2,⟨[],[.row y5 391]⟩)]⟩
abbrev BW:Type:=Int×Nat×Nat×Int×(List (Int×((List Int)×Unit)))
abbrev Be:Type:=(List (Int×((List Int)×Unit)))
noncomputable def Mn (N:Nat) (f:BW→Option Be):BW→Option Be
 | (x0,x1,x2,x3,x4) =>
 ac (decide (x3<x0)) (
  Option.bind (lx N N ((0:Int),IntKind.wrap IntKind.i64 ((2:Int)*x3),x0,x1,x2,x3,x4)) fun(y0_0,y0_1,y0_2,y0_3,y0_4,y0_5) =>
  ac (decide (IntKind.wrap IntKind.i64 (y0_0+y0_1)<y0_2)) (
   Option.bind (al0 N (y0_3,y0_4,y0_0,IntKind.wrap IntKind.i64 (y0_0+y0_1),y0_2,y0_5)) fun y1 =>
   Option.bind (f (y0_2,y0_3,y0_4,IntKind.wrap IntKind.i64 (y0_1*(2:Int)),y1)) fun r=>some r) (
   Option.bind (f (y0_2,y0_3,y0_4,IntKind.wrap IntKind.i64 (y0_1*(2:Int)),y0_5)) fun r=>some r)) (
  some (x4))
noncomputable def r5 (N:Nat):Nat→BW→Option Be
 | 0,_=>none
 | k+1,x=>Mn N (r5 N k) x
noncomputable def LC (N:Nat) (k:Nat):Cut:=KN.cut (r5 N k)
theorem IW (N:Nat) (k:Nat):al Tryz.prog false Tryz.f389 [0] 62 (LC N k) :=
 KN.loopT ag ap (kR N) Tryz.f389 [0] (cuts:=[(28,sE N N),(3988,qw N N)]) ⟨mX N N,oF N N,trivial⟩ (by decide +kernel) (by kernel_rfl) (Mn N) (r5 N) (fun _=>rfl) (fun _ _=>rfl) (fun f x=>by kernel_rfl) k
@[reducible] def w389:List SP:=[⟨[.tup []],[.row y5 391]⟩]
noncomputable def al1 (N:Nat):(Nat×Nat×Int×(List (Int×((List Int)×Unit))))→Option ((List (Int×((List Int)×Unit))))
 | (x0,x1,x2,x3) =>
 Option.bind (r6 N N ((0:Int),(20:Int),x2,x0,x1,(20:Int),x3)) fun(y0_0,y0_1,y0_2,y0_3,y0_4,y0_5) =>
 Option.bind (WU N (y0_2,y0_3,y0_0,y0_1,y0_5)) fun y1 =>
 Option.bind (r5 N N (y0_1,y0_2,y0_3,y0_4,y1)) fun y2 =>
 some (y2)
noncomputable def ay8 (N:Nat):Pk→Tr Pk:=ah s389 w389 (al1 N)
theorem Vg (N:Nat):aA Tryz.prog (389) (ay8 N) :=
 (af ag ap (kR N) Tryz.func389 s389 w389 [0] (cuts:=[(28,sE N N),(3988,qw N N),(62,LC N N)]) ⟨mX N N,oF N N,IW N N,trivial⟩ (fun _=>by kernel_rfl) (by decide +kernel) (al1 N) (fun x=>by kernel_rfl))
@[reducible] def s384:SP:=⟨[.slp 0 .h .h,.fn 385],[.row y5 391]⟩
noncomputable def Yj (N:Nat):List (Nat×(Pk→Tr Pk)):=[(389,ay8 N)]
theorem MY (N:Nat):ai Tryz.prog (Yj N):=⟨Vg N,trivial⟩
@[reducible] def w384:List SP:=[⟨[.tup []],[.row y5 391]⟩]
noncomputable def al4 (N:Nat):(Nat×Nat×(List (Int×((List Int)×Unit))))→Option ((List (Int×((List Int)×Unit))))
 | (x0,x1,x2) =>
 Option.bind (al1 N (x0,x1,(↑x1:Int),x2)) fun y0 =>
 some (y0)
noncomputable def az2 (N:Nat):Pk→Tr Pk:=ah s384 w384 (al4 N)
theorem Vk (N:Nat):aA Tryz.prog (384) (az2 N) :=
 (af ag ap (MY N) Tryz.func384 s384 w384 [0] (cuts:=[]) trivial (fun _=>by kernel_rfl) (by decide +kernel) (al4 N) (fun x=>by kernel_rfl))
@[reducible] def s376:SP:=⟨[.ro y5,.ro y5],[]⟩
noncomputable def Yr (N:Nat):List (Nat×(Pk→Tr Pk)):=[(383,az3 N),(384,az2 N)]
theorem M1 (N:Nat):ai Tryz.prog (Yr N):=⟨Vl N,Vk N,trivial⟩
@[reducible] def w376:List SP:=[⟨[.sl 0],[.row y5 391]⟩]
noncomputable def WZ (N:Nat):((List (Int×((List Int)×Unit)))×(List (Int×((List Int)×Unit))))→Option ((List (Int×((List Int)×Unit))))
 | (x0,x1) =>
 Option.bind (al5 N [x0,x1]) fun y0 =>
 Option.bind (al4 N ((0:Nat),List.length y0,y0)) fun y1 =>
 some (y1)
noncomputable def ah4 (N:Nat):Pk→Tr Pk:=tr Re (ah s376 w376 (WZ N))
theorem Kf (N:Nat):aA Tryz.prog (376) (ah4 N) :=
 jM Av (af ag ap (M1 N) Tryz.func376 s376 w376 [] (cuts:=[]) trivial (fun _=>by kernel_rfl) (by decide +kernel) (WZ N) (fun x=>by kernel_rfl)) (by decide +kernel)
@[reducible] def s375:SP:=⟨[.ro (.int .i64)],[]⟩
noncomputable def Ys (N:Nat):List (Nat×(Pk→Tr Pk)):=[(376,ah4 N)]
theorem xf (N:Nat):ai Tryz.prog (Ys N):=⟨Kf N,trivial⟩
@[reducible] def KV:LD:=⟨58,[8,7,9,4],[(.ret,[2,3]),(.exit 0,[4])],⟨[.int .i64,.ro (.int .i64),.int .i64,.sl 0],[.row y5 391]⟩,[(.ret,⟨[.sl 0,.int .i64],[.row y5 391]⟩),(.exit 0,⟨[.sl 0],[.row y5 391]⟩)]⟩
abbrev Cf:Type:=Int×(List Int)×Int×(List (Int×((List Int)×Unit)))
abbrev Bn:Type:=((Int×(List (Int×((List Int)×Unit))))⊕((List (Int×((List Int)×Unit)))))
noncomputable def Mu (N:Nat) (f:Cf→Option Bn):Cf→Option Bn
 | (x0,x1,x2,x3) =>
 ac (decide (x2<x0)) (
  ac (within x2 (List.length x1)) (
   Option.bind (x1[Int.toNat x2]?) fun y0 =>
   ac (decide (y0<(0:Int))) (
    some (.inl (((1:Int),[])))) (
    ac (decide (y0>(1073741824:Int))) (
     some (.inl (((1:Int),[])))) (
     ac (decide (y0>(0:Int))) (
      ac (decide ((List.length x3+List.length [(y0,[x2],())])*(32:Nat)≤(140737488355328:Nat)∧List.length x3+List.length [(y0,[x2],())]≤(140737488355328:Nat))) (
       Option.bind (f (x0,x1,IntKind.wrap IntKind.i64 (x2+(1:Int)),x3++[(y0,[x2],())])) fun r=>match r with|.inl y=>some (.inl y)|.inr y=>some (.inr y)) (
       none )) (
      Option.bind (f (x0,x1,IntKind.wrap IntKind.i64 (x2+(1:Int)),x3)) fun r=>match r with|.inl y=>some (.inl y)|.inr y=>some (.inr y))))) (
   none )) (
  some (.inr (x3)))
noncomputable def sg (N:Nat):Nat→Cf→Option Bn
 | 0,_=>none
 | k+1,x=>Mu N (sg N k) x
noncomputable def LK (N:Nat) (k:Nat):Cut:=KV.cut (sg N k)
theorem I2 (N:Nat) (k:Nat):al Tryz.prog false Tryz.f375 [] 58 (LK N k) :=
 KV.loopT ag ap (xf N) Tryz.f375 [] (cuts:=[]) trivial (by decide +kernel) (by kernel_rfl) (Mu N) (sg N) (fun _=>rfl) (fun _ _=>rfl) (fun f x=>by kernel_rfl) k
@[reducible] def w375:List SP:=[⟨[.tup [.sl 0,.int .i64]],[.row y5 391]⟩,⟨[.tup [.ro y5,.int .i64]],[]⟩]
noncomputable def am0 (N:Nat):((List Int))→Option (((Int×(List (Int×((List Int)×Unit))))⊕((List (Int×((List Int)×Unit)))×Int)))
 | x0 =>
 Option.bind (sg N N ((↑(List.length x0):Int),x0,(0:Int),[])) fun y0 =>
 match y0 with
 | .inl y1 =>
  some (.inl ((y1.1,y1.2)))
 | .inr y1 =>
  Option.bind (WZ N (y1,[])) fun y2 =>
  some (.inr ((y2,(0:Int))))
noncomputable def az8 (N:Nat):Pk→Tr Pk:=tr Re (ah s375 w375 (am0 N))
theorem Vq (N:Nat):aA Tryz.prog (375) (az8 N) :=
 jM Av (af ag ap (xf N) Tryz.func375 s375 w375 [] (cuts:=[(58,LK N N)]) ⟨I2 N N,trivial⟩ (fun _=>by kernel_rfl) (by decide +kernel) (am0 N) (fun x=>by kernel_rfl)) (by decide +kernel)
@[reducible] def s379:SP:=⟨[.nilsl,.int .i64],[]⟩
noncomputable def Yo (N:Nat):List (Nat×(Pk→Tr Pk)):=[]
theorem M0 (N:Nat):ai Tryz.prog (Yo N):=trivial
@[reducible] def w379:List SP:=[⟨[.slp 0 (.c 0) (.c 0)],[.row (.int .i64) 3]⟩,⟨[.sl 0],[.row (.int .i64) 3]⟩]
noncomputable def al7 (N:Nat):(Int)→Option ((((List Int))⊕((List Int))))
 | x0 =>
 ac (decide (x0<(0:Int))) (
  none ) (
  ac (decide (IntKind.wrap IntKind.i64 (x0-(0:Int))>(0:Int))) (
   ac (decide ((0:Int)<IntKind.wrap IntKind.i64 (x0-(0:Int))∧IntKind.wrap IntKind.i64 (x0-(0:Int))*(8:Int)≤(140737488355328:Int)∧IntKind.wrap IntKind.i64 (x0-(0:Int))≤(140737488355328:Int))) (
    ac (decide ((0:Int)≤(0:Int)∧(0:Int)≤(↑(List.length (List.replicate (Int.toNat (IntKind.wrap IntKind.i64 (x0-(0:Int)))) (0:Int))):Int))) (
     some (.inl (List.replicate (Int.toNat (IntKind.wrap IntKind.i64 (x0-(0:Int)))) (0:Int)))) (
     none )) (
    none )) (
   some (.inr ([]))))
noncomputable def az5 (N:Nat):Pk→Tr Pk:=tr (Ju (Ty.int IntKind.i64) 3) (ah s379 w379 (al7 N))
theorem Vn (N:Nat):aA Tryz.prog (379) (az5 N) :=
 jM (Dj _ _) (af ag ap (M0 N) Tryz.func379 s379 w379 [] (cuts:=[]) trivial (fun _=>by kernel_rfl) (by decide +kernel) (al7 N) (fun x=>by kernel_rfl)) (by decide +kernel)
@[reducible] def s361:SP:=⟨[.ro (.sl (.int .i64))],[]⟩
noncomputable def YF (N:Nat):List (Nat×(Pk→Tr Pk)):=[(379,az5 N)]
theorem oX (N:Nat):ai Tryz.prog (YF N):=⟨Vn N,trivial⟩
@[reducible] def K0:LD:=⟨58,[3,11,10,0,9],[(.ret,[2]),(.exit 0,[3,0])],⟨[.int .i64,.int .i64,.int .i64,.ro (.sl (.int .i64)),.ro (.sl (.int .i64))],[]⟩,[(.exit 0,⟨[.int .i64,.ro (.sl (.int .i64))],[]⟩)]⟩
abbrev Ck:Type:=Int×Int×Int×(List (List Int))×(List (List Int))
abbrev Bs:Type:=Int×(List (List Int))
noncomputable def Mz (N:Nat) (f:Ck→Option Bs):Ck→Option Bs
 | (x0,x1,x2,x3,x4) =>
 ac (decide (x1<x2)) (
  ac (within x1 (List.length x4)) (
   Option.bind (x4[Int.toNat x1]?) fun y0 =>
   ac (decide (IntKind.wrap IntKind.i64 (x0+(↑(List.length y0):Int))<(0:Int))) (
    none ) (
    Option.bind (f (IntKind.wrap IntKind.i64 (x0+(↑(List.length y0):Int)),IntKind.wrap IntKind.i64 (x1+(1:Int)),x2,x3,x4)) fun r=>some r)) (
   none )) (
  some ((x0,x3)))
noncomputable def sq (N:Nat):Nat→Ck→Option Bs
 | 0,_=>none
 | k+1,x=>Mz N (sq N k) x
noncomputable def C7 (N:Nat) (k:Nat):Cut:=K0.cut (sq N k)
theorem wj (N:Nat) (k:Nat):al Tryz.prog false Tryz.f361 [] 58 (C7 N k) :=
 K0.loopT ag ap (oX N) Tryz.f361 [] (cuts:=[]) trivial (by decide +kernel) (by kernel_rfl) (Mz N) (sq N) (fun _=>rfl) (fun _ _=>rfl) (fun f x=>by kernel_rfl) k
@[reducible] def EN:LD:=⟨250,[6,27,26,25],[(.ret,[2]),(.exit 2,[6])],⟨[.sl 0,.int .i64,.int .i64,.ro (.sl (.int .i64))],[.row (.int .i64) 3]⟩,[(.exit 2,⟨[.sl 0],[.row (.int .i64) 3]⟩)]⟩
abbrev vh:Type:=Int×Int×(List (List Int))×(List Int)
abbrev uz:Type:=(List Int)
noncomputable def GM (N:Nat) (f:vh→Option uz):vh→Option uz
 | (x0,x1,x2,x3) =>
 ac (decide (x0<x1)) (
  ac (within x0 (List.length x2)) (
   Option.bind (x2[Int.toNat x0]?) fun y0 =>
   ac (decide ((List.length x3+List.length y0)*(8:Nat)≤(140737488355328:Nat)∧List.length x3+List.length y0≤(140737488355328:Nat))) (
    Option.bind (f (IntKind.wrap IntKind.i64 (x0+(1:Int)),x1,x2,x3++y0)) fun r=>some r) (
    none )) (
   none )) (
  some (x3))
noncomputable def kr (N:Nat):Nat→vh→Option uz
 | 0,_=>none
 | k+1,x=>GM N (kr N k) x
noncomputable def FX (N:Nat) (k:Nat):Cut:=EN.cut (kr N k)
theorem FW (N:Nat) (k:Nat):al Tryz.prog false Tryz.f361 [] 250 (FX N k) :=
 EN.loopT ag ap (oX N) Tryz.f361 [] (cuts:=[(58,C7 N N)]) ⟨wj N N,trivial⟩ (by decide +kernel) (by kernel_rfl) (GM N) (kr N) (fun _=>rfl) (fun _ _=>rfl) (fun f x=>by kernel_rfl) k
@[reducible] def w361:List SP:=[⟨[.sl 0],[.row (.int .i64) 3]⟩]
noncomputable def W5 (N:Nat):((List (List Int)))→Option ((List Int))
 | x0 =>
 Option.bind (sq N N ((0:Int),(0:Int),(↑(List.length x0):Int),x0,x0)) fun y0 =>
 Option.bind (al7 N y0.1) fun y1 =>
 match y1 with
 | .inl y2 =>
  Option.bind (kr N N ((0:Int),(↑(List.length y0.2):Int),y0.2,[])) fun y3 =>
  some (y3)
 | .inr y2 =>
  Option.bind (kr N N ((0:Int),(↑(List.length y0.2):Int),y0.2,y2)) fun y4 =>
  some (y4)
noncomputable def ai2 (N:Nat):Pk→Tr Pk:=ah s361 w361 (W5 N)
theorem Kn (N:Nat):aA Tryz.prog (361) (ai2 N) :=
 (af ag ap (oX N) Tryz.func361 s361 w361 [] (cuts:=[(58,C7 N N),(250,FX N N)]) ⟨wj N N,FW N N,trivial⟩ (fun _=>by kernel_rfl) (by decide +kernel) (W5 N) (fun x=>by kernel_rfl))
@[reducible] def s377:SP:=⟨[.ro y5],[]⟩
noncomputable def Yq (N:Nat):List (Nat×(Pk→Tr Pk)):=[(361,ai2 N)]
theorem xe (N:Nat):ai Tryz.prog (Yq N):=⟨Kn N,trivial⟩
@[reducible] def KU:LD:=⟨58,[3,4,0],[(.ret,[2]),(.exit 0,[3])],⟨[.sl 0,.int .i64,.ro y5],[.row y5 391]⟩,[(.exit 0,⟨[.sl 0],[.row y5 391]⟩)]⟩
abbrev Ce:Type:=Int×(List (Int×((List Int)×Unit)))×(List (Int×((List Int)×Unit)))
abbrev Bm:Type:=(List (Int×((List Int)×Unit)))
noncomputable def Mt (N:Nat) (f:Ce→Option Bm):Ce→Option Bm
 | (x0,x1,x2) =>
 ac (decide (IntKind.wrap IntKind.i64 (x0+(1:Int))<(↑(List.length x1):Int))) (
  ac (within x0 (List.length x1)) (
   Option.bind (x1[Int.toNat x0]?) fun y0 =>
   ac (within (IntKind.wrap IntKind.i64 (x0+(1:Int))) (List.length x1)) (
    Option.bind (x1[Int.toNat (IntKind.wrap IntKind.i64 (x0+(1:Int)))]?) fun y1 =>
    ac (within x0 (List.length x1)) (
     Option.bind (x1[Int.toNat x0]?) fun y2 =>
     ac (within (IntKind.wrap IntKind.i64 (x0+(1:Int))) (List.length x1)) (
      Option.bind (x1[Int.toNat (IntKind.wrap IntKind.i64 (x0+(1:Int)))]?) fun y3 =>
      Option.bind (W5 N [y2.2.1,y3.2.1]) fun y4 =>
      ac (decide ((List.length x2+List.length [(IntKind.wrap IntKind.i64 (y0.1+y1.1),y4,())])*(32:Nat)≤(140737488355328:Nat)∧List.length x2+List.length [(IntKind.wrap IntKind.i64 (y0.1+y1.1),y4,())]≤(140737488355328:Nat))) (
       Option.bind (f (IntKind.wrap IntKind.i64 (x0+(2:Int)),x1,x2++[(IntKind.wrap IntKind.i64 (y0.1+y1.1),y4,())])) fun r=>some r) (
       none )) (
      none )) (
     none )) (
    none )) (
   none )) (
  some (x2))
noncomputable def sf (N:Nat):Nat→Ce→Option Bm
 | 0,_=>none
 | k+1,x=>Mt N (sf N k) x
noncomputable def LJ (N:Nat) (k:Nat):Cut:=KU.cut (sf N k)
theorem I1 (N:Nat) (k:Nat):al Tryz.prog false Tryz.f377 [] 58 (LJ N k) :=
 KU.loopT ag ap (xe N) Tryz.f377 [] (cuts:=[]) trivial (by decide +kernel) (by kernel_rfl) (Mt N) (sf N) (fun _=>rfl) (fun _ _=>rfl) (fun f x=>by kernel_rfl) k
@[reducible] def w377:List SP:=[⟨[.sl 0],[.row y5 391]⟩]
noncomputable def al9 (N:Nat):((List (Int×((List Int)×Unit))))→Option ((List (Int×((List Int)×Unit))))
 | x0 =>
 Option.bind (sf N N ((0:Int),x0,[])) fun y0 =>
 some (y0)
noncomputable def az7 (N:Nat):Pk→Tr Pk:=tr Re (ah s377 w377 (al9 N))
theorem Vp (N:Nat):aA Tryz.prog (377) (az7 N) :=
 jM Av (af ag ap (xe N) Tryz.func377 s377 w377 [] (cuts:=[(58,LJ N N)]) ⟨I1 N N,trivial⟩ (fun _=>by kernel_rfl) (by decide +kernel) (al9 N) (fun x=>by kernel_rfl)) (by decide +kernel)
@[reducible] def s358:SP:=⟨[.ro (.int .i64),.int .i64],[]⟩
noncomputable def YI (N:Nat):List (Nat×(Pk→Tr Pk)):=[(375,az8 N),(377,az7 N),(376,ah4 N)]
theorem gC (N:Nat):ai Tryz.prog (YI N):=⟨Vq N,Vp N,Kf N,trivial⟩
@[reducible] def yH:LD:=⟨4090,[9,61,60,8,6],[(.ret,[4,5]),(.exit 1,[9,6,8])],⟨[.ro y5,.int .i64,.int .i64,.sl 0,.ro y5],[.row (.int .i64) 3]⟩,[(.exit 1,⟨[.ro y5,.ro y5,.sl 0],[.row (.int .i64) 3]⟩)]⟩
abbrev qe:Type:=(List (Int×((List Int)×Unit)))×Int×Int×(List (Int×((List Int)×Unit)))×(List Int)
abbrev pQ:Type:=(List (Int×((List Int)×Unit)))×(List (Int×((List Int)×Unit)))×(List Int)
noncomputable def zA (N:Nat) (f:qe→Option pQ):qe→Option pQ
 | (x0,x1,x2,x3,x4) =>
 ac (decide (x1<x2)) (
  Option.bind (al9 N x0) fun y0 =>
  Option.bind (WZ N (x3,y0)) fun y1 =>
  Option.bind (f (y1,IntKind.wrap IntKind.i64 (x1+(1:Int)),x2,x3,x4)) fun r=>some r) (
  some ((x0,x3,x4)))
noncomputable def dP (N:Nat):Nat→qe→Option pQ
 | 0,_=>none
 | k+1,x=>zA N (dP N k) x
noncomputable def ig (N:Nat) (k:Nat):Cut:=yH.cut (dP N k)
theorem eO (N:Nat) (k:Nat):al Tryz.prog false Tryz.f358 [] 4090 (ig N k) :=
 yH.loopT ag ap (gC N) Tryz.f358 [] (cuts:=[]) trivial (by decide +kernel) (by kernel_rfl) (zA N) (dP N) (fun _=>rfl) (fun _ _=>rfl) (fun f x=>by kernel_rfl) k
@[reducible] def nV:LD:=⟨2095718,[82,81,73,74,75,80,8],[(.ret,[4,5]),(.exit 5,[75,74,73,8]),(.exit 4,[75,74,73,8]),(.exit 3,[8])],⟨[.int .i64,.int .i64,.ro y5,.int .i64,.int .i64,.ro (.int .i64),.sl 0],[.row (.int .i64) 3]⟩,[(.exit 5,⟨[.int .i64,.int .i64,.ro y5,.sl 0],[.row (.int .i64) 3]⟩)]⟩
abbrev iU:Type:=Int×Int×(List (Int×((List Int)×Unit)))×Int×Int×(List Int)×(List Int)
abbrev iS:Type:=Int×Int×(List (Int×((List Int)×Unit)))×(List Int)
noncomputable def oO (N:Nat) (f:iU→Option iS):iU→Option iS
 | (x0,x1,x2,x3,x4,x5,x6) =>
 ac (decide (x0<x1)) (
  ac (within x0 (List.length x5)) (
   Option.bind (x5[Int.toNat x0]?) fun y0 =>
   ac (within y0 (List.length x6)) (
    Option.bind (x6[Int.toNat y0]?) fun y1 =>
    ac (within y0 (List.length x6)) (
     Option.bind (x6[Int.toNat y0]?) fun y2 =>
     Option.bind (f (IntKind.wrap IntKind.i64 (x0+(1:Int)),x1,x2,x3,x4,x5,List.set x6 (Int.toNat y0) (IntKind.wrap IntKind.i64 (y1+(1:Int))))) fun r=>some r) (
     none )) (
    none )) (
   none )) (
  some ((x4,x3,x2,x6)))
noncomputable def eE (N:Nat):Nat→iU→Option iS
 | 0,_=>none
 | k+1,x=>oO N (eE N k) x
noncomputable def eP (N:Nat) (k:Nat):Cut:=nV.cut (eE N k)
theorem eo (N:Nat) (k:Nat):al Tryz.prog false Tryz.f358 [] 2095718 (eP N k) :=
 nV.loopT ag ap (gC N) Tryz.f358 [] (cuts:=[(4090,ig N N)]) ⟨eO N N,trivial⟩ (by decide +kernel) (by kernel_rfl) (oO N) (eE N) (fun _=>rfl) (fun _ _=>rfl) (fun f x=>by kernel_rfl) k
@[reducible] def yG:LD:=⟨8186,[74,73,75,8],[(.ret,[4,5]),(.exit 3,[8])],⟨[.int .i64,.ro y5,.int .i64,.sl 0],[.row (.int .i64) 3]⟩,[(.exit 3,⟨[.sl 0],[.row (.int .i64) 3]⟩)]⟩
abbrev qd:Type:=Int×(List (Int×((List Int)×Unit)))×Int×(List Int)
abbrev pP:Type:=(List Int)
noncomputable def zz (N:Nat) (f:qd→Option pP):qd→Option pP
 | (x0,x1,x2,x3) =>
 ac (decide (x2<x0)) (
  ac (within x2 (List.length x1)) (
   Option.bind (x1[Int.toNat x2]?) fun y0 =>
   Option.bind (eE N N ((0:Int),(↑(List.length y0.2.1):Int),x1,x0,x2,y0.2.1,x3)) fun y1 =>
   Option.bind (f (y1.2.1,y1.2.2.1,IntKind.wrap IntKind.i64 (y1.1+(1:Int)),y1.2.2.2)) fun r=>some r) (
   none )) (
  some (x3))
noncomputable def dO (N:Nat):Nat→qd→Option pP
 | 0,_=>none
 | k+1,x=>zz N (dO N k) x
noncomputable def qy (N:Nat) (k:Nat):Cut:=yG.cut (dO N k)
theorem oH (N:Nat) (k:Nat):al Tryz.prog false Tryz.f358 [] 8186 (qy N k) :=
 yG.loopT ag ap (gC N) Tryz.f358 [] (cuts:=[(4090,ig N N),(2095718,eP N N)]) ⟨eO N N,eo N N,trivial⟩ (by decide +kernel) (by kernel_rfl) (zz N) (dO N) (fun _=>rfl) (fun _ _=>rfl) (fun f x=>by kernel_rfl) k
@[reducible] def Sn:LD:=⟨7,[0,1],[(.ret,[4,5]),(.normal,[4,5])],⟨[.ro (.int .i64),.int .i64],[]⟩,[(.ret,⟨[.sl 0,.int .i64],[.row (.int .i64) 3]⟩)]⟩
noncomputable def IB (N:Nat):((List Int)×Int)→Option (Int×(List Int))
 | (x0,x1) =>
 Option.bind (am0 N x0) fun y0 =>
 match y0 with
 | .inl y1 =>
  ac (y1.1 != (0:Int)) (
   some ((y1.1,[]))) (
   ac (decide (x1<(0:Int))) (
    none ) (
    ac (decide ((↑(List.length y1.2):Int)>IntKind.wrap IntKind.i64 ((1:Int)*(2:Int)^min (Int.toNat x1) (64:Nat)))) (
     some (((50:Int),[]))) (
     ac (decide ((0:Int)≤(↑(List.length x0):Int)∧(↑(List.length x0):Int)≤(↑(List.length x0):Int)∧(↑(List.length x0):Int)*(8:Int)≤(140737488355328:Int)∧(↑(List.length x0):Int)≤(140737488355328:Int))) (
      ac ((↑(List.length y1.2):Int)==(1:Int)) (
       ac (within (0:Int) (List.length y1.2)) (
        Option.bind (y1.2[(0:Nat)]?) fun y2 =>
        ac (within (0:Int) (List.length y2.2.1)) (
         Option.bind (y2.2.1[(0:Nat)]?) fun y3 =>
         ac (within y3 (List.length (List.replicate (Int.toNat (↑(List.length x0):Int)) (0:Int)))) (
          Option.bind ((List.replicate (Int.toNat (↑(List.length x0):Int)) (0:Int))[Int.toNat y3]?) fun y4 =>
          ac (decide ((↑(List.length y1.2):Int)<(2:Int))) (
           some (((0:Int),List.set (List.replicate (Int.toNat (↑(List.length x0):Int)) (0:Int)) (Int.toNat y3) (1:Int)))) (
           Option.bind (dP N N (y1.2,(0:Int),IntKind.wrap IntKind.i64 (x1-(1:Int)),y1.2,List.set (List.replicate (Int.toNat (↑(List.length x0):Int)) (0:Int)) (Int.toNat y3) (1:Int))) fun y5 =>
           ac (decide ((0:Int)≤IntKind.wrap IntKind.i64 (IntKind.wrap IntKind.i64 ((2:Int)*(↑(List.length y5.2.1):Int))-(2:Int))∧IntKind.wrap IntKind.i64 (IntKind.wrap IntKind.i64 ((2:Int)*(↑(List.length y5.2.1):Int))-(2:Int))≤(↑(List.length y5.1):Int))) (
            Option.bind (dO N N ((↑(List.length (List.take (Int.toNat (IntKind.wrap IntKind.i64 (IntKind.wrap IntKind.i64 ((2:Int)*(↑(List.length y5.2.1):Int))-(2:Int)))-(0:Nat)) (List.drop (0:Nat) y5.1))):Int),List.take (Int.toNat (IntKind.wrap IntKind.i64 (IntKind.wrap IntKind.i64 ((2:Int)*(↑(List.length y5.2.1):Int))-(2:Int)))-(0:Nat)) (List.drop (0:Nat) y5.1),(0:Int),y5.2.2)) fun y6 =>
            some (((0:Int),y6))) (
            none ))) (
          none )) (
         none )) (
        none )) (
       ac (decide ((↑(List.length y1.2):Int)<(2:Int))) (
        some (((0:Int),List.replicate (Int.toNat (↑(List.length x0):Int)) (0:Int)))) (
        Option.bind (dP N N (y1.2,(0:Int),IntKind.wrap IntKind.i64 (x1-(1:Int)),y1.2,List.replicate (Int.toNat (↑(List.length x0):Int)) (0:Int))) fun y7 =>
        ac (decide ((0:Int)≤IntKind.wrap IntKind.i64 (IntKind.wrap IntKind.i64 ((2:Int)*(↑(List.length y7.2.1):Int))-(2:Int))∧IntKind.wrap IntKind.i64 (IntKind.wrap IntKind.i64 ((2:Int)*(↑(List.length y7.2.1):Int))-(2:Int))≤(↑(List.length y7.1):Int))) (
         Option.bind (dO N N ((↑(List.length (List.take (Int.toNat (IntKind.wrap IntKind.i64 (IntKind.wrap IntKind.i64 ((2:Int)*(↑(List.length y7.2.1):Int))-(2:Int)))-(0:Nat)) (List.drop (0:Nat) y7.1))):Int),List.take (Int.toNat (IntKind.wrap IntKind.i64 (IntKind.wrap IntKind.i64 ((2:Int)*(↑(List.length y7.2.1):Int))-(2:Int)))-(0:Nat)) (List.drop (0:Nat) y7.1),(0:Int),y7.2.2)) fun y8 =>
         some (((0:Int),y8))) (
         none )))) (
      none ))))
 | .inr y1 =>
  ac (y1.2 != (0:Int)) (
   some ((y1.2,[]))) (
   ac (decide (x1<(0:Int))) (
    none ) (
    ac (decide ((↑(List.length y1.1):Int)>IntKind.wrap IntKind.i64 ((1:Int)*(2:Int)^min (Int.toNat x1) (64:Nat)))) (
     some (((50:Int),[]))) (
     ac (decide ((0:Int)≤(↑(List.length x0):Int)∧(↑(List.length x0):Int)≤(↑(List.length x0):Int)∧(↑(List.length x0):Int)*(8:Int)≤(140737488355328:Int)∧(↑(List.length x0):Int)≤(140737488355328:Int))) (
      ac ((↑(List.length y1.1):Int)==(1:Int)) (
       ac (within (0:Int) (List.length y1.1)) (
        Option.bind (y1.1[(0:Nat)]?) fun y9 =>
        ac (within (0:Int) (List.length y9.2.1)) (
         Option.bind (y9.2.1[(0:Nat)]?) fun y10 =>
         ac (within y10 (List.length (List.replicate (Int.toNat (↑(List.length x0):Int)) (0:Int)))) (
          Option.bind ((List.replicate (Int.toNat (↑(List.length x0):Int)) (0:Int))[Int.toNat y10]?) fun y11 =>
          ac (decide ((↑(List.length y1.1):Int)<(2:Int))) (
           some (((0:Int),List.set (List.replicate (Int.toNat (↑(List.length x0):Int)) (0:Int)) (Int.toNat y10) (1:Int)))) (
           Option.bind (dP N N (y1.1,(0:Int),IntKind.wrap IntKind.i64 (x1-(1:Int)),y1.1,List.set (List.replicate (Int.toNat (↑(List.length x0):Int)) (0:Int)) (Int.toNat y10) (1:Int))) fun y12 =>
           ac (decide ((0:Int)≤IntKind.wrap IntKind.i64 (IntKind.wrap IntKind.i64 ((2:Int)*(↑(List.length y12.2.1):Int))-(2:Int))∧IntKind.wrap IntKind.i64 (IntKind.wrap IntKind.i64 ((2:Int)*(↑(List.length y12.2.1):Int))-(2:Int))≤(↑(List.length y12.1):Int))) (
            Option.bind (dO N N ((↑(List.length (List.take (Int.toNat (IntKind.wrap IntKind.i64 (IntKind.wrap IntKind.i64 ((2:Int)*(↑(List.length y12.2.1):Int))-(2:Int)))-(0:Nat)) (List.drop (0:Nat) y12.1))):Int),List.take (Int.toNat (IntKind.wrap IntKind.i64 (IntKind.wrap IntKind.i64 ((2:Int)*(↑(List.length y12.2.1):Int))-(2:Int)))-(0:Nat)) (List.drop (0:Nat) y12.1),(0:Int),y12.2.2)) fun y13 =>
            some (((0:Int),y13))) (
            none ))) (
          none )) (
         none )) (
        none )) (
       ac (decide ((↑(List.length y1.1):Int)<(2:Int))) (
        some (((0:Int),List.replicate (Int.toNat (↑(List.length x0):Int)) (0:Int)))) (
        Option.bind (dP N N (y1.1,(0:Int),IntKind.wrap IntKind.i64 (x1-(1:Int)),y1.1,List.replicate (Int.toNat (↑(List.length x0):Int)) (0:Int))) fun y14 =>
        ac (decide ((0:Int)≤IntKind.wrap IntKind.i64 (IntKind.wrap IntKind.i64 ((2:Int)*(↑(List.length y14.2.1):Int))-(2:Int))∧IntKind.wrap IntKind.i64 (IntKind.wrap IntKind.i64 ((2:Int)*(↑(List.length y14.2.1):Int))-(2:Int))≤(↑(List.length y14.1):Int))) (
         Option.bind (dO N N ((↑(List.length (List.take (Int.toNat (IntKind.wrap IntKind.i64 (IntKind.wrap IntKind.i64 ((2:Int)*(↑(List.length y14.2.1):Int))-(2:Int)))-(0:Nat)) (List.drop (0:Nat) y14.1))):Int),List.take (Int.toNat (IntKind.wrap IntKind.i64 (IntKind.wrap IntKind.i64 ((2:Int)*(↑(List.length y14.2.1):Int))-(2:Int)))-(0:Nat)) (List.drop (0:Nat) y14.1),(0:Int),y14.2.2)) fun y15 =>
         some (((0:Int),y15))) (
         none )))) (
      none ))))
noncomputable def TE (N:Nat) (_:Nat):Cut:=Sn.cut (IB N)
theorem Pu (N:Nat) (k:Nat):al Tryz.prog false Tryz.f358 [] 7 (TE N k) :=
 Sn.pieceT ag ap (gC N) Tryz.f358 [] (cuts:=[(4090,ig N N),(2095718,eP N N),(8186,qy N N)]) ⟨eO N N,eo N N,oH N N,trivial⟩ (by decide +kernel) (by kernel_rfl) (IB N) (fun x=>by kernel_rfl)
@[reducible] def w358:List SP:=[⟨[.tup [.sl 0,.int .i64]],[.row (.int .i64) 3]⟩]
noncomputable def W6 (N:Nat):((List Int)×Int)→Option (Int×(List Int))
 | (x0,x1) =>
 ac (decide ((↑(List.length x0):Int)>(320:Int))) (
  some (((1:Int),[]))) (
  ac (decide (x1<(1:Int))) (
   some (((1:Int),[]))) (
   ac (decide (x1>(15:Int))) (
    some (((1:Int),[]))) (
    Option.bind (IB N (x0,x1)) fun y0 =>
    some ((y0.1,y0.2)))))
noncomputable def ai3 (N:Nat):Pk→Tr Pk:=ah s358 w358 (W6 N)
theorem Ko (N:Nat):aA Tryz.prog (358) (ai3 N) :=
 (af ag ap (gC N) Tryz.func358 s358 w358 [] (cuts:=[(4090,ig N N),(2095718,eP N N),(8186,qy N N),(7,TE N N)]) ⟨eO N N,eo N N,oH N N,Pu N N,trivial⟩ (fun _=>by kernel_rfl) (by decide +kernel) (W6 N) (fun x=>by kernel_rfl))
@[reducible] def s340:SP:=⟨[.ro (.int .i64)],[]⟩
noncomputable def YX (N:Nat):List (Nat×(Pk→Tr Pk)):=[(358,ai3 N)]
theorem Nh (N:Nat):ai Tryz.prog (YX N):=⟨Ko N,trivial⟩
@[reducible] def w340:List SP:=[⟨[.sl 0],[.row (.int .i64) 3]⟩]
noncomputable def Xa (N:Nat):((List Int))→Option ((List Int))
 | x0 =>
 Option.bind (W6 N (x0,(15:Int))) fun y0 =>
 some y0.2
noncomputable def aB6 (N:Nat):Pk→Tr Pk:=ah s340 w340 (Xa N)
theorem VK (N:Nat):aA Tryz.prog (340) (aB6 N) :=
 (af ag ap (Nh N) Tryz.func340 s340 w340 [] (cuts:=[]) trivial (fun _=>by kernel_rfl) (by decide +kernel) (Xa N) (fun x=>by kernel_rfl))
@[reducible] def s339:SP:=⟨[.ro (.int .i64),.int .i64],[]⟩
noncomputable def YY (N:Nat):List (Nat×(Pk→Tr Pk)):=[]
theorem xo (N:Nat):ai Tryz.prog (YY N):=trivial
@[reducible] def K8:LD:=⟨28,[5,1,0],[(.ret,[4]),(.exit 0,[0,5])],⟨[.int .i64,.int .i64,.ro (.int .i64)],[]⟩,[(.exit 0,⟨[.ro (.int .i64),.int .i64],[]⟩)]⟩
abbrev Co:Type:=Int×Int×(List Int)
abbrev Bw:Type:=(List Int)×Int
noncomputable def MD (N:Nat) (f:Co→Option Bw):Co→Option Bw
 | (x0,x1,x2) =>
 ac (decide (x0>x1)) (
  ac (within (IntKind.wrap IntKind.i64 (x0-(1:Int))) (List.length x2)) (
   Option.bind (x2[Int.toNat (IntKind.wrap IntKind.i64 (x0-(1:Int)))]?) fun y0 =>
   ac (y0==(0:Int)) (
    Option.bind (f (IntKind.wrap IntKind.i64 (x0-(1:Int)),x1,x2)) fun r=>some r) (
    some ((x2,x0)))) (
   none )) (
  some ((x2,x0)))
noncomputable def sw (N:Nat):Nat→Co→Option Bw
 | 0,_=>none
 | k+1,x=>MD N (sw N k) x
noncomputable def LV (N:Nat) (k:Nat):Cut:=K8.cut (sw N k)
theorem Jc (N:Nat) (k:Nat):al Tryz.prog false Tryz.f339 [] 28 (LV N k) :=
 K8.loopT ag ap (xo N) Tryz.f339 [] (cuts:=[]) trivial (by decide +kernel) (by kernel_rfl) (MD N) (sw N) (fun _=>rfl) (fun _ _=>rfl) (fun f x=>by kernel_rfl) k
@[reducible] def w339:List SP:=[⟨[.ro (.int .i64)],[]⟩]
noncomputable def Xb (N:Nat):((List Int)×Int)→Option ((List Int))
 | (x0,x1) =>
 Option.bind (sw N N ((↑(List.length x0):Int),x1,x0)) fun y0 =>
 ac (decide ((0:Int)≤y0.2∧y0.2≤(↑(List.length y0.1):Int))) (
  some (List.take (Int.toNat y0.2-(0:Nat)) (List.drop (0:Nat) y0.1))) (
  none )
noncomputable def aB7 (N:Nat):Pk→Tr Pk:=ah s339 w339 (Xb N)
theorem VL (N:Nat):aA Tryz.prog (339) (aB7 N) :=
 (af ag ap (xo N) Tryz.func339 s339 w339 [] (cuts:=[(28,LV N N)]) ⟨Jc N N,trivial⟩ (fun _=>by kernel_rfl) (by decide +kernel) (Xb N) (fun x=>by kernel_rfl))
@[reducible] def s359:SP:=⟨[.int .i64],[]⟩
noncomputable def YH (N:Nat):List (Nat×(Pk→Tr Pk)):=[]
theorem M7 (N:Nat):ai Tryz.prog (YH N):=trivial
@[reducible] def w359:List SP:=[⟨[.bool],[]⟩]
noncomputable def am6 (N:Nat):(Int)→Option (Bool)
 | x0 =>
 ac (decide (x0<(0:Int))) (
  some (true)) (
  some (decide (x0>(15:Int))))
noncomputable def aA5 (N:Nat):Pk→Tr Pk:=ah s359 w359 (am6 N)
theorem Vz (N:Nat):aA Tryz.prog (359) (aA5 N) :=
 (af ag ap (M7 N) Tryz.func359 s359 w359 [] (cuts:=[]) trivial (fun _=>by kernel_rfl) (by decide +kernel) (am6 N) (fun x=>by kernel_rfl))
@[reducible] def s109:SP:=⟨[.ro (.int .i64),.fn 359],[]⟩
noncomputable def aa9 (N:Nat):List (Nat×(Pk→Tr Pk)):=[(359,aA5 N)]
theorem xM (N:Nat):ai Tryz.prog (aa9 N):=⟨Vz N,trivial⟩
@[reducible] def Lp:LD:=⟨26,[7,1,0,8],[(.ret,[4]),(.exit 0,[])],⟨[.int .i64,.fn 359,.ro (.int .i64),.int .i64],[]⟩,[(.ret,⟨[.int .i64],[]⟩),(.exit 0,⟨[],[]⟩)]⟩
abbrev CL:Type:=Int×(List Int)×Int
abbrev BQ:Type:=((Int)⊕(Unit))
noncomputable def MI (N:Nat) (f:CL→Option BQ):CL→Option BQ
 | (x0,x1,x2) =>
 ac (decide (x2<x0)) (
  ac (within x2 (List.length x1)) (
   Option.bind (x1[Int.toNat x2]?) fun y0 =>
   Option.bind (am6 N y0) fun y1 =>
   ac (y1) (
    some (.inl (x2))) (
    Option.bind (f (x0,x1,IntKind.wrap IntKind.i64 (x2+(1:Int)))) fun r=>match r with|.inl y=>some (.inl y)|.inr y=>some (.inr y))) (
   none )) (
  some (.inr (())))
noncomputable def sD (N:Nat):Nat→CL→Option BQ
 | 0,_=>none
 | k+1,x=>MI N (sD N k) x
noncomputable def Mk (N:Nat) (k:Nat):Cut:=Lp.cut (sD N k)
theorem Jr (N:Nat) (k:Nat):al Tryz.prog false Tryz.f109 [] 26 (Mk N k) :=
 Lp.loopT ag ap (xM N) Tryz.f109 [] (cuts:=[]) trivial (by decide +kernel) (by kernel_rfl) (MI N) (sD N) (fun _=>rfl) (fun _ _=>rfl) (fun f x=>by kernel_rfl) k
@[reducible] def w109:List SP:=[⟨[.int .i64],[]⟩]
noncomputable def ap8 (N:Nat):((List Int))→Option (Int)
 | x0 =>
 Option.bind (sD N N ((↑(List.length x0):Int),x0,(0:Int))) fun y0 =>
 match y0 with
 | .inl y1 =>
  some (y1)
 | .inr y1 =>
  some ((-1:Int))
noncomputable def aH1 (N:Nat):Pk→Tr Pk:=ah s109 w109 (ap8 N)
theorem WM (N:Nat):aA Tryz.prog (109) (aH1 N) :=
 (af ag ap (xM N) Tryz.func109 s109 w109 [] (cuts:=[(26,Mk N N)]) ⟨Jr N N,trivial⟩ (fun _=>by kernel_rfl) (by decide +kernel) (ap8 N) (fun x=>by kernel_rfl))
@[reducible] def s77:SP:=⟨[.ro (.int .i64),.fn 359],[]⟩
noncomputable def at6 (N:Nat):List (Nat×(Pk→Tr Pk)):=[(109,aH1 N)]
theorem Qo (N:Nat):ai Tryz.prog (at6 N):=⟨WM N,trivial⟩
@[reducible] def w77:List SP:=[⟨[.bool],[]⟩]
noncomputable def F77 (N:Nat):((List Int))→Option (Bool)
 | x0 =>
 Option.bind (ap8 N x0) fun y0 =>
 some (decide (y0≥(0:Int)))
noncomputable def T77 (N:Nat):Pk→Tr Pk:=ah s77 w77 (F77 N)
theorem ag8 (N:Nat):aA Tryz.prog (77) (T77 N) :=
 (af ag ap (Qo N) Tryz.func77 s77 w77 [] (cuts:=[]) trivial (fun _=>by kernel_rfl) (by decide +kernel) (F77 N) (fun x=>by kernel_rfl))
@[reducible] def s378:SP:=⟨[.ro (.int .i64),.int .i64,.int .i64],[]⟩
noncomputable def Yp (N:Nat):List (Nat×(Pk→Tr Pk)):=[]
theorem xd (N:Nat):ai Tryz.prog (Yp N):=trivial
@[reducible] def KT:LD:=⟨28,[7,2,0,1],[(.ret,[6]),(.exit 0,[7])],⟨[.int .i64,.int .i64,.ro (.int .i64),.int .i64],[]⟩,[(.exit 0,⟨[.int .i64],[]⟩)]⟩
abbrev Cd:Type:=Int×Int×(List Int)×Int
abbrev Bl:Type:=Int
noncomputable def Ms (N:Nat) (f:Cd→Option Bl):Cd→Option Bl
 | (x0,x1,x2,x3) =>
 ac (decide (x0<x1)) (
  ac (decide (IntKind.wrap IntKind.i64 (x3+x0)<(↑(List.length x2):Int))) (
   ac (within (IntKind.wrap IntKind.i64 (x3+x0)) (List.length x2)) (
    Option.bind (x2[Int.toNat (IntKind.wrap IntKind.i64 (x3+x0))]?) fun y0 =>
    ac (within x3 (List.length x2)) (
     Option.bind (x2[Int.toNat x3]?) fun y1 =>
     ac (y0==y1) (
      Option.bind (f (IntKind.wrap IntKind.i64 (x0+(1:Int)),x1,x2,x3)) fun r=>some r) (
      some (x0))) (
     none )) (
    none )) (
   some (x0))) (
  some (x0))
noncomputable def sd (N:Nat):Nat→Cd→Option Bl
 | 0,_=>none
 | k+1,x=>Ms N (sd N k) x
noncomputable def LI (N:Nat) (k:Nat):Cut:=KT.cut (sd N k)
theorem I0 (N:Nat) (k:Nat):al Tryz.prog false Tryz.f378 [] 28 (LI N k) :=
 KT.loopT ag ap (xd N) Tryz.f378 [] (cuts:=[]) trivial (by decide +kernel) (by kernel_rfl) (Ms N) (sd N) (fun _=>rfl) (fun _ _=>rfl) (fun f x=>by kernel_rfl) k
@[reducible] def w378:List SP:=[⟨[.int .i64],[]⟩]
noncomputable def al8 (N:Nat):((List Int)×Int×Int)→Option (Int)
 | (x0,x1,x2) =>
 Option.bind (sd N N ((1:Int),x2,x0,x1)) fun y0 =>
 some (y0)
noncomputable def az6 (N:Nat):Pk→Tr Pk:=ah s378 w378 (al8 N)
theorem Vo (N:Nat):aA Tryz.prog (378) (az6 N) :=
 (af ag ap (xd N) Tryz.func378 s378 w378 [] (cuts:=[(28,LI N N)]) ⟨I0 N N,trivial⟩ (fun _=>by kernel_rfl) (by decide +kernel) (al8 N) (fun x=>by kernel_rfl))
end Go.Proofs.YtfcamlibbfnldaaGreat.Am
