/- The seat's Go functions come to the Lean functions written here, wherever these give an answer (part B). -/
import Derived.Test.YtfcamlibbfnldaaGreatSA
set_option linter.unusedSimpArgs false
set_option linter.unusedVariables false
set_option linter.unusedSectionVars false
set_option maxRecDepth 100000
namespace Go.Proofs.YtfcamlibbfnldaaGreat.Am
open Go.Am
@[reducible] def s158:SP:=⟨[.agg [.agg [.int .i64,.int .i64,.bool,.bool,.int .i64,.int .i64,.int .i64,.int .i64,.int .i64,.int .i64]],.ro (.int .i64),.int .i64,.adr 0 []],[.var 200 (.agg [.sl 1,.mp 2]),.row (.int .i64) 3,.map (.int .i64) (.int .i64)]⟩
noncomputable def aj1 (N:Nat):List (Nat×(Pk→Tr Pk)):=[(211,aw7 N),(153,XU N),(222,Xt N),(223,Xs N),(154,Qo N),(155,TK N),(193,aw9 N),(224,aS0 N)]
theorem pe (N:Nat):ai Tryz.prog (aj1 N):=⟨Lx N,Bw N,Bu N,Bt N,og N,si N,Lz N,Xr N,trivial⟩
@[reducible] def wm:LD:=⟨32034,[36,35,2,1,9,4,12,34,3,10,11],[(.ret,[8]),(.exit 2,[12,4,9,1,2,3,10,11]),(.exit 1,[12,4,9,1,2,3,10,11]),(.exit 0,[9,4,3,11])],⟨[.int .i64,.int .i64,.int .i64,.ro (.int .i64),.int .i64,.adr 1 [],.int .i64,.ro (.int .i64),.adr 0 [],.int .i64,.adr 2 []],[.var 200 (.agg [.sl 3,.mp 4]),.var 140 (.agg [.agg [.int .i64,.int .i64,.bool,.bool,.int .i64,.int .i64,.int .i64,.int .i64,.int .i64,.int .i64]]),.var 221 (.agg [.sl 5,.int .i64,.int .i64]),.row (.int .i64) 3,.map (.int .i64) (.int .i64),.row (.int .u8) 5]⟩,[(.exit 2,⟨[.int .i64,.adr 1 [],.int .i64,.ro (.int .i64),.int .i64,.adr 0 [],.int .i64,.adr 2 []],[.var 200 (.agg [.sl 3,.mp 4]),.var 140 (.agg [.agg [.int .i64,.int .i64,.bool,.bool,.int .i64,.int .i64,.int .i64,.int .i64,.int .i64,.int .i64]]),.var 221 (.agg [.sl 5,.int .i64,.int .i64]),.row (.int .i64) 3,.map (.int .i64) (.int .i64),.row (.int .u8) 5]⟩)]⟩
abbrev mZ:Type:=Int×Int×Int×(List Int)×Int×Int×(List Int)×Int×Int×Int×Bool×Bool×Int×Int×Int×Int×Int×Int×Int×Int×(List Int)×(List (Int×Int))×(List Int)
abbrev mR:Type:=Int×Int×(List Int)×Int×Int×Int×Int×Bool×Bool×Int×Int×Int×Int×Int×Int×Int×Int×(List Int)×(List (Int×Int))×(List Int)
noncomputable def dS (N:Nat) (f:mZ→Option mR):mZ→Option mR
 | (x0,x1,x2,x3,x4,x5,x6,x7,x8,x9,x10,x11,x12,x13,x14,x15,x16,x17,x18,x19,x20,x21,x22) =>
 ac (decide (x0<x1)) (
  ac (within x0 (List.length x6)) (
   Option.bind (x6[Int.toNat x0]?) fun y0 =>
   Option.bind (Js N (y0,x20,x21)) fun y1 =>
   Option.bind (xj N (y1.1,x7,x18,x19,x22)) fun y2 =>
   Option.bind (f (IntKind.wrap IntKind.i64 (x0+(1:Int)),x1,x2,x3,x4,x5,x6,x7,x8,x9,x10,x11,x12,x13,x14,x15,x16,x17,y2.1,y2.2.1,y1.2.1,y1.2.2,y2.2.2)) fun r=>some r) (
   none )) (
  some ((x5,x4,x3,x2,x7,x8,x9,x10,x11,x12,x13,x14,x15,x16,x17,x18,x19,x20,x21,x22)))
noncomputable def bI (N:Nat):Nat→mZ→Option mR
 | 0,_=>none
 | k+1,x=>dS N (bI N k) x
noncomputable def nk (N:Nat) (k:Nat):Cut:=wm.cut (bI N k)
theorem ml (N:Nat) (k:Nat):ak Tryz.prog false Tryz.f158 [0] 32034 (nk N k) :=
 wm.loopT ag am (pe N) Tryz.f158 [0] (cuts:=[]) trivial (by decide +kernel) (by kernel_rfl) (dS N) (bI N) (fun _=>rfl) (fun _ _=>rfl) (fun f x=>by kernel_rfl) k
@[reducible] def FI:LD:=⟨250,[4,9,1,2,12,3,10,11],[(.ret,[8]),(.exit 0,[9,4,3,11])],⟨[.adr 1 [],.int .i64,.ro (.int .i64),.int .i64,.int .i64,.adr 0 [],.int .i64,.adr 2 []],[.var 200 (.agg [.sl 3,.mp 4]),.var 140 (.agg [.agg [.int .i64,.int .i64,.bool,.bool,.int .i64,.int .i64,.int .i64,.int .i64,.int .i64,.int .i64]]),.var 221 (.agg [.sl 5,.int .i64,.int .i64]),.row (.int .i64) 3,.map (.int .i64) (.int .i64),.row (.int .u8) 5]⟩,[(.exit 0,⟨[.int .i64,.adr 1 [],.adr 0 [],.adr 2 []],[.var 200 (.agg [.sl 3,.mp 4]),.var 140 (.agg [.agg [.int .i64,.int .i64,.bool,.bool,.int .i64,.int .i64,.int .i64,.int .i64,.int .i64,.int .i64]]),.var 221 (.agg [.sl 5,.int .i64,.int .i64]),.row (.int .i64) 3,.map (.int .i64) (.int .i64),.row (.int .u8) 5]⟩)]⟩
abbrev vY:Type:=Int×(List Int)×Int×Int×Int×Int×Int×Bool×Bool×Int×Int×Int×Int×Int×Int×Int×Int×(List Int)×(List (Int×Int))×(List Int)
abbrev vh:Type:=Int×Int×Int×Bool×Bool×Int×Int×Int×Int×Int×Int×Int×Int×(List Int)×(List (Int×Int))×(List Int)
noncomputable def iD (N:Nat) (f:vY→Option vh):vY→Option vh
 | (x0,x1,x2,x3,x4,x5,x6,x7,x8,x9,x10,x11,x12,x13,x14,x15,x16,x17,x18,x19) =>
 ac (decide (x3<(↑(List.length x1):Int))) (
  ac (decide ((0:Int)≤IntKind.wrap IntKind.i64 (x3+x2)∧IntKind.wrap IntKind.i64 (x3+x2)≤(↑(List.length x1):Int))) (
   ac (decide ((0:Int)≤x3∧x3≤(↑(Int.toNat (IntKind.wrap IntKind.i64 (x3+x2))):Int))) (
    Option.bind (bI N N ((0:Int),(↑(List.length (List.take (Int.toNat (IntKind.wrap IntKind.i64 (x3+x2))-Int.toNat x3) (List.drop (Int.toNat x3) x1))):Int),x2,x1,x0,x3,List.take (Int.toNat (IntKind.wrap IntKind.i64 (x3+x2))-Int.toNat x3) (List.drop (Int.toNat x3) x1),x4,x5,x6,x7,x8,x9,x10,x11,x12,x13,x14,x15,x16,x17,x18,x19)) fun(y0_0,y0_1,y0_2,y0_3,y0_4,y0_5,y0_6,y0_7,y0_8,y0_9,y0_10,y0_11,y0_12,y0_13,y0_14,y0_15,y0_16,y0_17,y0_18,y0_19) =>
    Option.bind (Dq N (y0_15,y0_16,y0_19)) fun y1 =>
    Option.bind (f (y0_1,y0_2,y0_3,IntKind.wrap IntKind.i64 (y0_0+y0_3),y0_4,y0_5,y0_6,y0_7,y0_8,y0_9,y0_10,y0_11,y0_12,y0_13,y0_14,y1.1,y1.2.1,y0_17,y0_18,y1.2.2)) fun r=>some r) (
    none )) (
   none )) (
  some ((x0,x5,x6,x7,x8,x9,x10,x11,x12,x13,x14,x15,x16,x17,x18,x19)))
noncomputable def du (N:Nat):Nat→vY→Option vh
 | 0,_=>none
 | k+1,x=>iD N (du N k) x
noncomputable def Ha (N:Nat) (k:Nat):Cut:=FI.cut (du N k)
theorem G9 (N:Nat) (k:Nat):ak Tryz.prog false Tryz.f158 [0] 250 (Ha N k) :=
 FI.loopT ag am (pe N) Tryz.f158 [0] (cuts:=[(32034,nk N N)]) ⟨ml N N,trivial⟩ (by decide +kernel) (by kernel_rfl) (iD N) (du N) (fun _=>rfl) (fun _ _=>rfl) (fun f x=>by kernel_rfl) k
@[reducible] def w158:List SP:=[⟨[.str],[.var 200 (.agg [.sl 1,.mp 2]),.row (.int .i64) 3,.map (.int .i64) (.int .i64)]⟩]
noncomputable def UX (N:Nat):(Int×Int×Bool×Bool×Int×Int×Int×Int×Int×Int×(List Int)×Int×(List Int)×(List (Int×Int)))→Option (ByteArray×(List Int)×(List (Int×Int)))
 | (x0,x1,x2,x3,x4,x5,x6,x7,x8,x9,x10,x11,x12,x13) =>
 Option.bind (QI N (↑(List.length x12):Int)) fun y0 =>
 Option.bind (du N N ((↑(List.length x12):Int),x10,x11,(0:Int),y0,x0,x1,x2,x3,x4,x5,x6,x7,x8,x9,(0:Int),(0:Int),x12,x13,[])) fun(y1_0,y1_1,y1_2,y1_3,y1_4,y1_5,y1_6,y1_7,y1_8,y1_9,y1_10,y1_11,y1_12,y1_13,y1_14,y1_15) =>
 Option.bind (nc N y1_0) fun y2 =>
 Option.bind (xm N (y1_1,y1_2,y1_3,y1_4,y1_5,y1_6,y1_7,y1_8,y1_9,y1_10,y1_13)) fun y3 =>
 ac (decide ((↑(ByteArray.size y2+ByteArray.size y3):Int)>(9223372036854775807:Int))) (
  none ) (
  Option.bind (Jp N (y1_15,y1_11,y1_12,())) fun y4 =>
  Option.bind (UL N y4) fun y5 =>
  ac (decide ((↑(ByteArray.size (y2++y3)+ByteArray.size y5):Int)>(9223372036854775807:Int))) (
   none ) (
   some ((y2++y3++y5,y1_13,y1_14))))
noncomputable def aU2 (N:Nat):Pk→Tr Pk:=ah s158 w158 (UX N)
theorem XQ (N:Nat):av Tryz.prog (158) (aU2 N) :=
 (af ag am (pe N) Tryz.func158 s158 w158 [0] (cuts:=[(32034,nk N N),(250,Ha N N)]) ⟨ml N N,G9 N N,trivial⟩ (fun _=>by kernel_rfl) (by decide +kernel) (UX N) (fun x=>by kernel_rfl))
@[reducible] def s159:SP:=⟨[.agg [.agg [.int .i64,.int .i64,.bool,.bool,.int .i64,.int .i64,.int .i64,.int .i64,.int .i64,.int .i64]],.ro y0,.adr 0 []],[.var 200 (.agg [.sl 1,.mp 2]),.row (.int .i64) 3,.map (.int .i64) (.int .i64)]⟩
noncomputable def aj0 (N:Nat):List (Nat×(Pk→Tr Pk)):=[(154,Qo N),(155,TK N),(153,XU N),(221,aw6 N)]
theorem yf (N:Nat):ai Tryz.prog (aj0 N):=⟨og N,si N,Bw N,Lw N,trivial⟩
@[reducible] def Mr:LD:=⟨58,[7,27,26,25,2],[(.ret,[6]),(.exit 0,[7])],⟨[.str,.int .i64,.int .i64,.ro y0,.adr 0 []],[.var 200 (.agg [.sl 1,.mp 2]),.row (.int .i64) 3,.map (.int .i64) (.int .i64)]⟩,[(.exit 0,⟨[.str],[.var 200 (.agg [.sl 1,.mp 2]),.row (.int .i64) 3,.map (.int .i64) (.int .i64)]⟩)]⟩
abbrev C6:Type:=ByteArray×Int×Int×(List (Int×(Int×Unit)))×(List Int)×(List (Int×Int))
abbrev Cn:Type:=ByteArray×(List Int)×(List (Int×Int))
noncomputable def lZ (N:Nat) (f:C6→Option Cn):C6→Option Cn
 | (x0,x1,x2,x3,x4,x5) =>
 ac (decide (x1<x2)) (
  ac (within x1 (List.length x3)) (
   Option.bind (x3[Int.toNat x1]?) fun y0 =>
   Option.bind (Js N (y0.1,x4,x5)) fun y1 =>
   ac (y0.2.1==(1:Int)) (
    Option.bind (nc N y1.1) fun y2 =>
    ac (decide ((↑(ByteArray.size x0+ByteArray.size y2):Int)>(9223372036854775807:Int))) (
     none ) (
     Option.bind (f (x0++y2,IntKind.wrap IntKind.i64 (x1+(1:Int)),x2,x3,y1.2.1,y1.2.2)) fun r=>some r)) (
    Option.bind (nc N (IntKind.wrap IntKind.i64 (↑(BitVec.toNat (BitVec.ofInt (64:Nat) (128:Int) ||| BitVec.ofInt (64:Nat) y1.1)):Int))) fun y3 =>
    Option.bind (QF N y0.2.1) fun y4 =>
    ac (decide ((↑(ByteArray.size y3+ByteArray.size y4):Int)>(9223372036854775807:Int))) (
     none ) (
     ac (decide ((↑(ByteArray.size x0+ByteArray.size (y3++y4)):Int)>(9223372036854775807:Int))) (
      none ) (
      Option.bind (f (x0++(y3++y4),IntKind.wrap IntKind.i64 (x1+(1:Int)),x2,x3,y1.2.1,y1.2.2)) fun r=>some r)))) (
   none )) (
  some ((x0,x4,x5)))
noncomputable def eP (N:Nat):Nat→C6→Option Cn
 | 0,_=>none
 | k+1,x=>lZ N (eP N k) x
noncomputable def Nh (N:Nat) (k:Nat):Cut:=Mr.cut (eP N k)
theorem J9 (N:Nat) (k:Nat):ak Tryz.prog false Tryz.f159 [0] 58 (Nh N k) :=
 Mr.loopT ag am (yf N) Tryz.f159 [0] (cuts:=[]) trivial (by decide +kernel) (by kernel_rfl) (lZ N) (eP N) (fun _=>rfl) (fun _ _=>rfl) (fun f x=>by kernel_rfl) k
@[reducible] def w159:List SP:=[⟨[.str],[.var 200 (.agg [.sl 1,.mp 2]),.row (.int .i64) 3,.map (.int .i64) (.int .i64)]⟩]
noncomputable def QK (N:Nat):(Int×Int×Bool×Bool×Int×Int×Int×Int×Int×Int×(List (Int×(Int×Unit)))×(List Int)×(List (Int×Int)))→Option (ByteArray×(List Int)×(List (Int×Int)))
 | (x0,x1,x2,x3,x4,x5,x6,x7,x8,x9,x10,x11,x12) =>
 Option.bind (nc N (IntKind.wrap IntKind.i64 ((128:Int)+(↑(List.length x11):Int)))) fun y0 =>
 Option.bind (xm N (x0,x1,x2,x3,x4,x5,x6,x7,x8,x9,x11)) fun y1 =>
 ac (decide ((↑(ByteArray.size y0+ByteArray.size y1):Int)>(9223372036854775807:Int))) (
  none ) (
  Option.bind (eP N N (y0++y1,(0:Int),(↑(List.length x10):Int),x10,x11,x12)) fun y2 =>
  some ((y2.1,y2.2.1,y2.2.2)))
noncomputable def aU1 (N:Nat):Pk→Tr Pk:=ah s159 w159 (QK N)
theorem XP (N:Nat):av Tryz.prog (159) (aU1 N) :=
 (af ag am (yf N) Tryz.func159 s159 w159 [0] (cuts:=[(58,Nh N N)]) ⟨J9 N N,trivial⟩ (fun _=>by kernel_rfl) (by decide +kernel) (QK N) (fun x=>by kernel_rfl))
@[reducible] def s92:SP:=⟨[.agg [.agg [.int .i64,.int .i64,.bool,.bool,.int .i64,.int .i64,.int .i64,.int .i64,.int .i64,.int .i64]],.ro (.int .i64),.int .i64],[]⟩
noncomputable def aE6 (N:Nat):List (Nat×(Pk→Tr Pk)):=[(153,XU N),(154,Qo N),(155,TK N),(156,aU4 N),(157,aU3 N),(158,aU2 N),(159,aU1 N)]
theorem sY (N:Nat):ai Tryz.prog (aE6 N):=⟨Bw N,og N,si N,XS N,XR N,XQ N,XP N,trivial⟩
@[reducible] def TP:LD:=⟨58,[21,20,3,1,2,19,7],[(.ret,[6]),(.exit 0,[2,1,3,7])],⟨[.int .i64,.int .i64,.adr 0 [],.ro (.int .i64),.int .i64,.ro (.int .i64),.adr 1 []],[.var 140 (.agg [.agg [.int .i64,.int .i64,.bool,.bool,.int .i64,.int .i64,.int .i64,.int .i64,.int .i64,.int .i64]]),.var 200 (.agg [.sl 2,.mp 3]),.row (.int .i64) 3,.map (.int .i64) (.int .i64)]⟩,[(.exit 0,⟨[.int .i64,.ro (.int .i64),.adr 0 [],.adr 1 []],[.var 140 (.agg [.agg [.int .i64,.int .i64,.bool,.bool,.int .i64,.int .i64,.int .i64,.int .i64,.int .i64,.int .i64]]),.var 200 (.agg [.sl 2,.mp 3]),.row (.int .i64) 3,.map (.int .i64) (.int .i64)]⟩)]⟩
abbrev I1:Type:=Int×Int×(List Int)×Int×(List Int)×Int×Int×Bool×Bool×Int×Int×Int×Int×Int×Int×(List Int)×(List (Int×Int))
abbrev IN:Type:=Int×(List Int)×Int×Int×Bool×Bool×Int×Int×Int×Int×Int×Int×(List Int)×(List (Int×Int))
noncomputable def qP (N:Nat) (f:I1→Option IN):I1→Option IN
 | (x0,x1,x2,x3,x4,x5,x6,x7,x8,x9,x10,x11,x12,x13,x14,x15,x16) =>
 ac (decide (x0<x1)) (
  ac (within x0 (List.length x4)) (
   Option.bind (x4[Int.toNat x0]?) fun y0 =>
   Option.bind (Js N (y0,x15,x16)) fun y1 =>
   Option.bind (f (IntKind.wrap IntKind.i64 (x0+(1:Int)),x1,x2,x3,x4,x5,x6,x7,x8,x9,x10,x11,x12,x13,x14,y1.2.1,y1.2.2)) fun r=>some r) (
   none )) (
  some ((x3,x2,x5,x6,x7,x8,x9,x10,x11,x12,x13,x14,x15,x16)))
noncomputable def jb (N:Nat):Nat→I1→Option IN
 | 0,_=>none
 | k+1,x=>qP N (jb N k) x
noncomputable def Jz (N:Nat) (k:Nat):Cut:=TP.cut (jb N k)
theorem zN (N:Nat) (k:Nat):ak Tryz.prog false Tryz.f92 [] 58 (Jz N k) :=
 TP.loopT ag am (sY N) Tryz.f92 [] (cuts:=[]) trivial (by decide +kernel) (by kernel_rfl) (qP N) (jb N) (fun _=>rfl) (fun _ _=>rfl) (fun f x=>by kernel_rfl) k
@[reducible] def yV:LD:=⟨16378,[13,79,78,77],[(.ret,[6]),(.exit 2,[13])],⟨[.str,.int .i64,.int .i64,.sl 0],[.row (.str) 9]⟩,[(.exit 2,⟨[.str],[]⟩)]⟩
abbrev qh:Type:=ByteArray×Int×Int×(List ByteArray)
abbrev pT:Type:=ByteArray
noncomputable def fe (N:Nat) (f:qh→Option pT):qh→Option pT
 | (x0,x1,x2,x3) =>
 ac (decide (x1<x2)) (
  ac (within x1 (List.length x3)) (
   Option.bind (x3[Int.toNat x1]?) fun y0 =>
   ac (decide ((↑(ByteArray.size y0):Int)<(↑(ByteArray.size x0):Int))) (
    Option.bind (f (y0,IntKind.wrap IntKind.i64 (x1+(1:Int)),x2,x3)) fun r=>some r) (
    Option.bind (f (x0,IntKind.wrap IntKind.i64 (x1+(1:Int)),x2,x3)) fun r=>some r)) (
   none )) (
  some (x0))
noncomputable def bz (N:Nat):Nat→qh→Option pT
 | 0,_=>none
 | k+1,x=>fe N (bz N k) x
noncomputable def zO (N:Nat) (k:Nat):Cut:=yV.cut (bz N k)
theorem Dv (N:Nat) (k:Nat):ak Tryz.prog false Tryz.f92 [] 16378 (zO N k) :=
 yV.loopT ag am (sY N) Tryz.f92 [] (cuts:=[(58,Jz N N)]) ⟨zN N N,trivial⟩ (by decide +kernel) (by kernel_rfl) (fe N) (bz N) (fun _=>rfl) (fun _ _=>rfl) (fun f x=>by kernel_rfl) k
@[reducible] def w92:List SP:=[⟨[.str],[]⟩]
noncomputable def Yh (N:Nat):(Int×Int×Bool×Bool×Int×Int×Int×Int×Int×Int×(List Int)×Int)→Option (ByteArray)
 | (x0,x1,x2,x3,x4,x5,x6,x7,x8,x9,x10,x11) =>
 Option.bind (jb N N ((0:Int),(↑(List.length x10):Int),x10,x11,x10,x0,x1,x2,x3,x4,x5,x6,x7,x8,x9,[],[])) fun(y0_0,y0_1,y0_2,y0_3,y0_4,y0_5,y0_6,y0_7,y0_8,y0_9,y0_10,y0_11,y0_12,y0_13) =>
 ac ((↑(List.length y0_12):Int)==(1:Int)) (
  Option.bind (nc N (1:Int)) fun y1 =>
  Option.bind (xm N (y0_2,y0_3,y0_4,y0_5,y0_6,y0_7,y0_8,y0_9,y0_10,y0_11,y0_12)) fun y2 =>
  ac (decide ((↑(ByteArray.size y1+ByteArray.size y2):Int)>(9223372036854775807:Int))) (
   none ) (
   some (y1++y2))) (
  Option.bind (UZ N y0_1) fun y3 =>
  Option.bind (nc N (0:Int)) fun y4 =>
  Option.bind (xm N (y0_2,y0_3,y0_4,y0_5,y0_6,y0_7,y0_8,y0_9,y0_10,y0_11,y0_1)) fun y5 =>
  ac (decide ((↑(ByteArray.size y4+ByteArray.size y5):Int)>(9223372036854775807:Int))) (
   none ) (
   Option.bind (UY N (y0_2,y0_3,y0_4,y0_5,y0_6,y0_7,y0_8,y0_9,y0_10,y0_11,y3)) fun y6 =>
   ac (decide ((↑(List.length y0_12):Int)≤(16:Int))) (
    Option.bind (UX N (y0_2,y0_3,y0_4,y0_5,y0_6,y0_7,y0_8,y0_9,y0_10,y0_11,y0_1,y0_0,y0_12,y0_13)) fun y7 =>
    ac (decide ((List.length [y4++y5,y6]+List.length [y7.1])*(16:Nat)≤(140737488355328:Nat)∧List.length [y4++y5,y6]+List.length [y7.1]≤(140737488355328:Nat))) (
     ac (decide ((↑(List.length y0_12):Int)<(128:Int))) (
      Option.bind (QK N (y0_2,y0_3,y0_4,y0_5,y0_6,y0_7,y0_8,y0_9,y0_10,y0_11,y3,y7.2.1,y7.2.2)) fun y8 =>
      ac (decide ((List.length [y4++y5,y6,y7.1]+List.length [y8.1])*(16:Nat)≤(140737488355328:Nat)∧List.length [y4++y5,y6,y7.1]+List.length [y8.1]≤(140737488355328:Nat))) (
       ac (within (0:Int) (List.length [y4++y5,y6,y7.1,y8.1])) (
        Option.bind (bz N N (y4++y5,(0:Int),(↑(List.length [y4++y5,y6,y7.1,y8.1]):Int),[y4++y5,y6,y7.1,y8.1])) fun y9 =>
        some (y9)) (
        none )) (
       none )) (
      ac (within (0:Int) (List.length [y4++y5,y6,y7.1])) (
       Option.bind (bz N N (y4++y5,(0:Int),(↑(List.length [y4++y5,y6,y7.1]):Int),[y4++y5,y6,y7.1])) fun y10 =>
       some (y10)) (
       none ))) (
     none )) (
    ac (decide ((↑(List.length y0_12):Int)<(128:Int))) (
     Option.bind (QK N (y0_2,y0_3,y0_4,y0_5,y0_6,y0_7,y0_8,y0_9,y0_10,y0_11,y3,y0_12,y0_13)) fun y11 =>
     ac (decide ((List.length [y4++y5,y6]+List.length [y11.1])*(16:Nat)≤(140737488355328:Nat)∧List.length [y4++y5,y6]+List.length [y11.1]≤(140737488355328:Nat))) (
      ac (within (0:Int) (List.length [y4++y5,y6,y11.1])) (
       Option.bind (bz N N (y4++y5,(0:Int),(↑(List.length [y4++y5,y6,y11.1]):Int),[y4++y5,y6,y11.1])) fun y12 =>
       some (y12)) (
       none )) (
      none )) (
     ac (within (0:Int) (List.length [y4++y5,y6])) (
      Option.bind (bz N N (y4++y5,(0:Int),(↑(List.length [y4++y5,y6]):Int),[y4++y5,y6])) fun y13 =>
      some (y13)) (
      none )))))
noncomputable def T92 (N:Nat):Pk→Tr Pk:=ah s92 w92 (Yh N)
theorem ar8 (N:Nat):av Tryz.prog (92) (T92 N) :=
 (af ag am (sY N) Tryz.func92 s92 w92 [] (cuts:=[(58,Jz N N),(16378,zO N N)]) ⟨zN N N,Dv N N,trivial⟩ (fun _=>by kernel_rfl) (by decide +kernel) (Yh N) (fun x=>by kernel_rfl))
@[reducible] def s34:SP:=⟨[.agg [.int .i64,.int .i64,.bool,.bool,.int .i64,.int .i64,.int .i64,.int .i64,.int .i64,.int .i64],.int .i64,.int .i64,.ro (.int .i64)],[]⟩
noncomputable def aH0 (N:Nat):List (Nat×(Pk→Tr Pk)):=[(35,T35 N),(91,T91 N),(82,T82 N),(92,T92 N),(62,VU s62.I (T62 N) (as9 N))]
theorem jI (N:Nat):ai Tryz.prog (aH0 N):=⟨uB N,ar9 N,IG N,ar8 N,mC (Tv N) (K4 N),trivial⟩
@[reducible] def fE:LD:=⟨518554,[15,46,45,11,12,38,39,40,1,10,14],[(.ret,[8,9]),(.exit 2,[15,14,40,39,38,12,11,1,10]),(.exit 1,[40,39,38,12,11,1,10]),(.exit 0,[12])],⟨[.sl 0,.int .i64,.int .i64,.adr 1 [],.adr 2 [],.sl 3,.int .i64,.int .i64,.int .i64,.sl 4,.adr 5 []],[.row (.int .i64) 3,.var 140 (.agg [.agg [.int .i64,.int .i64,.bool,.bool,.int .i64,.int .i64,.int .i64,.int .i64,.int .i64,.int .i64]]),.var 95 (.agg [.nilp,.sl 6]),.row y1 126,.row (.int .i64) 3,.var 126 (.agg [.int .i64,.int .i64,.int .i64,.int .i64]),.row (.int .u8) 5]⟩,[(.exit 2,⟨[.sl 0,.adr 1 [],.int .i64,.int .i64,.sl 2,.adr 3 [],.adr 4 [],.int .i64,.sl 5],[.row (.int .i64) 3,.var 126 (.agg [.int .i64,.int .i64,.int .i64,.int .i64]),.row y1 126,.var 95 (.agg [.nilp,.sl 6]),.var 140 (.agg [.agg [.int .i64,.int .i64,.bool,.bool,.int .i64,.int .i64,.int .i64,.int .i64,.int .i64,.int .i64]]),.row (.int .i64) 3,.row (.int .u8) 5]⟩)]⟩
abbrev mW:Type:=Int×Int×Int×Int×Int×(List Int)×Int×Int×Bool×Bool×Int×Int×Int×Int×Int×Int×(List (Int×(Int×(Int×(Int×Unit)))))×(List Int)×Int×Int×Int×Int×(List Int)
abbrev mO:Type:=Int×Int×Int×(List Int)×Int×Int×Int×Int×(List (Int×(Int×(Int×(Int×Unit)))))×Int×Int×Bool×Bool×Int×Int×Int×Int×Int×Int×(List Int)×(List Int)
noncomputable def dQ (N:Nat) (f:mW→Option mO):mW→Option mO
 | (x0,x1,x2,x3,x4,x5,x6,x7,x8,x9,x10,x11,x12,x13,x14,x15,x16,x17,x18,x19,x20,x21,x22) =>
 ac (decide (x0<x1)) (
  ac (decide ((0:Int)≤IntKind.wrap IntKind.i64 (IntKind.wrap IntKind.i64 (IntKind.wrap IntKind.i64 (IntKind.wrap IntKind.i64 (x19+x0)*x4)+x18)+x20)∧IntKind.wrap IntKind.i64 (IntKind.wrap IntKind.i64 (IntKind.wrap IntKind.i64 (IntKind.wrap IntKind.i64 (x19+x0)*x4)+x18)+x20)≤(↑(List.length x17):Int))) (
   ac (decide ((0:Int)≤IntKind.wrap IntKind.i64 (IntKind.wrap IntKind.i64 (IntKind.wrap IntKind.i64 (x19+x0)*x4)+x18)∧IntKind.wrap IntKind.i64 (IntKind.wrap IntKind.i64 (IntKind.wrap IntKind.i64 (x19+x0)*x4)+x18)≤(↑(Int.toNat (IntKind.wrap IntKind.i64 (IntKind.wrap IntKind.i64 (IntKind.wrap IntKind.i64 (IntKind.wrap IntKind.i64 (x19+x0)*x4)+x18)+x20))):Int))) (
    ac (decide ((List.length x5+List.length (List.take (Int.toNat (IntKind.wrap IntKind.i64 (IntKind.wrap IntKind.i64 (IntKind.wrap IntKind.i64 (IntKind.wrap IntKind.i64 (x19+x0)*x4)+x18)+x20))-Int.toNat (IntKind.wrap IntKind.i64 (IntKind.wrap IntKind.i64 (IntKind.wrap IntKind.i64 (x19+x0)*x4)+x18))) (List.drop (Int.toNat (IntKind.wrap IntKind.i64 (IntKind.wrap IntKind.i64 (IntKind.wrap IntKind.i64 (x19+x0)*x4)+x18))) x17)))*(8:Nat)≤(140737488355328:Nat)∧List.length x5+List.length (List.take (Int.toNat (IntKind.wrap IntKind.i64 (IntKind.wrap IntKind.i64 (IntKind.wrap IntKind.i64 (IntKind.wrap IntKind.i64 (x19+x0)*x4)+x18)+x20))-Int.toNat (IntKind.wrap IntKind.i64 (IntKind.wrap IntKind.i64 (IntKind.wrap IntKind.i64 (x19+x0)*x4)+x18))) (List.drop (Int.toNat (IntKind.wrap IntKind.i64 (IntKind.wrap IntKind.i64 (IntKind.wrap IntKind.i64 (x19+x0)*x4)+x18))) x17))≤(140737488355328:Nat))) (
     Option.bind (f (IntKind.wrap IntKind.i64 (x0+(1:Int)),x1,x2,x3,x4,x5++List.take (Int.toNat (IntKind.wrap IntKind.i64 (IntKind.wrap IntKind.i64 (IntKind.wrap IntKind.i64 (IntKind.wrap IntKind.i64 (x19+x0)*x4)+x18)+x20))-Int.toNat (IntKind.wrap IntKind.i64 (IntKind.wrap IntKind.i64 (IntKind.wrap IntKind.i64 (x19+x0)*x4)+x18))) (List.drop (Int.toNat (IntKind.wrap IntKind.i64 (IntKind.wrap IntKind.i64 (IntKind.wrap IntKind.i64 (x19+x0)*x4)+x18))) x17),x6,x7,x8,x9,x10,x11,x12,x13,x14,x15,x16,x17,x18,x19,x20,x21,x22)) fun r=>some r) (
     none )) (
    none )) (
   none )) (
  some ((x3,x2,x4,x5,x18,x19,x20,x21,x16,x6,x7,x8,x9,x10,x11,x12,x13,x14,x15,x17,x22)))
noncomputable def b7 (N:Nat):Nat→mW→Option mO
 | 0,_=>none
 | k+1,x=>dQ N (b7 N k) x
noncomputable def fO (N:Nat) (k:Nat):Cut:=fE.cut (b7 N k)
theorem dZ (N:Nat) (k:Nat):ak Tryz.prog false Tryz.f34 [] 518554 (fO N k) :=
 fE.loopT ag am (jI N) Tryz.f34 [] (cuts:=[]) trivial (by decide +kernel) (by kernel_rfl) (dQ N) (b7 N) (fun _=>rfl) (fun _ _=>rfl) (fun f x=>by kernel_rfl) k
@[reducible] def rl:LD:=⟨518554,[15,46,45,11,12,38,39,40,1,10,14],[(.ret,[8,9]),(.exit 2,[15,14,40,39,38,12,11,1,10]),(.exit 1,[40,39,38,12,11,1,10]),(.exit 0,[12])],⟨[.sl 0,.int .i64,.int .i64,.adr 1 [],.adr 2 [],.sl 3,.int .i64,.int .i64,.int .i64,.sl 4,.adr 5 []],[.row (.int .i64) 3,.var 140 (.agg [.agg [.int .i64,.int .i64,.bool,.bool,.int .i64,.int .i64,.int .i64,.int .i64,.int .i64,.int .i64]]),.var 95 (.agg [.adr 2 [],.sl 6]),.row y1 126,.row (.int .i64) 3,.var 126 (.agg [.int .i64,.int .i64,.int .i64,.int .i64]),.row (.int .u8) 5]⟩,[(.exit 2,⟨[.sl 0,.adr 1 [],.int .i64,.int .i64,.sl 2,.adr 3 [],.adr 4 [],.int .i64,.sl 5],[.row (.int .i64) 3,.var 126 (.agg [.int .i64,.int .i64,.int .i64,.int .i64]),.row y1 126,.var 95 (.agg [.adr 3 [],.sl 6]),.var 140 (.agg [.agg [.int .i64,.int .i64,.bool,.bool,.int .i64,.int .i64,.int .i64,.int .i64,.int .i64,.int .i64]]),.row (.int .i64) 3,.row (.int .u8) 5]⟩)]⟩
abbrev kr:Type:=Int×Int×Int×Int×Int×(List Int)×Int×Int×Bool×Bool×Int×Int×Int×Int×Int×Int×(List (Int×(Int×(Int×(Int×Unit)))))×(List Int)×Int×Int×Int×Int×(List Int)
abbrev ki:Type:=Int×Int×Int×(List Int)×Int×Int×Int×Int×(List (Int×(Int×(Int×(Int×Unit)))))×Int×Int×Bool×Bool×Int×Int×Int×Int×Int×Int×(List Int)×(List Int)
noncomputable def da (N:Nat) (f:kr→Option ki):kr→Option ki
 | (x0,x1,x2,x3,x4,x5,x6,x7,x8,x9,x10,x11,x12,x13,x14,x15,x16,x17,x18,x19,x20,x21,x22) =>
 ac (decide (x0<x1)) (
  ac (decide ((0:Int)≤IntKind.wrap IntKind.i64 (IntKind.wrap IntKind.i64 (IntKind.wrap IntKind.i64 (IntKind.wrap IntKind.i64 (x19+x0)*x4)+x18)+x20)∧IntKind.wrap IntKind.i64 (IntKind.wrap IntKind.i64 (IntKind.wrap IntKind.i64 (IntKind.wrap IntKind.i64 (x19+x0)*x4)+x18)+x20)≤(↑(List.length x17):Int))) (
   ac (decide ((0:Int)≤IntKind.wrap IntKind.i64 (IntKind.wrap IntKind.i64 (IntKind.wrap IntKind.i64 (x19+x0)*x4)+x18)∧IntKind.wrap IntKind.i64 (IntKind.wrap IntKind.i64 (IntKind.wrap IntKind.i64 (x19+x0)*x4)+x18)≤(↑(Int.toNat (IntKind.wrap IntKind.i64 (IntKind.wrap IntKind.i64 (IntKind.wrap IntKind.i64 (IntKind.wrap IntKind.i64 (x19+x0)*x4)+x18)+x20))):Int))) (
    ac (decide ((List.length x5+List.length (List.take (Int.toNat (IntKind.wrap IntKind.i64 (IntKind.wrap IntKind.i64 (IntKind.wrap IntKind.i64 (IntKind.wrap IntKind.i64 (x19+x0)*x4)+x18)+x20))-Int.toNat (IntKind.wrap IntKind.i64 (IntKind.wrap IntKind.i64 (IntKind.wrap IntKind.i64 (x19+x0)*x4)+x18))) (List.drop (Int.toNat (IntKind.wrap IntKind.i64 (IntKind.wrap IntKind.i64 (IntKind.wrap IntKind.i64 (x19+x0)*x4)+x18))) x17)))*(8:Nat)≤(140737488355328:Nat)∧List.length x5+List.length (List.take (Int.toNat (IntKind.wrap IntKind.i64 (IntKind.wrap IntKind.i64 (IntKind.wrap IntKind.i64 (IntKind.wrap IntKind.i64 (x19+x0)*x4)+x18)+x20))-Int.toNat (IntKind.wrap IntKind.i64 (IntKind.wrap IntKind.i64 (IntKind.wrap IntKind.i64 (x19+x0)*x4)+x18))) (List.drop (Int.toNat (IntKind.wrap IntKind.i64 (IntKind.wrap IntKind.i64 (IntKind.wrap IntKind.i64 (x19+x0)*x4)+x18))) x17))≤(140737488355328:Nat))) (
     Option.bind (f (IntKind.wrap IntKind.i64 (x0+(1:Int)),x1,x2,x3,x4,x5++List.take (Int.toNat (IntKind.wrap IntKind.i64 (IntKind.wrap IntKind.i64 (IntKind.wrap IntKind.i64 (IntKind.wrap IntKind.i64 (x19+x0)*x4)+x18)+x20))-Int.toNat (IntKind.wrap IntKind.i64 (IntKind.wrap IntKind.i64 (IntKind.wrap IntKind.i64 (x19+x0)*x4)+x18))) (List.drop (Int.toNat (IntKind.wrap IntKind.i64 (IntKind.wrap IntKind.i64 (IntKind.wrap IntKind.i64 (x19+x0)*x4)+x18))) x17),x6,x7,x8,x9,x10,x11,x12,x13,x14,x15,x16,x17,x18,x19,x20,x21,x22)) fun r=>some r) (
     none )) (
    none )) (
   none )) (
  some ((x3,x2,x4,x5,x18,x19,x20,x21,x16,x6,x7,x8,x9,x10,x11,x12,x13,x14,x15,x17,x22)))
noncomputable def bG (N:Nat):Nat→kr→Option ki
 | 0,_=>none
 | k+1,x=>da N (bG N k) x
noncomputable def gu (N:Nat) (k:Nat):Cut:=rl.cut (bG N k)
theorem fM (N:Nat) (k:Nat):ak Tryz.prog false Tryz.f34 [] 518554 (gu N k) :=
 rl.loopT ag am (jI N) Tryz.f34 [] (cuts:=[(518554,fO N N)]) ⟨dZ N N,trivial⟩ (by decide +kernel) (by kernel_rfl) (da N) (bG N) (fun _=>rfl) (fun _ _=>rfl) (fun f x=>by kernel_rfl) k
@[reducible] def fF:LD:=⟨506,[39,38,12,11,40,1,10],[(.ret,[8,9]),(.exit 0,[12])],⟨[.int .i64,.sl 0,.adr 1 [],.adr 2 [],.int .i64,.int .i64,.sl 3],[.row y1 126,.var 95 (.agg [.adr 1 [],.sl 4]),.var 140 (.agg [.agg [.int .i64,.int .i64,.bool,.bool,.int .i64,.int .i64,.int .i64,.int .i64,.int .i64,.int .i64]]),.row (.int .i64) 3,.row (.int .u8) 5]⟩,[(.exit 0,⟨[.adr 0 []],[.var 95 (.agg [.adr 0 [],.sl 1]),.row (.int .u8) 5]⟩),(.exit 0,⟨[.adr 0 []],[.var 95 (.agg [.nilp,.sl 1]),.row (.int .u8) 5]⟩)]⟩
abbrev vH:Type:=Int×Int×Int×(List (Int×(Int×(Int×(Int×Unit)))))×Int×Int×Bool×Bool×Int×Int×Int×Int×Int×Int×(List Int)×(List Int)
abbrev uS:Type:=(((List Int))⊕((List Int)))
noncomputable def fR (N:Nat) (f:vH→Option uS):vH→Option uS
 | (x0,x1,x2,x3,x4,x5,x6,x7,x8,x9,x10,x11,x12,x13,x14,x15) =>
 ac (decide (x1<x0)) (
  ac (within x1 (List.length x3)) (
   Option.bind (x3[Int.toNat x1]?) fun y0 =>
   Option.bind (bG N N ((0:Int),y0.2.2.2.1,x0,x1,x2,[],x4,x5,x6,x7,x8,x9,x10,x11,x12,x13,x3,x14,y0.1,y0.2.1,y0.2.2.1,y0.2.2.2.1,x15)) fun(y1_0,y1_1,y1_2,y1_3,y1_4,y1_5,y1_6,y1_7,y1_8,y1_9,y1_10,y1_11,y1_12,y1_13,y1_14,y1_15,y1_16,y1_17,y1_18,y1_19,y1_20) =>
   Option.bind (Yh N (y1_9,y1_10,y1_11,y1_12,y1_13,y1_14,y1_15,y1_16,y1_17,y1_18,y1_3,y1_6)) fun y2 =>
   Option.bind (Qr N (y2,y1_20)) fun y3 =>
   Option.bind (f (y1_1,IntKind.wrap IntKind.i64 (y1_0+(1:Int)),y1_2,y1_8,y1_9,y1_10,y1_11,y1_12,y1_13,y1_14,y1_15,y1_16,y1_17,y1_18,y1_19,y3.2)) fun r=>match r with|.inl y=>some (.inl y)|.inr y=>some (.inr y)) (
   none )) (
  some (.inl (x15)))
noncomputable def ca (N:Nat):Nat→vH→Option uS
 | 0,_=>none
 | k+1,x=>fR N (ca N k) x
noncomputable def wL (N:Nat) (k:Nat):Cut:=fF.cut (ca N k)
theorem rD (N:Nat) (k:Nat):ak Tryz.prog false Tryz.f34 [] 506 (wL N k) :=
 fF.loopT ag am (jI N) Tryz.f34 [] (cuts:=[(518554,DG fE.s.I (fO N N) (gu N N))]) ⟨fun c' h=>cA (dZ N N c' h) (fM N N c' h) rfl rfl,trivial⟩ (by decide +kernel) (by kernel_rfl) (fR N) (ca N) (fun _=>rfl) (fun _ _=>rfl) (fun f x=>by kernel_rfl) k
@[reducible] def Mb:LD:=⟨506,fF.live,fF.out,⟨[.int .i64,.sl 0,.adr 1 [],.adr 2 [],.int .i64,.int .i64,.sl 3],[.row y1 126,.var 95 (.agg [.nilp,.sl 4]),.var 140 (.agg [.agg [.int .i64,.int .i64,.bool,.bool,.int .i64,.int .i64,.int .i64,.int .i64,.int .i64,.int .i64]]),.row (.int .i64) 3,.row (.int .u8) 5]⟩,fF.w⟩
noncomputable def lT (N:Nat) (f:(Int×Int×Int×(List (Int×(Int×(Int×(Int×Unit)))))×Int×Int×Bool×Bool×Int×Int×Int×Int×Int×Int×(List Int)×(List Int))→Option ((((List Int))⊕((List Int))))):(Int×Int×Int×(List (Int×(Int×(Int×(Int×Unit)))))×Int×Int×Bool×Bool×Int×Int×Int×Int×Int×Int×(List Int)×(List Int))→Option ((((List Int))⊕((List Int))))
 | (x0,x1,x2,x3,x4,x5,x6,x7,x8,x9,x10,x11,x12,x13,x14,x15) =>
 ac (decide (x1<x0)) (
  ac (within x1 (List.length x3)) (
   Option.bind (x3[Int.toNat x1]?) fun y0 =>
   Option.bind (b7 N N ((0:Int),y0.2.2.2.1,x0,x1,x2,[],x4,x5,x6,x7,x8,x9,x10,x11,x12,x13,x3,x14,y0.1,y0.2.1,y0.2.2.1,y0.2.2.2.1,x15)) fun(y1_0,y1_1,y1_2,y1_3,y1_4,y1_5,y1_6,y1_7,y1_8,y1_9,y1_10,y1_11,y1_12,y1_13,y1_14,y1_15,y1_16,y1_17,y1_18,y1_19,y1_20) =>
   Option.bind (Yh N (y1_9,y1_10,y1_11,y1_12,y1_13,y1_14,y1_15,y1_16,y1_17,y1_18,y1_3,y1_6)) fun y2 =>
   Option.bind (F62 N (y2,y1_20)) fun y3 =>
   Option.bind (f (y1_1,IntKind.wrap IntKind.i64 (y1_0+(1:Int)),y1_2,y1_8,y1_9,y1_10,y1_11,y1_12,y1_13,y1_14,y1_15,y1_16,y1_17,y1_18,y1_19,y3.2)) fun r=>match r with|.inl y=>some (.inl y)|.inr y=>some (.inr y)) (
   none )) (
  some (.inr (x15)))
noncomputable def Dm (N:Nat) (k:Nat):(Int×Int×Int×(List (Int×(Int×(Int×(Int×Unit)))))×Int×Int×Bool×Bool×Int×Int×Int×Int×Int×Int×(List Int)×(List Int))→Option ((((List Int))⊕((List Int)))):=lT N (ca N k)
noncomputable def M0 (N:Nat) (k:Nat):Cut:=Mb.cut (Dm N k)
theorem JU (N:Nat) (k:Nat):ak Tryz.prog false Tryz.f34 [] 506 (M0 N k) :=
 Mb.loop2T ag am (jI N) fF.s Tryz.f34 [] (cuts:=[(518554,DG fE.s.I (fO N N) (gu N N)),(506,wL N N)]) ⟨fun c' h=>cA (dZ N N c' h) (fM N N c' h) rfl rfl,rD N N,trivial⟩ (by decide +kernel) (by kernel_rfl) (lT N) (fR N) (ca N) (fun _=>rfl) (fun _ _=>rfl) (fun f g x=>by kernel_rfl) (fun f g x=>by kernel_rfl) k
@[reducible] def w34:List SP:=[⟨[.tup [.str,.int .i64]],[]⟩]
noncomputable def Ux (N:Nat):(Int×Int×Bool×Bool×Int×Int×Int×Int×Int×Int×Int×Int×(List Int))→Option (ByteArray×Int)
 | (x0,x1,x2,x3,x4,x5,x6,x7,x8,x9,x10,x11,x12) =>
 Option.bind (YB N (x0,x1,x2,x3,x4,x5,x6,x7,x8,x9,x10,x11)) fun y0 =>
 ac (!y0) (
  some ((ByteArray.mk #[],(1:Int)))) (
  ac ((↑(List.length x12):Int) != IntKind.wrap IntKind.i64 (x10*x11)) (
   some ((ByteArray.mk #[],(1:Int)))) (
   Option.bind (F91 N (x0,x1,x2,x3,x4,x5,x6,x7,x8,x9,x12)) fun y1 =>
   Option.bind (F82 N (x10,x11,(64:Int))) fun y2 =>
   Option.bind (Dm N N ((↑(List.length y2):Int),(0:Int),x10,y2,x0,x1,x2,x3,x4,x5,x6,x7,x8,x9,y1,[])) fun y3 =>
   match y3 with
   | .inl y4 =>
    ac (decide ((0:Nat)<List.length y4∧List.length y4≤(140737488355328:Nat))) (
     some ((aE y4,(0:Int)))) (
     ac (decide (List.length y4=(0:Nat))) (
      some ((ByteArray.empty,(0:Int)))) (
      none ))
   | .inr y4 =>
    ac (decide ((0:Nat)<List.length y4∧List.length y4≤(140737488355328:Nat))) (
     some ((aE y4,(0:Int)))) (
     ac (decide (List.length y4=(0:Nat))) (
      some ((ByteArray.empty,(0:Int)))) (
      none ))))
noncomputable def T34 (N:Nat):Pk→Tr Pk:=ah s34 w34 (Ux N)
theorem TD (N:Nat):av Tryz.prog (34) (T34 N) :=
 (af ag am (jI N) Tryz.func34 s34 w34 [] (cuts:=[(518554,DG fE.s.I (fO N N) (gu N N)),(506,DG fF.s.I (wL N N) (M0 N N))]) ⟨fun c' h=>cA (dZ N N c' h) (fM N N c' h) rfl rfl,fun c' h=>cA (rD N N c' h) (JU N N c' h) rfl rfl,trivial⟩ (fun _=>by kernel_rfl) (by decide +kernel) (Ux N) (fun x=>by kernel_rfl))
@[reducible] def s229:SP:=⟨[.str],[]⟩
noncomputable def af7 (N:Nat):List (Nat×(Pk→Tr Pk)):=[]
theorem OQ (N:Nat):ai Tryz.prog (af7 N):=trivial
@[reducible] def w229:List SP:=[⟨[.str],[]⟩]
noncomputable def Jj (N:Nat):(ByteArray)→Option (ByteArray)
 | x0 =>
 ac (decide (((0:Int)≤if (0:Int)>IntKind.wrap IntKind.i64 ((↑(ByteArray.size x0):Int)-(32768:Int)) then (0:Int) else IntKind.wrap IntKind.i64 ((↑(ByteArray.size x0):Int)-(32768:Int)))∧(if (0:Int)>IntKind.wrap IntKind.i64 ((↑(ByteArray.size x0):Int)-(32768:Int)) then (0:Int) else IntKind.wrap IntKind.i64 ((↑(ByteArray.size x0):Int)-(32768:Int)))≤(↑(ByteArray.size x0):Int))) (
  some (ByteArray.extract x0 (Int.toNat (if (0:Int)>IntKind.wrap IntKind.i64 ((↑(ByteArray.size x0):Int)-(32768:Int)) then (0:Int) else IntKind.wrap IntKind.i64 ((↑(ByteArray.size x0):Int)-(32768:Int)))) (ByteArray.size x0))) (
  none )
noncomputable def Qn (N:Nat):Pk→Tr Pk:=ah s229 w229 (Jj N)
theorem oe (N:Nat):av Tryz.prog (229) (Qn N) :=
 (af ag am (OQ N) Tryz.func229 s229 w229 [] (cuts:=[]) trivial (fun _=>by kernel_rfl) (by decide +kernel) (Jj N) (fun x=>by kernel_rfl))
@[reducible] def s286:SP:=⟨[.adr 0 [],.int .i64],[.var 318 (.agg [.str,.mp 1,.sl 2]),.map (.str) (.int .i64),.row (.int .i64) 3]⟩
noncomputable def ae1 (N:Nat):List (Nat×(Pk→Tr Pk)):=[]
theorem OH (N:Nat):ai Tryz.prog (ae1 N):=trivial
@[reducible] def w286:List SP:=[⟨[.tup []],[.var 318 (.agg [.str,.mp 1,.sl 2]),.map (.str) (.int .i64),.row (.int .i64) 3]⟩]
noncomputable def YN (N:Nat):(Int×ByteArray×(List (ByteArray×Int))×(List Int))→Option (ByteArray×(List (ByteArray×Int))×(List Int))
 | (x0,x1,x2,x3) =>
 ac (decide (IntKind.wrap IntKind.i64 (x0+(3:Int))≤(↑(ByteArray.size x1):Int))) (
  ac (decide ((0:Int)≤IntKind.wrap IntKind.i64 (x0+(3:Int))∧IntKind.wrap IntKind.i64 (x0+(3:Int))≤(↑(ByteArray.size x1):Int))) (
   ac (decide ((0:Int)≤x0∧x0≤(↑(Int.toNat (IntKind.wrap IntKind.i64 (x0+(3:Int)))):Int))) (
    ac (jY Ty.str (ByteArray.extract x1 (Int.toNat x0) (Int.toNat (IntKind.wrap IntKind.i64 (x0+(3:Int))))) x2) (
     ac (decide ((List.length x3+List.length [gG Ty.str (ByteArray.extract x1 (Int.toNat x0) (Int.toNat (IntKind.wrap IntKind.i64 (x0+(3:Int))))) (0:Int) x2])*(8:Nat)≤(140737488355328:Nat)∧List.length x3+List.length [gG Ty.str (ByteArray.extract x1 (Int.toNat x0) (Int.toNat (IntKind.wrap IntKind.i64 (x0+(3:Int))))) (0:Int) x2]≤(140737488355328:Nat))) (
      some ((x1,dK Ty.str (ByteArray.extract x1 (Int.toNat x0) (Int.toNat (IntKind.wrap IntKind.i64 (x0+(3:Int))))) x0 x2,x3++[gG Ty.str (ByteArray.extract x1 (Int.toNat x0) (Int.toNat (IntKind.wrap IntKind.i64 (x0+(3:Int))))) (0:Int) x2]))) (
      none )) (
     ac (decide ((List.length x3+(1:Nat))*(8:Nat)≤(140737488355328:Nat)∧List.length x3+(1:Nat)≤(140737488355328:Nat))) (
      some ((x1,dK Ty.str (ByteArray.extract x1 (Int.toNat x0) (Int.toNat (IntKind.wrap IntKind.i64 (x0+(3:Int))))) x0 x2,x3++[(-1:Int)]))) (
      none ))) (
    none )) (
   none )) (
  ac (decide ((List.length x3+(1:Nat))*(8:Nat)≤(140737488355328:Nat)∧List.length x3+(1:Nat)≤(140737488355328:Nat))) (
   some ((x1,x2,x3++[(-1:Int)]))) (
   none ))
noncomputable def aQ7 (N:Nat):Pk→Tr Pk:=ah s286 w286 (YN N)
theorem Xe (N:Nat):av Tryz.prog (286) (aQ7 N) :=
 (af ag am (OH N) Tryz.func286 s286 w286 [0] (cuts:=[]) trivial (fun _=>by kernel_rfl) (by decide +kernel) (YN N) (fun x=>by kernel_rfl))
@[reducible] def y4:Ty:=(.cons (.int .i64) (.cons (.int .i64) (.cons (.int .i64) .unit)))
@[reducible] def s321:SP:=⟨[.adr 0 [],.int .i64,.int .i64],[.var 318 (.agg [.str,.mp 1,.sl 2]),.map (.str) (.int .i64),.row (.int .i64) 3]⟩
noncomputable def ad0 (N:Nat):List (Nat×(Pk→Tr Pk)):=[]
theorem xN (N:Nat):ai Tryz.prog (ad0 N):=trivial
@[reducible] def Mg:LD:=⟨28,[7,1,0,2],[(.ret,[6]),(.exit 0,[7])],⟨[.int .i64,.int .i64,.adr 0 [],.int .i64],[.var 318 (.agg [.str,.mp 1,.sl 2]),.map (.str) (.int .i64),.row (.int .i64) 3]⟩,[(.exit 0,⟨[.int .i64],[.var 318 (.agg [.str,.mp 1,.sl 2]),.map (.str) (.int .i64),.row (.int .i64) 3]⟩)]⟩
abbrev CW:Type:=Int×Int×Int×ByteArray×(List (ByteArray×Int))×(List Int)
abbrev Cd:Type:=Int×ByteArray×(List (ByteArray×Int))×(List Int)
noncomputable def NM (N:Nat) (f:CW→Option Cd):CW→Option Cd
 | (x0,x1,x2,x3,x4,x5) =>
 ac (decide (x0<(258:Int))) (
  ac (decide (IntKind.wrap IntKind.i64 (x2+x0)<(↑(ByteArray.size x3):Int))) (
   ac (decide ((0:Int)≤IntKind.wrap IntKind.i64 (x1+x0))) (
    Option.bind (x3[Int.toNat (IntKind.wrap IntKind.i64 (x1+x0))]?) fun y0 =>
    ac (decide ((0:Int)≤IntKind.wrap IntKind.i64 (x2+x0))) (
     Option.bind (x3[Int.toNat (IntKind.wrap IntKind.i64 (x2+x0))]?) fun y1 =>
     ac ((↑(UInt8.toNat y0):Int)==(↑(UInt8.toNat y1):Int)) (
      Option.bind (f (IntKind.wrap IntKind.i64 (x0+(1:Int)),x1,x2,x3,x4,x5)) fun r=>some r) (
      some ((x0,x3,x4,x5)))) (
     none )) (
    none )) (
   some ((x0,x3,x4,x5)))) (
  some ((x0,x3,x4,x5)))
noncomputable def sN (N:Nat):Nat→CW→Option Cd
 | 0,_=>none
 | k+1,x=>NM N (sN N k) x
noncomputable def M4 (N:Nat) (k:Nat):Cut:=Mg.cut (sN N k)
theorem JY (N:Nat) (k:Nat):ak Tryz.prog false Tryz.f321 [0] 28 (M4 N k) :=
 Mg.loopT ag am (xN N) Tryz.f321 [0] (cuts:=[]) trivial (by decide +kernel) (by kernel_rfl) (NM N) (sN N) (fun _=>rfl) (fun _ _=>rfl) (fun f x=>by kernel_rfl) k
@[reducible] def w321:List SP:=[⟨[.int .i64],[.var 318 (.agg [.str,.mp 1,.sl 2]),.map (.str) (.int .i64),.row (.int .i64) 3]⟩]
noncomputable def aA1 (N:Nat):(Int×Int×ByteArray×(List (ByteArray×Int))×(List Int))→Option (Int×ByteArray×(List (ByteArray×Int))×(List Int))
 | (x0,x1,x2,x3,x4) =>
 Option.bind (sN N N ((0:Int),x0,x1,x2,x3,x4)) fun y0 =>
 some ((y0.1,y0.2.1,y0.2.2.1,y0.2.2.2))
noncomputable def aP9 (N:Nat):Pk→Tr Pk:=ah s321 w321 (aA1 N)
theorem W4 (N:Nat):av Tryz.prog (321) (aP9 N) :=
 (af ag am (xN N) Tryz.func321 s321 w321 [0] (cuts:=[(28,M4 N N)]) ⟨JY N N,trivial⟩ (fun _=>by kernel_rfl) (by decide +kernel) (aA1 N) (fun x=>by kernel_rfl))
@[reducible] def s287:SP:=⟨[.adr 0 [],.int .i64],[.var 318 (.agg [.str,.mp 1,.sl 2]),.map (.str) (.int .i64),.row (.int .i64) 3]⟩
noncomputable def ae0 (N:Nat):List (Nat×(Pk→Tr Pk)):=[(321,aP9 N)]
theorem pb (N:Nat):ai Tryz.prog (ae0 N):=⟨W4 N,trivial⟩
@[reducible] def zk:LD:=⟨1001,[7,9,8,4,1,6,0],[(.ret,[4,5]),(.exit 0,[6,4]),(.normal,[7,9,8,4,1,6,0])],⟨[.int .i64,.int .i64,.bool,.adr 1 [],.int .i64,.adr 2 [],.adr 0 []],[.var 318 (.agg [.str,.mp 3,.sl 4]),.var 281 (.agg [.int .i64,.int .i64,.int .i64]),.var 281 (.agg [.int .i64,.int .i64,.int .i64]),.map (.str) (.int .i64),.row (.int .i64) 3]⟩,[(.normal,⟨[.int .i64,.int .i64,.bool,.adr 1 [],.int .i64,.adr 2 [],.adr 0 []],[.var 318 (.agg [.str,.mp 3,.sl 4]),.var 281 (.agg [.int .i64,.int .i64,.int .i64]),.var 281 (.agg [.int .i64,.int .i64,.int .i64]),.map (.str) (.int .i64),.row (.int .i64) 3]⟩)]⟩
noncomputable def qB (N:Nat):(Int×Int×Bool×Int×ByteArray×Int×Int×Int×Int×Int×Int×(List (ByteArray×Int))×(List Int))→Option (Int×Int×Bool×Int×ByteArray×Int×Int×Int×Int×Int×Int×(List (ByteArray×Int))×(List Int))
 | (x0,x1,x2,x3,x4,x5,x6,x7,x8,x9,x10,x11,x12) =>
 Option.bind (aA1 N (x0,x3,x4,x11,x12)) fun y0 =>
 ac (decide (y0.1>x9)) (
  ac (within x0 (List.length y0.2.2.2)) (
   Option.bind (y0.2.2.2[Int.toNat x0]?) fun y1 =>
   some ((y1,IntKind.wrap IntKind.i64 (x1+(1:Int)),x2,x3,y0.2.1,x5,x6,x7,(0:Int),y0.1,IntKind.wrap IntKind.i64 (x3-x0),y0.2.2.1,y0.2.2.2))) (
   none )) (
  ac (within x0 (List.length y0.2.2.2)) (
   Option.bind (y0.2.2.2[Int.toNat x0]?) fun y2 =>
   some ((y2,IntKind.wrap IntKind.i64 (x1+(1:Int)),x2,x3,y0.2.1,x5,x6,x7,x8,x9,x10,y0.2.2.1,y0.2.2.2))) (
   none ))
noncomputable def qM (N:Nat) (_:Nat):Cut:=zk.cut (qB N)
theorem oV (N:Nat) (k:Nat):ak Tryz.prog false Tryz.f287 [0] 1001 (qM N k) :=
 zk.pieceT ag am (pb N) Tryz.f287 [0] (cuts:=[]) trivial (by decide +kernel) (by kernel_rfl) (qB N) (fun x=>by kernel_rfl)
@[reducible] def Fy:LD:=⟨250,[7,9,8,4,1,6,0],[(.ret,[4,5]),(.exit 0,[6,4])],⟨[.int .i64,.int .i64,.bool,.adr 1 [],.int .i64,.adr 2 [],.adr 0 []],[.var 318 (.agg [.str,.mp 3,.sl 4]),.var 281 (.agg [.int .i64,.int .i64,.int .i64]),.var 281 (.agg [.int .i64,.int .i64,.int .i64]),.map (.str) (.int .i64),.row (.int .i64) 3]⟩,[(.exit 0,⟨[.adr 1 [],.adr 2 []],[.var 318 (.agg [.str,.mp 3,.sl 4]),.var 281 (.agg [.int .i64,.int .i64,.int .i64]),.var 281 (.agg [.int .i64,.int .i64,.int .i64]),.map (.str) (.int .i64),.row (.int .i64) 3]⟩)]⟩
abbrev vO:Type:=Int×Int×Bool×Int×ByteArray×Int×Int×Int×Int×Int×Int×(List (ByteArray×Int))×(List Int)
abbrev uZ:Type:=ByteArray×Int×Int×Int×Int×Int×Int×(List (ByteArray×Int))×(List Int)
noncomputable def HA (N:Nat) (f:vO→Option uZ):vO→Option uZ
 | (x0,x1,x2,x3,x4,x5,x6,x7,x8,x9,x10,x11,x12) =>
 ac (x2) (
  ac (decide (x1<(64:Int))) (
   ac (decide (x0≥(0:Int))) (
    ac (decide (IntKind.wrap IntKind.i64 (x3-x0)≤(32768:Int))) (
     Option.bind (qB N (x0,x1,x2,x3,x4,x5,x6,x7,x8,x9,x10,x11,x12)) fun(y0_0,y0_1,y0_2,y0_3,y0_4,y0_5,y0_6,y0_7,y0_8,y0_9,y0_10,y0_11,y0_12) =>
     Option.bind (f (y0_0,y0_1,y0_2,y0_3,y0_4,y0_5,y0_6,y0_7,y0_8,y0_9,y0_10,y0_11,y0_12)) fun r=>some r) (
     some ((x4,x8,x9,x10,x5,x6,x7,x11,x12)))) (
    some ((x4,x8,x9,x10,x5,x6,x7,x11,x12)))) (
   some ((x4,x8,x9,x10,x5,x6,x7,x11,x12)))) (
  some ((x4,x8,x9,x10,x5,x6,x7,x11,x12)))
noncomputable def oI (N:Nat):Nat→vO→Option uZ
 | 0,_=>none
 | k+1,x=>HA N (oI N k) x
noncomputable def GW (N:Nat) (k:Nat):Cut:=Fy.cut (oI N k)
theorem GV (N:Nat) (k:Nat):ak Tryz.prog false Tryz.f287 [0] 250 (GW N k) :=
 Fy.loopT ag am (pb N) Tryz.f287 [0] (cuts:=[(1001,qM N N)]) ⟨oV N N,trivial⟩ (by decide +kernel) (by kernel_rfl) (HA N) (oI N) (fun _=>rfl) (fun _ _=>rfl) (fun f x=>by kernel_rfl) k
@[reducible] def w287:List SP:=[⟨[.tup [.agg [.int .i64,.int .i64,.int .i64],.bool]],[.var 318 (.agg [.str,.mp 1,.sl 2]),.map (.str) (.int .i64),.row (.int .i64) 3]⟩]
noncomputable def aA7 (N:Nat):(Int×ByteArray×(List (ByteArray×Int))×(List Int))→Option (Int×Int×Int×Bool×ByteArray×(List (ByteArray×Int))×(List Int))
 | (x0,x1,x2,x3) =>
 ac (decide (IntKind.wrap IntKind.i64 (x0+(3:Int))>(↑(ByteArray.size x1):Int))) (
  some (((0:Int),(0:Int),(0:Int),false,x1,x2,x3))) (
  ac (decide ((0:Int)≤IntKind.wrap IntKind.i64 (x0+(3:Int))∧IntKind.wrap IntKind.i64 (x0+(3:Int))≤(↑(ByteArray.size x1):Int))) (
   ac (decide ((0:Int)≤x0∧x0≤(↑(Int.toNat (IntKind.wrap IntKind.i64 (x0+(3:Int)))):Int))) (
    Option.bind (oI N N (gG Ty.str (ByteArray.extract x1 (Int.toNat x0) (Int.toNat (IntKind.wrap IntKind.i64 (x0+(3:Int))))) (0:Int) x2,(0:Int),jY Ty.str (ByteArray.extract x1 (Int.toNat x0) (Int.toNat (IntKind.wrap IntKind.i64 (x0+(3:Int))))) x2,x0,x1,(0:Int),(0:Int),(0:Int),(0:Int),(0:Int),(0:Int),x2,x3)) fun(y0_0,y0_1,y0_2,y0_3,y0_4,y0_5,y0_6,y0_7,y0_8) =>
    some ((y0_1,y0_2,y0_3,decide (y0_2≥(3:Int)),y0_0,y0_7,y0_8))) (
    none )) (
   none ))
noncomputable def aQ6 (N:Nat):Pk→Tr Pk:=ah s287 w287 (aA7 N)
theorem Xd (N:Nat):av Tryz.prog (287) (aQ6 N) :=
 (af ag am (pb N) Tryz.func287 s287 w287 [0] (cuts:=[(1001,qM N N),(250,GW N N)]) ⟨oV N N,GV N N,trivial⟩ (fun _=>by kernel_rfl) (by decide +kernel) (aA7 N) (fun x=>by kernel_rfl))
@[reducible] def s251:SP:=⟨[.str,.str],[]⟩
noncomputable def af3 (N:Nat):List (Nat×(Pk→Tr Pk)):=[(229,Qn N),(286,aQ7 N),(287,aQ6 N)]
theorem lc (N:Nat):ai Tryz.prog (af3 N):=⟨oe N,Xe N,Xd N,trivial⟩
@[reducible] def FD:LD:=⟨122,[22,21,5,6],[(.ret,[4]),(.exit 0,[5,6])],⟨[.int .i64,.int .i64,.str,.adr 0 []],[.var 318 (.agg [.str,.mp 1,.sl 2]),.map (.str) (.int .i64),.row (.int .i64) 3]⟩,[(.exit 0,⟨[.str,.adr 0 []],[.var 318 (.agg [.str,.mp 1,.sl 2]),.map (.str) (.int .i64),.row (.int .i64) 3]⟩)]⟩
abbrev vS:Type:=Int×Int×ByteArray×ByteArray×(List (ByteArray×Int))×(List Int)
abbrev u9:Type:=ByteArray×ByteArray×(List (ByteArray×Int))×(List Int)
noncomputable def HD (N:Nat) (f:vS→Option u9):vS→Option u9
 | (x0,x1,x2,x3,x4,x5) =>
 ac (decide (x0<x1)) (
  Option.bind (YN N (x0,x3,x4,x5)) fun y0 =>
  Option.bind (f (IntKind.wrap IntKind.i64 (x0+(1:Int)),x1,x2,y0.1,y0.2.1,y0.2.2)) fun r=>some r) (
  some ((x2,x3,x4,x5)))
noncomputable def oL (N:Nat):Nat→vS→Option u9
 | 0,_=>none
 | k+1,x=>HD N (oL N k) x
noncomputable def oW (N:Nat) (k:Nat):Cut:=FD.cut (oL N k)
theorem kT (N:Nat) (k:Nat):ak Tryz.prog false Tryz.f251 [] 122 (oW N k) :=
 FD.loopT ag am (lc N) Tryz.f251 [] (cuts:=[]) trivial (by decide +kernel) (by kernel_rfl) (HD N) (oL N) (fun _=>rfl) (fun _ _=>rfl) (fun f x=>by kernel_rfl) k
@[reducible] def ru:LD:=⟨129630,[9,61,60,8,6],[(.ret,[4]),(.exit 4,[8,9,6]),(.exit 3,[8,9,6]),(.exit 2,[8])],⟨[.int .i64,.int .i64,.int .i64,.sl 0,.adr 1 []],[.row y4 281,.var 318 (.agg [.str,.mp 2,.sl 3]),.map (.str) (.int .i64),.row (.int .i64) 3]⟩,[(.exit 4,⟨[.sl 0,.int .i64,.adr 1 []],[.row y4 281,.var 318 (.agg [.str,.mp 2,.sl 3]),.map (.str) (.int .i64),.row (.int .i64) 3]⟩)]⟩
abbrev kw:Type:=Int×Int×Int×(List (Int×(Int×(Int×Unit))))×ByteArray×(List (ByteArray×Int))×(List Int)
abbrev ko:Type:=Int×(List (Int×(Int×(Int×Unit))))×ByteArray×(List (ByteArray×Int))×(List Int)
noncomputable def rK (N:Nat) (f:kw→Option ko):kw→Option ko
 | (x0,x1,x2,x3,x4,x5,x6) =>
 ac (decide (x1<x2)) (
  Option.bind (YN N (x0,x4,x5,x6)) fun y0 =>
  Option.bind (f (IntKind.wrap IntKind.i64 (x0+(1:Int)),IntKind.wrap IntKind.i64 (x1+(1:Int)),x2,x3,y0.1,y0.2.1,y0.2.2)) fun r=>some r) (
  some ((x0,x3,x4,x5,x6)))
noncomputable def eo (N:Nat):Nat→kw→Option ko
 | 0,_=>none
 | k+1,x=>rK N (eo N k) x
noncomputable def kS (N:Nat) (k:Nat):Cut:=ru.cut (eo N k)
theorem kR (N:Nat) (k:Nat):ak Tryz.prog false Tryz.f251 [] 129630 (kS N k) :=
 ru.loopT ag am (lc N) Tryz.f251 [] (cuts:=[(122,oW N N)]) ⟨kT N N,trivial⟩ (by decide +kernel) (by kernel_rfl) (rK N) (eo N) (fun _=>rfl) (fun _ _=>rfl) (fun f x=>by kernel_rfl) k
@[reducible] def FC:LD:=⟨506,[8,9,6],[(.ret,[4]),(.exit 2,[8])],⟨[.sl 0,.int .i64,.adr 1 []],[.row y4 281,.var 318 (.agg [.str,.mp 2,.sl 3]),.map (.str) (.int .i64),.row (.int .i64) 3]⟩,[(.exit 2,⟨[.sl 0],[.row y4 281]⟩)]⟩
abbrev vR:Type:=Int×(List (Int×(Int×(Int×Unit))))×ByteArray×(List (ByteArray×Int))×(List Int)
abbrev u7:Type:=(List (Int×(Int×(Int×Unit))))
noncomputable def HC (N:Nat) (f:vR→Option u7):vR→Option u7
 | (x0,x1,x2,x3,x4) =>
 ac (decide (x0<(↑(ByteArray.size x2):Int))) (
  Option.bind (aA7 N (x0,x2,x3,x4)) fun(y0_0,y0_1,y0_2,y0_3,y0_4,y0_5,y0_6) =>
  ac (!y0_3) (
   ac (decide ((0:Int)≤x0)) (
    Option.bind (y0_4[Int.toNat x0]?) fun y1 =>
    ac (decide ((List.length x1+List.length [(IntKind.wrap IntKind.i64 (↑(UInt8.toNat y1):Int),(0:Int),(0:Int),())])*(24:Nat)≤(140737488355328:Nat)∧List.length x1+List.length [(IntKind.wrap IntKind.i64 (↑(UInt8.toNat y1):Int),(0:Int),(0:Int),())]≤(140737488355328:Nat))) (
     Option.bind (eo N N (x0,(0:Int),(1:Int),x1++[(IntKind.wrap IntKind.i64 (↑(UInt8.toNat y1):Int),(0:Int),(0:Int),())],y0_4,y0_5,y0_6)) fun y2 =>
     Option.bind (f (y2.1,y2.2.1,y2.2.2.1,y2.2.2.2.1,y2.2.2.2.2)) fun r=>some r) (
     none )) (
    none )) (
   ac (decide ((List.length x1+List.length [(y0_0,y0_1,y0_2,())])*(24:Nat)≤(140737488355328:Nat)∧List.length x1+List.length [(y0_0,y0_1,y0_2,())]≤(140737488355328:Nat))) (
    Option.bind (eo N N (x0,(0:Int),if (1:Int)>y0_1 then (1:Int) else y0_1,x1++[(y0_0,y0_1,y0_2,())],y0_4,y0_5,y0_6)) fun y3 =>
    Option.bind (f (y3.1,y3.2.1,y3.2.2.1,y3.2.2.2.1,y3.2.2.2.2)) fun r=>some r) (
    none ))) (
  some (x1))
noncomputable def oK (N:Nat):Nat→vR→Option u7
 | 0,_=>none
 | k+1,x=>HC N (oK N k) x
noncomputable def G2 (N:Nat) (k:Nat):Cut:=FC.cut (oK N k)
theorem G1 (N:Nat) (k:Nat):ak Tryz.prog false Tryz.f251 [] 506 (G2 N k) :=
 FC.loopT ag am (lc N) Tryz.f251 [] (cuts:=[(122,oW N N),(129630,kS N N)]) ⟨kT N N,kR N N,trivial⟩ (by decide +kernel) (by kernel_rfl) (HC N) (oK N) (fun _=>rfl) (fun _ _=>rfl) (fun f x=>by kernel_rfl) k
@[reducible] def w251:List SP:=[⟨[.sl 0],[.row y4 281]⟩]
noncomputable def aA9 (N:Nat):(ByteArray×ByteArray)→Option ((List (Int×(Int×(Int×Unit)))))
 | (x0,x1) =>
 Option.bind (Jj N x0) fun y0 =>
 ac (decide ((↑(ByteArray.size y0+ByteArray.size x1):Int)>(9223372036854775807:Int))) (
  none ) (
  Option.bind (oL N N ((0:Int),(↑(ByteArray.size y0):Int),y0,y0++x1,[],[])) fun y1 =>
  Option.bind (oK N N ((↑(ByteArray.size y1.1):Int),[],y1.2.1,y1.2.2.1,y1.2.2.2)) fun y2 =>
  some (y2))
noncomputable def aR6 (N:Nat):Pk→Tr Pk:=ah s251 w251 (aA9 N)
theorem Xn (N:Nat):av Tryz.prog (251) (aR6 N) :=
 (af ag am (lc N) Tryz.func251 s251 w251 [] (cuts:=[(122,oW N N),(129630,kS N N),(506,G2 N N)]) ⟨kT N N,kR N N,G1 N N,trivial⟩ (fun _=>by kernel_rfl) (by decide +kernel) (aA9 N) (fun x=>by kernel_rfl))
@[reducible] def s352:SP:=⟨[.int .i64,.int .i64,.int .i64],[]⟩
noncomputable def aa7 (N:Nat):List (Nat×(Pk→Tr Pk)):=[]
theorem Oh (N:Nat):ai Tryz.prog (aa7 N):=trivial
@[reducible] def w352:List SP:=[⟨[.bool],[]⟩]
noncomputable def Uu (N:Nat):(Int×Int×Int)→Option (Bool)
 | (x0,x1,x2) =>
 ac (decide (x1≤x0)) (
  some (decide (x0≤x2))) (
  some (false))
noncomputable def aO4 (N:Nat):Pk→Tr Pk:=ah s352 w352 (Uu N)
theorem WN (N:Nat):av Tryz.prog (352) (aO4 N) :=
 (af ag am (Oh N) Tryz.func352 s352 w352 [] (cuts:=[]) trivial (fun _=>by kernel_rfl) (by decide +kernel) (Uu N) (fun x=>by kernel_rfl))
@[reducible] def s335:SP:=⟨[.agg [.int .i64,.int .i64,.int .i64]],[]⟩
noncomputable def ac1 (N:Nat):List (Nat×(Pk→Tr Pk)):=[(352,aO4 N)]
theorem Oq (N:Nat):ai Tryz.prog (ac1 N):=⟨WN N,trivial⟩
@[reducible] def w335:List SP:=[⟨[.bool],[]⟩]
noncomputable def Qx (N:Nat):(Int×Int×Int)→Option (Bool)
 | (x0,x1,x2) =>
 ac (x1==(0:Int)) (
  ac (x2==(0:Int)) (
   Option.bind (Uu N (x0,(0:Int),(255:Int))) fun y0 =>
   some (y0)) (
   some (false))) (
  ac (x0==(0:Int)) (
   Option.bind (Uu N (x1,(3:Int),(258:Int))) fun y1 =>
   ac (y1) (
    Option.bind (Uu N (x2,(1:Int),(32768:Int))) fun y2 =>
    some (y2)) (
    some (false))) (
   some (false)))
noncomputable def TE (N:Nat):Pk→Tr Pk:=ah s335 w335 (Qx N)
theorem sg (N:Nat):av Tryz.prog (335) (TE N) :=
 (af ag am (Oq N) Tryz.func335 s335 w335 [] (cuts:=[]) trivial (fun _=>by kernel_rfl) (by decide +kernel) (Qx N) (fun x=>by kernel_rfl))
@[reducible] def s271:SP:=⟨[.adr 0 [],.bool,.int .i64],[.var 221 (.agg [.sl 1,.int .i64,.int .i64]),.row (.int .u8) 5]⟩
noncomputable def ae4 (N:Nat):List (Nat×(Pk→Tr Pk)):=[(269,IJ N)]
theorem OK (N:Nat):ai Tryz.prog (ae4 N):=⟨lz N,trivial⟩
@[reducible] def w271:List SP:=[⟨[.tup []],[.var 221 (.agg [.sl 1,.int .i64,.int .i64]),.row (.int .u8) 5]⟩]
noncomputable def QB (N:Nat):(Bool×Int×Int×Int×(List Int))→Option (Int×Int×(List Int))
 | (x0,x1,x2,x3,x4) =>
 ac (x0) (
  Option.bind (eM N ((1:Int),(1:Int),x2,x3,x4)) fun y0 =>
  Option.bind (eM N ((2:Int),x1,y0.1,y0.2.1,y0.2.2)) fun y1 =>
  some ((y1.1,y1.2.1,y1.2.2))) (
  Option.bind (eM N ((1:Int),(0:Int),x2,x3,x4)) fun y2 =>
  Option.bind (eM N ((2:Int),x1,y2.1,y2.2.1,y2.2.2)) fun y3 =>
  some ((y3.1,y3.2.1,y3.2.2)))
noncomputable def aw0 (N:Nat):Pk→Tr Pk:=ah s271 w271 (QB N)
theorem Lr (N:Nat):av Tryz.prog (271) (aw0 N) :=
 (af ag am (OK N) Tryz.func271 s271 w271 [0] (cuts:=[]) trivial (fun _=>by kernel_rfl) (by decide +kernel) (QB N) (fun x=>by kernel_rfl))
@[reducible] def s353:SP:=⟨[.sl 0,.int .i64,.int .i64],[.row (.int .i64) 3]⟩
noncomputable def aa6 (N:Nat):List (Nat×(Pk→Tr Pk)):=[]
theorem xH (N:Nat):ai Tryz.prog (aa6 N):=trivial
@[reducible] def Ma:LD:=⟨12,[0,1,2],[(.ret,[6]),(.exit 0,[0])],⟨[.sl 0,.int .i64,.int .i64],[.row (.int .i64) 3]⟩,[(.exit 0,⟨[.sl 0],[.row (.int .i64) 3]⟩)]⟩
abbrev CR:Type:=Int×Int×(List Int)
abbrev BY:Type:=(List Int)
noncomputable def NI (N:Nat) (f:CR→Option BY):CR→Option BY
 | (x0,x1,x2) =>
 ac (decide ((↑(List.length x2):Int)<x0)) (
  ac (decide ((List.length x2+List.length [x1])*(8:Nat)≤(140737488355328:Nat)∧List.length x2+List.length [x1]≤(140737488355328:Nat))) (
   Option.bind (f (x0,x1,x2++[x1])) fun r=>some r) (
   none )) (
  some (x2))
noncomputable def sJ (N:Nat):Nat→CR→Option BY
 | 0,_=>none
 | k+1,x=>NI N (sJ N k) x
noncomputable def MZ (N:Nat) (k:Nat):Cut:=Ma.cut (sJ N k)
theorem JS (N:Nat) (k:Nat):ak Tryz.prog false Tryz.f353 [] 12 (MZ N k) :=
 Ma.loopT ag am (xH N) Tryz.f353 [] (cuts:=[]) trivial (by decide +kernel) (by kernel_rfl) (NI N) (sJ N) (fun _=>rfl) (fun _ _=>rfl) (fun f x=>by kernel_rfl) k
@[reducible] def w353:List SP:=[⟨[.sl 0],[.row (.int .i64) 3]⟩]
noncomputable def Jg (N:Nat):(Int×Int×(List Int))→Option ((List Int))
 | (x0,x1,x2) =>
 Option.bind (sJ N N (x0,x1,x2)) fun y0 =>
 some (y0)
noncomputable def aO3 (N:Nat):Pk→Tr Pk:=ah s353 w353 (Jg N)
theorem WM (N:Nat):av Tryz.prog (353) (aO3 N) :=
 (af ag am (xH N) Tryz.func353 s353 w353 [] (cuts:=[(12,MZ N N)]) ⟨JS N N,trivial⟩ (fun _=>by kernel_rfl) (by decide +kernel) (Jg N) (fun x=>by kernel_rfl))
@[reducible] def s336:SP:=⟨[],[]⟩
noncomputable def ac0 (N:Nat):List (Nat×(Pk→Tr Pk)):=[(353,aO3 N)]
theorem Oo (N:Nat):ai Tryz.prog (ac0 N):=⟨WM N,trivial⟩
@[reducible] def w336:List SP:=[⟨[.tup [.sl 0,.sl 1]],[.row (.int .i64) 3,.row (.int .i64) 3]⟩]
noncomputable def YJ (N:Nat):(Unit)→Option ((List Int)×(List Int))
 | () =>
 Option.bind (Jg N ((144:Int),(8:Int),[])) fun y0 =>
 Option.bind (Jg N ((256:Int),(9:Int),y0)) fun y1 =>
 Option.bind (Jg N ((280:Int),(7:Int),y1)) fun y2 =>
 Option.bind (Jg N ((288:Int),(8:Int),y2)) fun y3 =>
 Option.bind (Jg N ((30:Int),(5:Int),[])) fun y4 =>
 some ((y3,y4))
noncomputable def av5 (N:Nat):Pk→Tr Pk:=ah s336 w336 (YJ N)
theorem Lo (N:Nat):av Tryz.prog (336) (av5 N) :=
 (af ag am (Oo N) Tryz.func336 s336 w336 [] (cuts:=[]) trivial (fun _=>by kernel_rfl) (by decide +kernel) (YJ N) (fun x=>by kernel_rfl))
@[reducible] def s371:SP:=⟨[.ro (.int .i64)],[]⟩
noncomputable def ZZ (N:Nat):List (Nat×(Pk→Tr Pk)):=[]
theorem xA (N:Nat):ai Tryz.prog (ZZ N):=trivial
@[reducible] def Fi:LD:=⟨122,[12,11,13,4,2],[(.ret,[2,3]),(.exit 0,[4,2])],⟨[.int .i64,.ro (.int .i64),.int .i64,.adr 0 [],.adr 1 []],[.var 383 (.arr (.int .i64) 16),.var 383 (.arr (.int .i64) 16)]⟩,[(.ret,⟨[.adr 0 [],.int .i64],[.var 383 (.arr (.int .i64) 16)]⟩),(.exit 0,⟨[.adr 0 [],.adr 1 []],[.var 383 (.arr (.int .i64) 16),.var 383 (.arr (.int .i64) 16)]⟩)]⟩
abbrev vA:Type:=Int×(List Int)×Int×(List Int)×(List Int)
abbrev uL:Type:=((Int×(List Int))⊕((List Int)×(List Int)))
noncomputable def Hn (N:Nat) (f:vA→Option uL):vA→Option uL
 | (x0,x1,x2,x3,x4) =>
 ac (decide (x2<x0)) (
  ac (within x2 (List.length x1)) (
   Option.bind (x1[Int.toNat x2]?) fun y0 =>
   ac (decide (y0<(0:Int))) (
    some (.inl (((50:Int),x3)))) (
    ac (decide (y0>(15:Int))) (
     some (.inl (((50:Int),x3)))) (
     ac (within y0 (16:Nat)) (
      Option.bind (x3[Int.toNat y0]?) fun y1 =>
      ac (within y0 (16:Nat)) (
       Option.bind (x3[Int.toNat y0]?) fun y2 =>
       Option.bind (f (x0,x1,IntKind.wrap IntKind.i64 (x2+(1:Int)),List.set x3 (Int.toNat y0) (IntKind.wrap IntKind.i64 (y1+(1:Int))),x4)) fun r=>match r with|.inl y=>some (.inl y)|.inr y=>some (.inr y)) (
       none )) (
      none )))) (
   none )) (
  some (.inr ((x3,x4))))
noncomputable def ow (N:Nat):Nat→vA→Option uL
 | 0,_=>none
 | k+1,x=>Hn N (ow N k) x
noncomputable def Gz (N:Nat) (k:Nat):Cut:=Fi.cut (ow N k)
theorem Gy (N:Nat) (k:Nat):ak Tryz.prog false Tryz.f371 [] 122 (Gz N k) :=
 Fi.loopT ag am (xA N) Tryz.f371 [] (cuts:=[]) trivial (by decide +kernel) (by kernel_rfl) (Hn N) (ow N) (fun _=>rfl) (fun _ _=>rfl) (fun f x=>by kernel_rfl) k
@[reducible] def w371:List SP:=[⟨[.tup [.arr (.int .i64) 16,.int .i64]],[]⟩]
noncomputable def Uq (N:Nat):((List Int))→Option ((List Int)×Int)
 | x0 =>
 ac (decide ((↑(List.length x0):Int)>(320:Int))) (
  some (([(0:Int),(0:Int),(0:Int),(0:Int),(0:Int),(0:Int),(0:Int),(0:Int),(0:Int),(0:Int),(0:Int),(0:Int),(0:Int),(0:Int),(0:Int),(0:Int)],(50:Int)))) (
  Option.bind (ow N N ((↑(List.length x0):Int),x0,(0:Int),[(0:Int),(0:Int),(0:Int),(0:Int),(0:Int),(0:Int),(0:Int),(0:Int),(0:Int),(0:Int),(0:Int),(0:Int),(0:Int),(0:Int),(0:Int),(0:Int)],[(0:Int),(0:Int),(0:Int),(0:Int),(0:Int),(0:Int),(0:Int),(0:Int),(0:Int),(0:Int),(0:Int),(0:Int),(0:Int),(0:Int),(0:Int),(0:Int)])) fun y0 =>
  match y0 with
  | .inl y1 =>
   some ((y1.2,y1.1))
  | .inr y1 =>
   some ((y1.1,(0:Int))))
noncomputable def WE (N:Nat):Pk→Tr Pk:=ah s371 w371 (Uq N)
theorem Bn (N:Nat):av Tryz.prog (371) (WE N) :=
 (af ag am (xA N) Tryz.func371 s371 w371 [] (cuts:=[(122,Gz N N)]) ⟨Gy N N,trivial⟩ (fun _=>by kernel_rfl) (by decide +kernel) (Uq N) (fun x=>by kernel_rfl))
@[reducible] def s370:SP:=⟨[.ro (.int .i64)],[]⟩
noncomputable def Z0 (N:Nat):List (Nat×(Pk→Tr Pk)):=[(371,WE N)]
theorem xB (N:Nat):ai Tryz.prog (Z0 N):=⟨Bn N,trivial⟩
@[reducible] def Fj:LD:=⟨122,[6,5,7,4],[(.ret,[2,3]),(.exit 0,[6,5])],⟨[.int .i64,.int .i64,.int .i64,.adr 0 []],[.var 383 (.arr (.int .i64) 16)]⟩,[(.exit 0,⟨[.int .i64,.int .i64],[]⟩)]⟩
abbrev vB:Type:=Int×Int×Int×(List Int)
abbrev uM:Type:=Int×Int
noncomputable def Ho (N:Nat) (f:vB→Option uM):vB→Option uM
 | (x0,x1,x2,x3) =>
 ac (decide (x2≤(15:Int))) (
  ac (x1==(0:Int)) (
   ac (within x2 (16:Nat)) (
    Option.bind (x3[Int.toNat x2]?) fun y0 =>
    ac (decide (IntKind.wrap IntKind.i64 (IntKind.wrap IntKind.i64 (x0*(2:Int))-y0)<(0:Int))) (
     Option.bind (f (IntKind.wrap IntKind.i64 (IntKind.wrap IntKind.i64 (x0*(2:Int))-y0),(50:Int),IntKind.wrap IntKind.i64 (x2+(1:Int)),x3)) fun r=>some r) (
     Option.bind (f (IntKind.wrap IntKind.i64 (IntKind.wrap IntKind.i64 (x0*(2:Int))-y0),x1,IntKind.wrap IntKind.i64 (x2+(1:Int)),x3)) fun r=>some r)) (
    none )) (
   some ((x0,x1)))) (
  some ((x0,x1)))
noncomputable def ox (N:Nat):Nat→vB→Option uM
 | 0,_=>none
 | k+1,x=>Ho N (ox N k) x
noncomputable def GB (N:Nat) (k:Nat):Cut:=Fj.cut (ox N k)
theorem GA (N:Nat) (k:Nat):ak Tryz.prog false Tryz.f370 [] 122 (GB N k) :=
 Fj.loopT ag am (xB N) Tryz.f370 [] (cuts:=[]) trivial (by decide +kernel) (by kernel_rfl) (Ho N) (ox N) (fun _=>rfl) (fun _ _=>rfl) (fun f x=>by kernel_rfl) k
@[reducible] def w370:List SP:=[⟨[.tup [.int .i64,.int .i64]],[]⟩]
noncomputable def Yt (N:Nat):((List Int))→Option (Int×Int)
 | x0 =>
 Option.bind (Uq N x0) fun y0 =>
 Option.bind (ox N N ((1:Int),y0.2,(1:Int),y0.1)) fun y1 =>
 ac (y1.2 != (0:Int)) (
  some (((0:Int),y1.2))) (
  some ((y1.1,(0:Int))))
noncomputable def au3 (N:Nat):Pk→Tr Pk:=ah s370 w370 (Yt N)
theorem Lb (N:Nat):av Tryz.prog (370) (au3 N) :=
 (af ag am (xB N) Tryz.func370 s370 w370 [] (cuts:=[(122,GB N N)]) ⟨GA N N,trivial⟩ (fun _=>by kernel_rfl) (by decide +kernel) (Yt N) (fun x=>by kernel_rfl))
@[reducible] def s354:SP:=⟨[.ro (.int .i64)],[]⟩
noncomputable def aa5 (N:Nat):List (Nat×(Pk→Tr Pk)):=[(370,au3 N),(371,WE N)]
theorem o9 (N:Nat):ai Tryz.prog (aa5 N):=⟨Lb N,Bn N,trivial⟩
@[reducible] def Fq:LD:=⟨250,[9,0,6,8],[(.ret,[2,3]),(.exit 0,[0,8])],⟨[.int .i64,.ro (.int .i64),.adr 0 [],.adr 1 []],[.var 383 (.arr (.int .i64) 16),.var 383 (.arr (.int .i64) 16)]⟩,[(.exit 0,⟨[.ro (.int .i64),.adr 0 []],[.var 383 (.arr (.int .i64) 16)]⟩)]⟩
abbrev vF:Type:=Int×(List Int)×(List Int)×(List Int)
abbrev uQ:Type:=(List Int)×(List Int)
noncomputable def Hs (N:Nat) (f:vF→Option uQ):vF→Option uQ
 | (x0,x1,x2,x3) =>
 ac (decide (x0<(15:Int))) (
  ac (within x0 (16:Nat)) (
   Option.bind (x3[Int.toNat x0]?) fun y0 =>
   ac (within x0 (16:Nat)) (
    Option.bind (x2[Int.toNat x0]?) fun y1 =>
    ac (within (IntKind.wrap IntKind.i64 (x0+(1:Int))) (16:Nat)) (
     Option.bind (x3[Int.toNat (IntKind.wrap IntKind.i64 (x0+(1:Int)))]?) fun y2 =>
     Option.bind (f (IntKind.wrap IntKind.i64 (x0+(1:Int)),x1,x2,List.set x3 (Int.toNat (IntKind.wrap IntKind.i64 (x0+(1:Int)))) (IntKind.wrap IntKind.i64 (IntKind.wrap IntKind.i64 (y0+y1)*(2:Int))))) fun r=>some r) (
     none )) (
    none )) (
   none )) (
  some ((x1,x3)))
noncomputable def oA (N:Nat):Nat→vF→Option uQ
 | 0,_=>none
 | k+1,x=>Hs N (oA N k) x
noncomputable def wK (N:Nat) (k:Nat):Cut:=Fq.cut (oA N k)
theorem rC (N:Nat) (k:Nat):ak Tryz.prog false Tryz.f354 [] 250 (wK N k) :=
 Fq.loopT ag am (o9 N) Tryz.f354 [] (cuts:=[]) trivial (by decide +kernel) (by kernel_rfl) (Hs N) (oA N) (fun _=>rfl) (fun _ _=>rfl) (fun f x=>by kernel_rfl) k
@[reducible] def zf:LD:=⟨1018,[46,45,44,10,8],[(.ret,[2,3]),(.exit 2,[10])],⟨[.int .i64,.int .i64,.ro (.int .i64),.sl 0,.adr 1 []],[.row y0 248,.var 383 (.arr (.int .i64) 16)]⟩,[(.exit 2,⟨[.sl 0],[.row y0 248]⟩)]⟩
abbrev qo:Type:=Int×Int×(List Int)×(List (Int×(Int×Unit)))×(List Int)
abbrev p6:Type:=(List (Int×(Int×Unit)))
noncomputable def zZ (N:Nat) (f:qo→Option p6):qo→Option p6
 | (x0,x1,x2,x3,x4) =>
 ac (decide (x0<x1)) (
  ac (within x0 (List.length x2)) (
   Option.bind (x2[Int.toNat x0]?) fun y0 =>
   ac (decide (y0>(0:Int))) (
    ac (within y0 (16:Nat)) (
     Option.bind (x4[Int.toNat y0]?) fun y1 =>
     ac (within x0 (List.length x3)) (
      Option.bind (x3[Int.toNat x0]?) fun y2 =>
      ac (within y0 (16:Nat)) (
       Option.bind (x4[Int.toNat y0]?) fun y3 =>
       ac (within y0 (16:Nat)) (
        Option.bind (x4[Int.toNat y0]?) fun y4 =>
        Option.bind (f (IntKind.wrap IntKind.i64 (x0+(1:Int)),x1,x2,List.set x3 (Int.toNat x0) (y1,y0,()),List.set x4 (Int.toNat y0) (IntKind.wrap IntKind.i64 (y3+(1:Int))))) fun r=>some r) (
        none )) (
       none )) (
      none )) (
     none )) (
    Option.bind (f (IntKind.wrap IntKind.i64 (x0+(1:Int)),x1,x2,x3,x4)) fun r=>some r)) (
   none )) (
  some (x3))
noncomputable def lF (N:Nat):Nat→qo→Option p6
 | 0,_=>none
 | k+1,x=>zZ N (lF N k) x
noncomputable def zR (N:Nat) (k:Nat):Cut:=zf.cut (lF N k)
theorem DC (N:Nat) (k:Nat):ak Tryz.prog false Tryz.f354 [] 1018 (zR N k) :=
 zf.loopT ag am (o9 N) Tryz.f354 [] (cuts:=[(250,wK N N)]) ⟨rC N N,trivial⟩ (by decide +kernel) (by kernel_rfl) (zZ N) (lF N) (fun _=>rfl) (fun _ _=>rfl) (fun f x=>by kernel_rfl) k
@[reducible] def w354:List SP:=[⟨[.tup [.sl 0,.int .i64]],[.row y0 248]⟩]
noncomputable def Ut (N:Nat):((List Int))→Option (Int×(List (Int×(Int×Unit))))
 | x0 =>
 Option.bind (Yt N x0) fun y0 =>
 ac (y0.2 != (0:Int)) (
  some ((y0.2,[]))) (
  Option.bind (Uq N x0) fun y1 =>
  Option.bind (oA N N ((1:Int),x0,y1.1,[(0:Int),(0:Int),(0:Int),(0:Int),(0:Int),(0:Int),(0:Int),(0:Int),(0:Int),(0:Int),(0:Int),(0:Int),(0:Int),(0:Int),(0:Int),(0:Int)])) fun y2 =>
  ac (decide ((0:Int)≤(↑(List.length y2.1):Int)∧(↑(List.length y2.1):Int)≤(↑(List.length y2.1):Int)∧(↑(List.length y2.1):Int)*(16:Int)≤(140737488355328:Int)∧(↑(List.length y2.1):Int)≤(140737488355328:Int))) (
   Option.bind (lF N N ((0:Int),(↑(List.length y2.1):Int),y2.1,List.replicate (Int.toNat (↑(List.length y2.1):Int)) ((0:Int),(0:Int),()),y2.2)) fun y3 =>
   some (((0:Int),y3))) (
   none ))
noncomputable def av2 (N:Nat):Pk→Tr Pk:=ah s354 w354 (Ut N)
theorem Ll (N:Nat):av Tryz.prog (354) (av2 N) :=
 (af ag am (o9 N) Tryz.func354 s354 w354 [] (cuts:=[(250,wK N N),(1018,zR N N)]) ⟨rC N N,DC N N,trivial⟩ (fun _=>by kernel_rfl) (by decide +kernel) (Ut N) (fun x=>by kernel_rfl))
@[reducible] def s387:SP:=⟨[.int .i64,.int .i64,.int .i64],[]⟩
noncomputable def ZJ (N:Nat):List (Nat×(Pk→Tr Pk)):=[]
theorem N1 (N:Nat):ai Tryz.prog (ZJ N):=trivial
@[reducible] def w387:List SP:=[⟨[.int .i64],[]⟩]
noncomputable def Yn (N:Nat):(Int×Int×Int)→Option (Int)
 | (x0,x1,x2) =>
 ac (decide (x2=(0:Int))) (
  none ) (
  ac (decide (x1=(0:Int))) (
   none ) (
   some (IntKind.wrap IntKind.i64 ((if (0:Int)>IntKind.wrap IntKind.i64 (IntKind.wrap IntKind.i64 (Int.tdiv (IntKind.wrap IntKind.i64 (x0-x1)) x2)+(1:Int)) then (0:Int) else IntKind.wrap IntKind.i64 (IntKind.wrap IntKind.i64 (Int.tdiv (IntKind.wrap IntKind.i64 (x0-x1)) x2)+(1:Int)))*if (1:Int)<IntKind.wrap IntKind.i64 (Int.tdiv x0 x1) then (1:Int) else IntKind.wrap IntKind.i64 (Int.tdiv x0 x1)))))
noncomputable def aM7 (N:Nat):Pk→Tr Pk:=ah s387 w387 (Yn N)
theorem Wt (N:Nat):av Tryz.prog (387) (aM7 N) :=
 (af ag am (N1 N) Tryz.func387 s387 w387 [] (cuts:=[]) trivial (fun _=>by kernel_rfl) (by decide +kernel) (Yn N) (fun x=>by kernel_rfl))
@[reducible] def s382:SP:=⟨[.int .i64,.int .i64,.int .i64,.int .i64],[]⟩
noncomputable def ZO (N:Nat):List (Nat×(Pk→Tr Pk)):=[(387,aM7 N)]
theorem xu (N:Nat):ai Tryz.prog (ZO N):=⟨Wt N,trivial⟩
@[reducible] def LM:LD:=⟨58,[10,14,13,0,1,2],[(.ret,[8,9]),(.exit 0,[10,0,1,2])],⟨[.int .i64,.int .i64,.int .i64,.int .i64,.int .i64,.int .i64],[]⟩,[(.exit 0,⟨[.int .i64,.int .i64,.int .i64,.int .i64],[]⟩)]⟩
abbrev CE:Type:=Int×Int×Int×Int×Int×Int
abbrev BK:Type:=Int×Int×Int×Int
noncomputable def Nv (N:Nat) (f:CE→Option BK):CE→Option BK
 | (x0,x1,x2,x3,x4,x5) =>
 ac (decide (x1<x2)) (
  Option.bind (Yn N (x1,x4,x5)) fun y0 =>
  ac (decide (y0<(0:Int))) (
   none ) (
   Option.bind (f (IntKind.wrap IntKind.i64 (x0+IntKind.wrap IntKind.i64 ((1:Int)*(2:Int)^min (Int.toNat y0) (64:Nat))),IntKind.wrap IntKind.i64 (x1+(1:Int)),x2,x3,x4,x5)) fun r=>some r)) (
  some ((x0,x3,x4,x5)))
noncomputable def sw (N:Nat):Nat→CE→Option BK
 | 0,_=>none
 | k+1,x=>Nv N (sw N k) x
noncomputable def MM (N:Nat) (k:Nat):Cut:=LM.cut (sw N k)
theorem JG (N:Nat) (k:Nat):ak Tryz.prog false Tryz.f382 [] 58 (MM N k) :=
 LM.loopT ag am (xu N) Tryz.f382 [] (cuts:=[]) trivial (by decide +kernel) (by kernel_rfl) (Nv N) (sw N) (fun _=>rfl) (fun _ _=>rfl) (fun f x=>by kernel_rfl) k
@[reducible] def w382:List SP:=[⟨[.tup [.int .i64,.int .i64]],[]⟩]
noncomputable def Yo (N:Nat):(Int×Int×Int×Int)→Option (Int×Int)
 | (x0,x1,x2,x3) =>
 Option.bind (sw N N (x3,(0:Int),x0,x0,x1,x2)) fun y0 =>
 Option.bind (Yn N (y0.2.1,y0.2.2.1,y0.2.2.2)) fun y1 =>
 some ((y0.1,y1))
noncomputable def at6 (N:Nat):Pk→Tr Pk:=ah s382 w382 (Yo N)
theorem K6 (N:Nat):av Tryz.prog (382) (at6 N) :=
 (af ag am (xu N) Tryz.func382 s382 w382 [] (cuts:=[(58,MM N N)]) ⟨JG N N,trivial⟩ (fun _=>by kernel_rfl) (by decide +kernel) (Yo N) (fun x=>by kernel_rfl))
@[reducible] def s373:SP:=⟨[.int .i64],[]⟩
noncomputable def ZX (N:Nat):List (Nat×(Pk→Tr Pk)):=[(382,at6 N)]
theorem N9 (N:Nat):ai Tryz.prog (ZX N):=⟨K6 N,trivial⟩
@[reducible] def w373:List SP:=[⟨[.tup [.int .i64,.int .i64]],[]⟩]
noncomputable def Ys (N:Nat):(Int)→Option (Int×Int)
 | x0 =>
 ac (x0==(285:Int)) (
  some (((258:Int),(0:Int)))) (
  ac (decide (x0<(257:Int))) (
   some (((0:Int),(0:Int)))) (
   ac (decide (x0>(285:Int))) (
    some (((0:Int),(0:Int)))) (
    Option.bind (Yo N (IntKind.wrap IntKind.i64 (x0-(257:Int)),(8:Int),(4:Int),(3:Int))) fun y0 =>
    some ((y0.1,y0.2)))))
noncomputable def au2 (N:Nat):Pk→Tr Pk:=ah s373 w373 (Ys N)
theorem La (N:Nat):av Tryz.prog (373) (au2 N) :=
 (af ag am (N9 N) Tryz.func373 s373 w373 [] (cuts:=[]) trivial (fun _=>by kernel_rfl) (by decide +kernel) (Ys N) (fun x=>by kernel_rfl))
@[reducible] def s372:SP:=⟨[.int .i64,.int .i64,.int .i64,.fn 373],[]⟩
noncomputable def ZY (N:Nat):List (Nat×(Pk→Tr Pk)):=[(373,au2 N)]
theorem xz (N:Nat):ai Tryz.prog (ZY N):=⟨La N,trivial⟩
@[reducible] def LS:LD:=⟨26,[1,3,11,0],[(.ret,[8,9,10]),(.exit 0,[])],⟨[.int .i64,.fn 373,.int .i64,.int .i64],[]⟩,[(.ret,⟨[.int .i64,.int .i64,.int .i64],[]⟩),(.exit 0,⟨[],[]⟩)]⟩
abbrev CK:Type:=Int×Int×Int
abbrev BQ:Type:=((Int×Int×Int)⊕(Unit))
noncomputable def NA (N:Nat) (f:CK→Option BQ):CK→Option BQ
 | (x0,x1,x2) =>
 ac (decide (x1≥x0)) (
  Option.bind (Ys N x1) fun y0 =>
  ac (decide (y0.1≤x2)) (
   some (.inl ((x1,IntKind.wrap IntKind.i64 (x2-y0.1),y0.2)))) (
   Option.bind (f (x0,IntKind.wrap IntKind.i64 (x1-(1:Int)),x2)) fun r=>match r with|.inl y=>some (.inl y)|.inr y=>some (.inr y))) (
  some (.inr (())))
noncomputable def sC (N:Nat):Nat→CK→Option BQ
 | 0,_=>none
 | k+1,x=>NA N (sC N k) x
noncomputable def MS (N:Nat) (k:Nat):Cut:=LS.cut (sC N k)
theorem JM (N:Nat) (k:Nat):ak Tryz.prog false Tryz.f372 [] 26 (MS N k) :=
 LS.loopT ag am (xz N) Tryz.f372 [] (cuts:=[]) trivial (by decide +kernel) (by kernel_rfl) (NA N) (sC N) (fun _=>rfl) (fun _ _=>rfl) (fun f x=>by kernel_rfl) k
@[reducible] def w372:List SP:=[⟨[.tup [.int .i64,.int .i64,.int .i64]],[]⟩]
noncomputable def ay7 (N:Nat):(Int×Int×Int)→Option (Int×Int×Int)
 | (x0,x1,x2) =>
 Option.bind (sC N N (x1,x2,x0)) fun y0 =>
 match y0 with
 | .inl y1 =>
  some ((y1.1,y1.2.1,y1.2.2))
 | .inr y1 =>
  some (((0:Int),(0:Int),(0:Int)))
noncomputable def aN6 (N:Nat):Pk→Tr Pk:=ah s372 w372 (ay7 N)
theorem WC (N:Nat):av Tryz.prog (372) (aN6 N) :=
 (af ag am (xz N) Tryz.func372 s372 w372 [] (cuts:=[(26,MS N N)]) ⟨JM N N,trivial⟩ (fun _=>by kernel_rfl) (by decide +kernel) (ay7 N) (fun x=>by kernel_rfl))
@[reducible] def s356:SP:=⟨[.int .i64],[]⟩
noncomputable def aa3 (N:Nat):List (Nat×(Pk→Tr Pk)):=[(372,aN6 N)]
theorem Og (N:Nat):ai Tryz.prog (aa3 N):=⟨WC N,trivial⟩
@[reducible] def w356:List SP:=[⟨[.tup [.int .i64,.int .i64,.int .i64]],[]⟩]
noncomputable def Yz (N:Nat):(Int)→Option (Int×Int×Int)
 | x0 =>
 ac (decide (x0>(258:Int))) (
  some (((0:Int),(0:Int),(0:Int)))) (
  Option.bind (ay7 N (x0,(257:Int),(285:Int))) fun y0 =>
  some ((y0.1,y0.2.1,y0.2.2)))
noncomputable def av1 (N:Nat):Pk→Tr Pk:=ah s356 w356 (Yz N)
theorem Lk (N:Nat):av Tryz.prog (356) (av1 N) :=
 (af ag am (Og N) Tryz.func356 s356 w356 [] (cuts:=[]) trivial (fun _=>by kernel_rfl) (by decide +kernel) (Yz N) (fun x=>by kernel_rfl))
@[reducible] def s374:SP:=⟨[.int .i64],[]⟩
noncomputable def ZW (N:Nat):List (Nat×(Pk→Tr Pk)):=[(382,at6 N)]
theorem N8 (N:Nat):ai Tryz.prog (ZW N):=⟨K6 N,trivial⟩
@[reducible] def w374:List SP:=[⟨[.tup [.int .i64,.int .i64]],[]⟩]
noncomputable def Yr (N:Nat):(Int)→Option (Int×Int)
 | x0 =>
 ac (decide (x0<(0:Int))) (
  some (((0:Int),(0:Int)))) (
  ac (decide (x0≥(30:Int))) (
   some (((0:Int),(0:Int)))) (
   Option.bind (Yo N (x0,(4:Int),(2:Int),(1:Int))) fun y0 =>
   some ((y0.1,y0.2))))
noncomputable def au1 (N:Nat):Pk→Tr Pk:=ah s374 w374 (Yr N)
theorem K9 (N:Nat):av Tryz.prog (374) (au1 N) :=
 (af ag am (N8 N) Tryz.func374 s374 w374 [] (cuts:=[]) trivial (fun _=>by kernel_rfl) (by decide +kernel) (Yr N) (fun x=>by kernel_rfl))
@[reducible] def s372a:SP:=⟨[.int .i64,.int .i64,.int .i64,.fn 374],[]⟩
noncomputable def VB (N:Nat):List (Nat×(Pk→Tr Pk)):=[(374,au1 N)]
theorem td (N:Nat):ai Tryz.prog (VB N):=⟨K9 N,trivial⟩
@[reducible] def Fh:LD:=⟨26,[1,3,11,0],[(.ret,[8,9,10]),(.exit 0,[])],⟨[.int .i64,.fn 374,.int .i64,.int .i64],[]⟩,[(.ret,⟨[.int .i64,.int .i64,.int .i64],[]⟩),(.exit 0,⟨[],[]⟩)]⟩
abbrev vz:Type:=Int×Int×Int
abbrev uK:Type:=((Int×Int×Int)⊕(Unit))
noncomputable def Hm (N:Nat) (f:vz→Option uK):vz→Option uK
 | (x0,x1,x2) =>
 ac (decide (x1≥x0)) (
  Option.bind (Yr N x1) fun y0 =>
  ac (decide (y0.1≤x2)) (
   some (.inl ((x1,IntKind.wrap IntKind.i64 (x2-y0.1),y0.2)))) (
   Option.bind (f (x0,IntKind.wrap IntKind.i64 (x1-(1:Int)),x2)) fun r=>match r with|.inl y=>some (.inl y)|.inr y=>some (.inr y))) (
  some (.inr (())))
noncomputable def ov (N:Nat):Nat→vz→Option uK
 | 0,_=>none
 | k+1,x=>Hm N (ov N k) x
noncomputable def Gx (N:Nat) (k:Nat):Cut:=Fh.cut (ov N k)
theorem Gw (N:Nat) (k:Nat):ak Tryz.prog false Tryz.f372 [] 26 (Gx N k) :=
 Fh.loopT ag am (td N) Tryz.f372 [] (cuts:=[]) trivial (by decide +kernel) (by kernel_rfl) (Hm N) (ov N) (fun _=>rfl) (fun _ _=>rfl) (fun f x=>by kernel_rfl) k
@[reducible] def w372a:List SP:=[⟨[.tup [.int .i64,.int .i64,.int .i64]],[]⟩]
noncomputable def Up (N:Nat):(Int×Int×Int)→Option (Int×Int×Int)
 | (x0,x1,x2) =>
 Option.bind (ov N N (x1,x2,x0)) fun y0 =>
 match y0 with
 | .inl y1 =>
  some ((y1.1,y1.2.1,y1.2.2))
 | .inr y1 =>
  some (((0:Int),(0:Int),(0:Int)))
noncomputable def Zo (N:Nat):Pk→Tr Pk:=ah s372a w372a (Up N)
theorem TA (N:Nat):av Tryz.prog (372) (Zo N) :=
 (af ag am (td N) Tryz.func372 s372a w372a [] (cuts:=[(26,Gx N N)]) ⟨Gw N N,trivial⟩ (fun _=>by kernel_rfl) (by decide +kernel) (Up N) (fun x=>by kernel_rfl))
@[reducible] def s357:SP:=⟨[.int .i64],[]⟩
noncomputable def aa2 (N:Nat):List (Nat×(Pk→Tr Pk)):=[(372,Zo N)]
theorem Of (N:Nat):ai Tryz.prog (aa2 N):=⟨TA N,trivial⟩
@[reducible] def w357:List SP:=[⟨[.tup [.int .i64,.int .i64,.int .i64]],[]⟩]
noncomputable def Yy (N:Nat):(Int)→Option (Int×Int×Int)
 | x0 =>
 ac (decide (x0>(32768:Int))) (
  some (((0:Int),(0:Int),(0:Int)))) (
  Option.bind (Up N (x0,(0:Int),(29:Int))) fun y0 =>
  some ((y0.1,y0.2.1,y0.2.2)))
noncomputable def av0 (N:Nat):Pk→Tr Pk:=ah s357 w357 (Yy N)
theorem Lj (N:Nat):av Tryz.prog (357) (av0 N) :=
 (af ag am (Of N) Tryz.func357 s357 w357 [] (cuts:=[]) trivial (fun _=>by kernel_rfl) (by decide +kernel) (Yy N) (fun x=>by kernel_rfl))
@[reducible] def s338:SP:=⟨[.ro y4],[]⟩
noncomputable def ab8 (N:Nat):List (Nat×(Pk→Tr Pk)):=[(335,TE N),(356,av1 N),(357,av0 N)]
theorem xK (N:Nat):ai Tryz.prog (ab8 N):=⟨sg N,Lk N,Lj N,trivial⟩
@[reducible] def Fu:LD:=⟨122,[18,17,16,2,3],[(.ret,[2,3]),(.exit 0,[2,3])],⟨[.int .i64,.int .i64,.ro y4,.sl 0,.sl 1],[.row (.int .i64) 3,.row (.int .i64) 3]⟩,[(.exit 0,⟨[.sl 0,.sl 1],[.row (.int .i64) 3,.row (.int .i64) 3]⟩)]⟩
abbrev vL:Type:=Int×Int×(List (Int×(Int×(Int×Unit))))×(List Int)×(List Int)
abbrev uW:Type:=(List Int)×(List Int)
noncomputable def Hy (N:Nat) (f:vL→Option uW):vL→Option uW
 | (x0,x1,x2,x3,x4) =>
 ac (decide (x0<x1)) (
  ac (within x0 (List.length x2)) (
   Option.bind (x2[Int.toNat x0]?) fun y0 =>
   Option.bind (Qx N (y0.1,y0.2.1,y0.2.2.1)) fun y1 =>
   ac (!y1) (
    Option.bind (f (IntKind.wrap IntKind.i64 (x0+(1:Int)),x1,x2,x3,x4)) fun r=>some r) (
    ac (y0.2.1==(0:Int)) (
     ac (within y0.1 (List.length x3)) (
      Option.bind (x3[Int.toNat y0.1]?) fun y2 =>
      ac (within y0.1 (List.length x3)) (
       Option.bind (x3[Int.toNat y0.1]?) fun y3 =>
       Option.bind (f (IntKind.wrap IntKind.i64 (x0+(1:Int)),x1,x2,List.set x3 (Int.toNat y0.1) (IntKind.wrap IntKind.i64 (y2+(1:Int))),x4)) fun r=>some r) (
       none )) (
      none )) (
     Option.bind (Yz N y0.2.1) fun y4 =>
     Option.bind (Yy N y0.2.2.1) fun y5 =>
     ac (within y4.1 (List.length x3)) (
      Option.bind (x3[Int.toNat y4.1]?) fun y6 =>
      ac (within y4.1 (List.length x3)) (
       Option.bind (x3[Int.toNat y4.1]?) fun y7 =>
       ac (within y5.1 (List.length x4)) (
        Option.bind (x4[Int.toNat y5.1]?) fun y8 =>
        ac (within y5.1 (List.length x4)) (
         Option.bind (x4[Int.toNat y5.1]?) fun y9 =>
         Option.bind (f (IntKind.wrap IntKind.i64 (x0+(1:Int)),x1,x2,List.set x3 (Int.toNat y4.1) (IntKind.wrap IntKind.i64 (y6+(1:Int))),List.set x4 (Int.toNat y5.1) (IntKind.wrap IntKind.i64 (y8+(1:Int))))) fun r=>some r) (
         none )) (
        none )) (
       none )) (
      none )))) (
   none )) (
  some ((x3,x4)))
noncomputable def oF (N:Nat):Nat→vL→Option uW
 | 0,_=>none
 | k+1,x=>Hy N (oF N k) x
noncomputable def GM (N:Nat) (k:Nat):Cut:=Fu.cut (oF N k)
theorem GL (N:Nat) (k:Nat):ak Tryz.prog false Tryz.f338 [] 122 (GM N k) :=
 Fu.loopT ag am (xK N) Tryz.f338 [] (cuts:=[]) trivial (by decide +kernel) (by kernel_rfl) (Hy N) (oF N) (fun _=>rfl) (fun _ _=>rfl) (fun f x=>by kernel_rfl) k
@[reducible] def w338:List SP:=[⟨[.tup [.sl 0,.sl 1]],[.row (.int .i64) 3,.row (.int .i64) 3]⟩]
noncomputable def YH (N:Nat):((List (Int×(Int×(Int×Unit)))))→Option ((List Int)×(List Int))
 | x0 =>
 Option.bind (oF N N ((0:Int),(↑(List.length x0):Int),x0,[(0:Int),(0:Int),(0:Int),(0:Int),(0:Int),(0:Int),(0:Int),(0:Int),(0:Int),(0:Int),(0:Int),(0:Int),(0:Int),(0:Int),(0:Int),(0:Int),(0:Int),(0:Int),(0:Int),(0:Int),(0:Int),(0:Int),(0:Int),(0:Int),(0:Int),(0:Int),(0:Int),(0:Int),(0:Int),(0:Int),(0:Int),(0:Int),(0:Int),(0:Int),(0:Int),(0:Int),(0:Int),(0:Int),(0:Int),(0:Int),(0:Int),(0:Int),(0:Int),(0:Int),(0:Int),(0:Int),(0:Int),(0:Int),(0:Int),(0:Int),(0:Int),(0:Int),(0:Int),(0:Int),(0:Int),(0:Int),(0:Int),(0:Int),(0:Int),(0:Int),(0:Int),(0:Int),(0:Int),(0:Int),(0:Int),(0:Int),(0:Int),(0:Int),(0:Int),(0:Int),(0:Int),(0:Int),(0:Int),(0:Int),(0:Int),(0:Int),(0:Int),(0:Int),(0:Int),(0:Int),(0:Int),(0:Int),(0:Int),(0:Int),(0:Int),(0:Int),(0:Int),(0:Int),(0:Int),(0:Int),(0:Int),(0:Int),(0:Int),(0:Int),(0:Int),(0:Int),(0:Int),(0:Int),(0:Int),(0:Int),(0:Int),(0:Int),(0:Int),(0:Int),(0:Int),(0:Int),(0:Int),(0:Int),(0:Int),(0:Int),(0:Int),(0:Int),(0:Int),(0:Int),(0:Int),(0:Int),(0:Int),(0:Int),(0:Int),(0:Int),(0:Int),(0:Int),(0:Int),(0:Int),(0:Int),(0:Int),(0:Int),(0:Int),(0:Int),(0:Int),(0:Int),(0:Int),(0:Int),(0:Int),(0:Int),(0:Int),(0:Int),(0:Int),(0:Int),(0:Int),(0:Int),(0:Int),(0:Int),(0:Int),(0:Int),(0:Int),(0:Int),(0:Int),(0:Int),(0:Int),(0:Int),(0:Int),(0:Int),(0:Int),(0:Int),(0:Int),(0:Int),(0:Int),(0:Int),(0:Int),(0:Int),(0:Int),(0:Int),(0:Int),(0:Int),(0:Int),(0:Int),(0:Int),(0:Int),(0:Int),(0:Int),(0:Int),(0:Int),(0:Int),(0:Int),(0:Int),(0:Int),(0:Int),(0:Int),(0:Int),(0:Int),(0:Int),(0:Int),(0:Int),(0:Int),(0:Int),(0:Int),(0:Int),(0:Int),(0:Int),(0:Int),(0:Int),(0:Int),(0:Int),(0:Int),(0:Int),(0:Int),(0:Int),(0:Int),(0:Int),(0:Int),(0:Int),(0:Int),(0:Int),(0:Int),(0:Int),(0:Int),(0:Int),(0:Int),(0:Int),(0:Int),(0:Int),(0:Int),(0:Int),(0:Int),(0:Int),(0:Int),(0:Int),(0:Int),(0:Int),(0:Int),(0:Int),(0:Int),(0:Int),(0:Int),(0:Int),(0:Int),(0:Int),(0:Int),(0:Int),(0:Int),(0:Int),(0:Int),(0:Int),(0:Int),(0:Int),(0:Int),(0:Int),(0:Int),(0:Int),(0:Int),(0:Int),(0:Int),(0:Int),(0:Int),(0:Int),(0:Int),(0:Int),(0:Int),(0:Int),(0:Int),(0:Int),(0:Int),(0:Int),(0:Int),(0:Int),(1:Int),(0:Int),(0:Int),(0:Int),(0:Int),(0:Int),(0:Int),(0:Int),(0:Int),(0:Int),(0:Int),(0:Int),(0:Int),(0:Int),(0:Int),(0:Int),(0:Int),(0:Int),(0:Int),(0:Int),(0:Int),(0:Int),(0:Int),(0:Int),(0:Int),(0:Int),(0:Int),(0:Int),(0:Int),(0:Int)],List.replicate (30:Nat) (0:Int))) fun y0 =>
 some ((y0.1,y0.2))
noncomputable def av4 (N:Nat):Pk→Tr Pk:=ah s338 w338 (YH N)
theorem Ln (N:Nat):av Tryz.prog (338) (av4 N) :=
 (af ag am (xK N) Tryz.func338 s338 w338 [] (cuts:=[(122,GM N N)]) ⟨GL N N,trivial⟩ (fun _=>by kernel_rfl) (by decide +kernel) (YH N) (fun x=>by kernel_rfl))
@[reducible] def s355:SP:=⟨[.ro y0,.ro (.int .i64)],[]⟩
noncomputable def aa4 (N:Nat):List (Nat×(Pk→Tr Pk)):=[]
theorem xG (N:Nat):ai Tryz.prog (aa4 N):=trivial
@[reducible] def LZ:LD:=⟨26,[8,7,0,9],[(.ret,[4]),(.exit 0,[])],⟨[.int .i64,.ro (.int .i64),.ro y0,.int .i64],[]⟩,[(.ret,⟨[.bool],[]⟩),(.exit 0,⟨[],[]⟩)]⟩
abbrev CQ:Type:=Int×(List Int)×(List (Int×(Int×Unit)))×Int
abbrev BX:Type:=((Bool)⊕(Unit))
noncomputable def NG (N:Nat) (f:CQ→Option BX):CQ→Option BX
 | (x0,x1,x2,x3) =>
 ac (decide (x3<x0)) (
  ac (within x3 (List.length x1)) (
   Option.bind (x1[Int.toNat x3]?) fun y0 =>
   ac (decide (y0>(0:Int))) (
    ac (decide (x3≥(↑(List.length x2):Int))) (
     some (.inl (false))) (
     ac (within x3 (List.length x2)) (
      Option.bind (x2[Int.toNat x3]?) fun y1 =>
      ac (y1.2.1==(0:Int)) (
       some (.inl (false))) (
       Option.bind (f (x0,x1,x2,IntKind.wrap IntKind.i64 (x3+(1:Int)))) fun r=>match r with|.inl y=>some (.inl y)|.inr y=>some (.inr y))) (
      none ))) (
    Option.bind (f (x0,x1,x2,IntKind.wrap IntKind.i64 (x3+(1:Int)))) fun r=>match r with|.inl y=>some (.inl y)|.inr y=>some (.inr y))) (
   none )) (
  some (.inr (())))
noncomputable def sI (N:Nat):Nat→CQ→Option BX
 | 0,_=>none
 | k+1,x=>NG N (sI N k) x
noncomputable def MY (N:Nat) (k:Nat):Cut:=LZ.cut (sI N k)
theorem JR (N:Nat) (k:Nat):ak Tryz.prog false Tryz.f355 [] 26 (MY N k) :=
 LZ.loopT ag am (xG N) Tryz.f355 [] (cuts:=[]) trivial (by decide +kernel) (by kernel_rfl) (NG N) (sI N) (fun _=>rfl) (fun _ _=>rfl) (fun f x=>by kernel_rfl) k
@[reducible] def w355:List SP:=[⟨[.bool],[]⟩]
noncomputable def YA (N:Nat):((List (Int×(Int×Unit)))×(List Int))→Option (Bool)
 | (x0,x1) =>
 Option.bind (sI N N ((↑(List.length x1):Int),x1,x0,(0:Int))) fun y0 =>
 match y0 with
 | .inl y1 =>
  some (y1)
 | .inr y1 =>
  some (true)
noncomputable def aO2 (N:Nat):Pk→Tr Pk:=ah s355 w355 (YA N)
theorem WL (N:Nat):av Tryz.prog (355) (aO2 N) :=
 (af ag am (xG N) Tryz.func355 s355 w355 [] (cuts:=[(26,MY N N)]) ⟨JR N N,trivial⟩ (fun _=>by kernel_rfl) (by decide +kernel) (YA N) (fun x=>by kernel_rfl))
@[reducible] def s337:SP:=⟨[.adr 0 [],.ro (.int .i64),.ro (.int .i64),.ro y4],[.var 221 (.agg [.sl 1,.int .i64,.int .i64]),.row (.int .u8) 5]⟩
noncomputable def ab9 (N:Nat):List (Nat×(Pk→Tr Pk)):=[(335,TE N),(354,av2 N),(338,av4 N),(355,aO2 N),(222,Xt N),(356,av1 N),(269,IJ N),(357,av0 N)]
theorem k9 (N:Nat):ai Tryz.prog (ab9 N):=⟨sg N,Ll N,Ln N,WL N,Bu N,Lk N,lz N,Lj N,trivial⟩
@[reducible] def Me:LD:=⟨26,[23,3,0,2,1,22,24],[(.ret,[8]),(.exit 0,[1,2,0,3])],⟨[.int .i64,.ro y4,.adr 0 [],.ro (.int .i64),.ro (.int .i64),.ro y4,.int .i64],[.var 221 (.agg [.sl 1,.int .i64,.int .i64]),.row (.int .u8) 5]⟩,[(.ret,⟨[.int .i64],[.var 221 (.agg [.sl 1,.int .i64,.int .i64]),.row (.int .u8) 5]⟩),(.exit 0,⟨[.ro (.int .i64),.ro (.int .i64),.adr 0 [],.ro y4],[.var 221 (.agg [.sl 1,.int .i64,.int .i64]),.row (.int .u8) 5]⟩)]⟩
abbrev CU:Type:=Int×(List (Int×(Int×(Int×Unit))))×(List Int)×(List Int)×(List (Int×(Int×(Int×Unit))))×Int×Int×Int×(List Int)
abbrev Cb:Type:=((Int×Int×Int×(List Int))⊕((List Int)×(List Int)×(List (Int×(Int×(Int×Unit))))×Int×Int×(List Int)))
noncomputable def NK (N:Nat) (f:CU→Option Cb):CU→Option Cb
 | (x0,x1,x2,x3,x4,x5,x6,x7,x8) =>
 ac (decide (x5<x0)) (
  ac (within x5 (List.length x4)) (
   Option.bind (x4[Int.toNat x5]?) fun y0 =>
   Option.bind (Qx N (y0.1,y0.2.1,y0.2.2.1)) fun y1 =>
   ac (!y1) (
    some (.inl (((1:Int),x6,x7,x8)))) (
    Option.bind (f (x0,x1,x2,x3,x4,IntKind.wrap IntKind.i64 (x5+(1:Int)),x6,x7,x8)) fun r=>match r with|.inl y=>some (.inl y)|.inr y=>some (.inr y))) (
   none )) (
  some (.inr ((x3,x2,x1,x6,x7,x8))))
noncomputable def sL (N:Nat):Nat→CU→Option Cb
 | 0,_=>none
 | k+1,x=>NK N (sL N k) x
noncomputable def sS (N:Nat) (k:Nat):Cut:=Me.cut (sL N k)
theorem ni (N:Nat) (k:Nat):ak Tryz.prog false Tryz.f337 [0] 26 (sS N k) :=
 Me.loopT ag am (k9 N) Tryz.f337 [0] (cuts:=[]) trivial (by decide +kernel) (by kernel_rfl) (NK N) (sL N) (fun _=>rfl) (fun _ _=>rfl) (fun f x=>by kernel_rfl) k
@[reducible] def zj:LD:=⟨1018,[67,66,65,13,0,11],[(.ret,[8]),(.exit 2,[0,11])],⟨[.int .i64,.int .i64,.ro y4,.sl 1,.adr 0 [],.sl 2],[.var 221 (.agg [.sl 3,.int .i64,.int .i64]),.row y0 248,.row y0 248,.row (.int .u8) 5]⟩,[(.exit 2,⟨[.adr 0 [],.sl 1],[.var 221 (.agg [.sl 2,.int .i64,.int .i64]),.row y0 248,.row (.int .u8) 5]⟩)]⟩
abbrev qv:Type:=Int×Int×(List (Int×(Int×(Int×Unit))))×Int×Int×(List (Int×(Int×Unit)))×(List (Int×(Int×Unit)))×(List Int)
abbrev qd:Type:=Int×Int×(List (Int×(Int×Unit)))×(List Int)
noncomputable def Af (N:Nat) (f:qv→Option qd):qv→Option qd
 | (x0,x1,x2,x3,x4,x5,x6,x7) =>
 ac (decide (x0<x1)) (
  ac (within x0 (List.length x2)) (
   Option.bind (x2[Int.toNat x0]?) fun y0 =>
   ac (y0.2.1==(0:Int)) (
    ac (within y0.1 (List.length x6)) (
     Option.bind (x6[Int.toNat y0.1]?) fun y1 =>
     Option.bind (xj N (y1.1,y1.2.1,x3,x4,x7)) fun y2 =>
     Option.bind (f (IntKind.wrap IntKind.i64 (x0+(1:Int)),x1,x2,y2.1,y2.2.1,x5,x6,y2.2.2)) fun r=>some r) (
     none )) (
    Option.bind (Yz N y0.2.1) fun y3 =>
    ac (within y3.1 (List.length x6)) (
     Option.bind (x6[Int.toNat y3.1]?) fun y4 =>
     Option.bind (xj N (y4.1,y4.2.1,x3,x4,x7)) fun y5 =>
     Option.bind (eM N (y3.2.2,y3.2.1,y5.1,y5.2.1,y5.2.2)) fun y6 =>
     Option.bind (Yy N y0.2.2.1) fun y7 =>
     ac (within y7.1 (List.length x5)) (
      Option.bind (x5[Int.toNat y7.1]?) fun y8 =>
      Option.bind (xj N (y8.1,y8.2.1,y6.1,y6.2.1,y6.2.2)) fun y9 =>
      Option.bind (eM N (y7.2.2,y7.2.1,y9.1,y9.2.1,y9.2.2)) fun y10 =>
      Option.bind (f (IntKind.wrap IntKind.i64 (x0+(1:Int)),x1,x2,y10.1,y10.2.1,x5,x6,y10.2.2)) fun r=>some r) (
      none )) (
     none ))) (
   none )) (
  some ((x3,x4,x6,x7)))
noncomputable def lL (N:Nat):Nat→qv→Option qd
 | 0,_=>none
 | k+1,x=>Af N (lL N k) x
noncomputable def qL (N:Nat) (k:Nat):Cut:=zj.cut (lL N k)
theorem oU (N:Nat) (k:Nat):ak Tryz.prog false Tryz.f337 [0] 1018 (qL N k) :=
 zj.loopT ag am (k9 N) Tryz.f337 [0] (cuts:=[(26,sS N N)]) ⟨ni N N,trivial⟩ (by decide +kernel) (by kernel_rfl) (Af N) (lL N) (fun _=>rfl) (fun _ _=>rfl) (fun f x=>by kernel_rfl) k
@[reducible] def Fv:LD:=⟨127,[3,13,0,11],[(.ret,[8]),(.normal,[8])],⟨[.ro y4,.sl 1,.adr 0 [],.sl 2],[.var 221 (.agg [.sl 3,.int .i64,.int .i64]),.row y0 248,.row y0 248,.row (.int .u8) 5]⟩,[(.ret,⟨[.int .i64],[.var 221 (.agg [.sl 1,.int .i64,.int .i64]),.row (.int .u8) 5]⟩)]⟩
noncomputable def wz (N:Nat):((List (Int×(Int×(Int×Unit))))×Int×Int×(List (Int×(Int×Unit)))×(List (Int×(Int×Unit)))×(List Int))→Option (Int×Int×Int×(List Int))
 | (x0,x1,x2,x3,x4,x5) =>
 Option.bind (lL N N ((0:Int),(↑(List.length x0):Int),x0,x1,x2,x3,x4,x5)) fun y0 =>
 ac (within (256:Int) (List.length y0.2.2.1)) (
  Option.bind (y0.2.2.1[(256:Nat)]?) fun y1 =>
  Option.bind (xj N (y1.1,y1.2.1,y0.1,y0.2.1,y0.2.2.2)) fun y2 =>
  some (((0:Int),y2.1,y2.2.1,y2.2.2))) (
  none )
noncomputable def GO (N:Nat) (_:Nat):Cut:=Fv.cut (wz N)
theorem GN (N:Nat) (k:Nat):ak Tryz.prog false Tryz.f337 [0] 127 (GO N k) :=
 Fv.pieceT ag am (k9 N) Tryz.f337 [0] (cuts:=[(26,sS N N),(1018,qL N N)]) ⟨ni N N,oU N N,trivial⟩ (by decide +kernel) (by kernel_rfl) (wz N) (fun x=>by kernel_rfl)
@[reducible] def w337:List SP:=[⟨[.int .i64],[.var 221 (.agg [.sl 1,.int .i64,.int .i64]),.row (.int .u8) 5]⟩]
noncomputable def YI (N:Nat):((List Int)×(List Int)×(List (Int×(Int×(Int×Unit))))×Int×Int×(List Int))→Option (Int×Int×Int×(List Int))
 | (x0,x1,x2,x3,x4,x5) =>
 Option.bind (sL N N ((↑(List.length x2):Int),x2,x1,x0,x2,(0:Int),x3,x4,x5)) fun y0 =>
 match y0 with
 | .inl y1 =>
  some ((y1.1,y1.2.1,y1.2.2.1,y1.2.2.2))
 | .inr (y1_0,y1_1,y1_2,y1_3,y1_4,y1_5) =>
  Option.bind (Ut N y1_0) fun y2 =>
  Option.bind (Ut N y1_1) fun y3 =>
  Option.bind (YH N y1_2) fun y4 =>
  ac (y2.1 != (0:Int)) (
   some (((50:Int),y1_3,y1_4,y1_5))) (
   ac (y3.1 != (0:Int)) (
    some (((50:Int),y1_3,y1_4,y1_5))) (
    Option.bind (YA N (y2.2,y4.1)) fun y5 =>
    ac (!y5) (
     some (((50:Int),y1_3,y1_4,y1_5))) (
     Option.bind (YA N (y3.2,y4.2)) fun y6 =>
     ac (!y6) (
      some (((50:Int),y1_3,y1_4,y1_5))) (
      Option.bind (wz N (y1_2,y1_3,y1_4,y3.2,y2.2,y1_5)) fun y7 =>
      some ((y7.1,y7.2.1,y7.2.2.1,y7.2.2.2))))))
noncomputable def aP3 (N:Nat):Pk→Tr Pk:=ah s337 w337 (YI N)
theorem WY (N:Nat):av Tryz.prog (337) (aP3 N) :=
 (af ag am (k9 N) Tryz.func337 s337 w337 [0] (cuts:=[(26,sS N N),(1018,qL N N),(127,GO N N)]) ⟨ni N N,oU N N,GN N N,trivial⟩ (fun _=>by kernel_rfl) (by decide +kernel) (YI N) (fun x=>by kernel_rfl))
@[reducible] def y5:Ty:=(.cons (.int .i64) (.cons (.sl (.int .i64)) .unit))
@[reducible] def y6:Ty:=(.sl (.cons (.int .i64) (.cons (.sl (.int .i64)) .unit)))
@[reducible] def s388:SP:=⟨[.nilsl,.int .i64],[]⟩
noncomputable def ZI (N:Nat):List (Nat×(Pk→Tr Pk)):=[]
theorem N0 (N:Nat):ai Tryz.prog (ZI N):=trivial
@[reducible] def w388:List SP:=[⟨[.slp 0 (.c 0) (.c 0)],[.row y5 391]⟩,⟨[.sl 0],[.row y5 391]⟩]
noncomputable def ax8 (N:Nat):(Int)→Option ((((List (Int×((List Int)×Unit))))⊕((List (Int×((List Int)×Unit))))))
 | x0 =>
 ac (decide (x0<(0:Int))) (
  none ) (
  ac (decide (IntKind.wrap IntKind.i64 (x0-(0:Int))>(0:Int))) (
   ac (decide ((0:Int)<IntKind.wrap IntKind.i64 (x0-(0:Int))∧IntKind.wrap IntKind.i64 (x0-(0:Int))*(32:Int)≤(140737488355328:Int)∧IntKind.wrap IntKind.i64 (x0-(0:Int))≤(140737488355328:Int))) (
    ac (decide ((0:Int)≤(0:Int)∧(0:Int)≤(↑(List.length (List.replicate (Int.toNat (IntKind.wrap IntKind.i64 (x0-(0:Int)))) ((0:Int),aI7 (Ty.den (Ty.int IntKind.i64)),()))):Int))) (
     some (.inl (List.replicate (Int.toNat (IntKind.wrap IntKind.i64 (x0-(0:Int)))) ((0:Int),aI7 (Ty.den (Ty.int IntKind.i64)),())))) (
     none )) (
    none )) (
   some (.inr ([]))))
noncomputable def aM6 (N:Nat):Pk→Tr Pk:=tL (Kk (Ty.cons (Ty.int IntKind.i64) (Ty.cons (Ty.sl (Ty.int IntKind.i64)) (Ty.unit))) 391) (ah s388 w388 (ax8 N))
theorem Ws (N:Nat):av Tryz.prog (388) (aM6 N) :=
 jV (DT _ _) (af ag am (N0 N) Tryz.func388 s388 w388 [] (cuts:=[]) trivial (fun _=>by kernel_rfl) (by decide +kernel) (ax8 N) (fun x=>by kernel_rfl)) (by decide +kernel)
@[reducible] def s383:SP:=⟨[.sl 0],[.row y6 387]⟩
noncomputable def ZN (N:Nat):List (Nat×(Pk→Tr Pk)):=[(388,aM6 N)]
theorem o6 (N:Nat):ai Tryz.prog (ZN N):=⟨Ws N,trivial⟩
@[reducible] def LL:LD:=⟨58,[3,11,10,0,9],[(.ret,[2]),(.exit 0,[3,0])],⟨[.int .i64,.int .i64,.int .i64,.sl 0,.sl 0],[.row y6 387]⟩,[(.exit 0,⟨[.int .i64,.sl 0],[.row y6 387]⟩)]⟩
abbrev CC:Type:=Int×Int×Int×(List (List (Int×((List Int)×Unit))))
abbrev BJ:Type:=Int×(List (List (Int×((List Int)×Unit))))
noncomputable def Nu (N:Nat) (f:CC→Option BJ):CC→Option BJ
 | (x0,x1,x2,x3) =>
 ac (decide (x1<x2)) (
  ac (within x1 (List.length x3)) (
   Option.bind (x3[Int.toNat x1]?) fun y0 =>
   ac (decide (IntKind.wrap IntKind.i64 (x0+(↑(List.length y0):Int))<(0:Int))) (
    none ) (
    Option.bind (f (IntKind.wrap IntKind.i64 (x0+(↑(List.length y0):Int)),IntKind.wrap IntKind.i64 (x1+(1:Int)),x2,x3)) fun r=>some r)) (
   none )) (
  some ((x0,x3)))
noncomputable def su (N:Nat):Nat→CC→Option BJ
 | 0,_=>none
 | k+1,x=>Nu N (su N k) x
noncomputable def Dy (N:Nat) (k:Nat):Cut:=LL.cut (su N k)
theorem wI (N:Nat) (k:Nat):ak Tryz.prog false Tryz.f383 [] 58 (Dy N k) :=
 LL.loopT ag am (o6 N) Tryz.f383 [] (cuts:=[]) trivial (by decide +kernel) (by kernel_rfl) (Nu N) (su N) (fun _=>rfl) (fun _ _=>rfl) (fun f x=>by kernel_rfl) k
@[reducible] def Fg:LD:=⟨250,[6,27,26,25],[(.ret,[2]),(.exit 2,[6])],⟨[.sl 0,.int .i64,.int .i64,.sl 1],[.row y5 391,.row y6 387]⟩,[(.exit 2,⟨[.sl 0],[.row y5 391]⟩)]⟩
abbrev vw:Type:=Int×Int×(List (Int×((List Int)×Unit)))×(List (List (Int×((List Int)×Unit))))
abbrev uJ:Type:=(List (Int×((List Int)×Unit)))
noncomputable def Hl (N:Nat) (f:vw→Option uJ):vw→Option uJ
 | (x0,x1,x2,x3) =>
 ac (decide (x0<x1)) (
  ac (within x0 (List.length x3)) (
   Option.bind (x3[Int.toNat x0]?) fun y0 =>
   ac (decide ((List.length x2+List.length y0)*(32:Nat)≤(140737488355328:Nat)∧List.length x2+List.length y0≤(140737488355328:Nat))) (
    Option.bind (f (IntKind.wrap IntKind.i64 (x0+(1:Int)),x1,x2++y0,x3)) fun r=>some r) (
    none )) (
   none )) (
  some (x2))
noncomputable def kC (N:Nat):Nat→vw→Option uJ
 | 0,_=>none
 | k+1,x=>Hl N (kC N k) x
noncomputable def Gv (N:Nat) (k:Nat):Cut:=Fg.cut (kC N k)
theorem Gu (N:Nat) (k:Nat):ak Tryz.prog false Tryz.f383 [] 250 (Gv N k) :=
 Fg.loopT ag am (o6 N) Tryz.f383 [] (cuts:=[(58,Dy N N)]) ⟨wI N N,trivial⟩ (by decide +kernel) (by kernel_rfl) (Hl N) (kC N) (fun _=>rfl) (fun _ _=>rfl) (fun f x=>by kernel_rfl) k
@[reducible] def w383:List SP:=[⟨[.sl 0],[.row y5 391]⟩]
noncomputable def ay1 (N:Nat):((List (List (Int×((List Int)×Unit)))))→Option ((List (Int×((List Int)×Unit))))
 | x0 =>
 Option.bind (su N N ((0:Int),(0:Int),(↑(List.length x0):Int),x0)) fun y0 =>
 Option.bind (ax8 N y0.1) fun y1 =>
 match y1 with
 | .inl y2 =>
  Option.bind (kC N N ((0:Int),(↑(List.length y0.2):Int),[],y0.2)) fun y3 =>
  some (y3)
 | .inr y2 =>
  Option.bind (kC N N ((0:Int),(↑(List.length y0.2):Int),y2,y0.2)) fun y4 =>
  some (y4)
noncomputable def aN0 (N:Nat):Pk→Tr Pk:=ah s383 w383 (ay1 N)
theorem Ww (N:Nat):av Tryz.prog (383) (aN0 N) :=
 (af ag am (o6 N) Tryz.func383 s383 w383 [] (cuts:=[(58,Dy N N),(250,Gv N N)]) ⟨wI N N,Gu N N,trivial⟩ (fun _=>by kernel_rfl) (by decide +kernel) (ay1 N) (fun x=>by kernel_rfl))
@[reducible] def s390:SP:=⟨[.int .i64],[]⟩
noncomputable def ZG (N:Nat):List (Nat×(Pk→Tr Pk)):=[]
theorem NZ (N:Nat):ai Tryz.prog (ZG N):=trivial
@[reducible] def w390:List SP:=[⟨[.bool],[]⟩]
noncomputable def Ym (N:Nat):(Int)→Option (Bool)
 | x0 =>
 some (x0 != x0)
noncomputable def aM4 (N:Nat):Pk→Tr Pk:=ah s390 w390 (Ym N)
theorem Wq (N:Nat):av Tryz.prog (390) (aM4 N) :=
 (af ag am (NZ N) Tryz.func390 s390 w390 [] (cuts:=[]) trivial (fun _=>by kernel_rfl) (by decide +kernel) (Ym N) (fun x=>by kernel_rfl))
@[reducible] def s386:SP:=⟨[.int .i64,.int .i64],[]⟩
noncomputable def ZK (N:Nat):List (Nat×(Pk→Tr Pk)):=[(390,aM4 N)]
theorem N2 (N:Nat):ai Tryz.prog (ZK N):=⟨Wq N,trivial⟩
@[reducible] def w386:List SP:=[⟨[.int .i64],[]⟩]
noncomputable def ax9 (N:Nat):(Int×Int)→Option (Int)
 | (x0,x1) =>
 Option.bind (Ym N x0) fun y0 =>
 Option.bind (Ym N x1) fun y1 =>
 ac (y0) (
  ac (y1) (
   some ((0:Int))) (
   some ((-1:Int)))) (
  ac (y1) (
   some ((1:Int))) (
   ac (decide (x0<x1)) (
    some ((-1:Int))) (
    ac (decide (x0>x1)) (
     some ((1:Int))) (
     some ((0:Int))))))
noncomputable def aM8 (N:Nat):Pk→Tr Pk:=ah s386 w386 (ax9 N)
theorem Wu (N:Nat):av Tryz.prog (386) (aM8 N) :=
 (af ag am (N2 N) Tryz.func386 s386 w386 [] (cuts:=[]) trivial (fun _=>by kernel_rfl) (by decide +kernel) (ax9 N) (fun x=>by kernel_rfl))
@[reducible] def s385:SP:=⟨[.agg [.int .i64,.ro (.int .i64)],.agg [.int .i64,.ro (.int .i64)]],[]⟩
noncomputable def ZL (N:Nat):List (Nat×(Pk→Tr Pk)):=[(386,aM8 N)]
theorem N3 (N:Nat):ai Tryz.prog (ZL N):=⟨Wu N,trivial⟩
@[reducible] def w385:List SP:=[⟨[.int .i64],[]⟩]
noncomputable def Qs (N:Nat):(Int×(List Int)×Int×(List Int))→Option (Int)
 | (x0,x1,x2,x3) =>
 Option.bind (ax9 N (x0,x2)) fun y0 =>
 some (y0)
noncomputable def at5 (N:Nat):Pk→Tr Pk:=ah s385 w385 (Qs N)
theorem K5 (N:Nat):av Tryz.prog (385) (at5 N) :=
 (af ag am (N3 N) Tryz.func385 s385 w385 [] (cuts:=[]) trivial (fun _=>by kernel_rfl) (by decide +kernel) (Qs N) (fun x=>by kernel_rfl))
@[reducible] def s391:SP:=⟨[.slp 0 .h .h,.int .i64,.int .i64,.fn 385],[.row y5 391]⟩
noncomputable def ZF (N:Nat):List (Nat×(Pk→Tr Pk)):=[(385,at5 N)]
theorem o5 (N:Nat):ai Tryz.prog (ZF N):=⟨K5 N,trivial⟩
@[reducible] def Fe:LD:=⟨402,[9,3,1,2,8,0],[(.exit 2,[8,2,1,3,0]),(.exit 1,[8,2,1,3,0])],⟨[.int .i64,.fn 385,.int .i64,.int .i64,.int .i64,.slp 0 .h .h],[.row y5 391]⟩,[(.exit 2,⟨[.int .i64,.int .i64,.int .i64,.fn 385,.slp 0 .h .h],[.row y5 391]⟩)]⟩
abbrev vu:Type:=Int×Int×Int×Int×Nat×Nat×(List (Int×((List Int)×Unit)))
abbrev uH:Type:=Int×Int×Int×Nat×Nat×(List (Int×((List Int)×Unit)))
noncomputable def Hk (N:Nat) (f:vu→Option uH):vu→Option uH
 | (x0,x1,x2,x3,x4,x5,x6) =>
 ac (decide (x0>x1)) (
  ac (within x0 x5) (
   Option.bind (x6[x4+Int.toNat x0]?) fun y0 =>
   ac (within (IntKind.wrap IntKind.i64 (x0-(1:Int))) x5) (
    Option.bind (x6[x4+Int.toNat (IntKind.wrap IntKind.i64 (x0-(1:Int)))]?) fun y1 =>
    Option.bind (Qs N (y0.1,y0.2.1,y1.1,y1.2.1)) fun y2 =>
    ac (decide (y2<(0:Int))) (
     ac (within (IntKind.wrap IntKind.i64 (x0-(1:Int))) x5) (
      Option.bind (x6[x4+Int.toNat (IntKind.wrap IntKind.i64 (x0-(1:Int)))]?) fun y3 =>
      ac (within x0 x5) (
       Option.bind (x6[x4+Int.toNat x0]?) fun y4 =>
       ac (within x0 x5) (
        Option.bind (x6[x4+Int.toNat x0]?) fun y5 =>
        ac (within (IntKind.wrap IntKind.i64 (x0-(1:Int))) x5) (
         Option.bind ((List.set x6 (x4+Int.toNat x0) (y3.1,y3.2.1,()))[x4+Int.toNat (IntKind.wrap IntKind.i64 (x0-(1:Int)))]?) fun y6 =>
         Option.bind (f (IntKind.wrap IntKind.i64 (x0-(1:Int)),x1,x2,x3,x4,x5,List.set (List.set x6 (x4+Int.toNat x0) (y3.1,y3.2.1,())) (x4+Int.toNat (IntKind.wrap IntKind.i64 (x0-(1:Int)))) (y4.1,y4.2.1,()))) fun r=>some r) (
         none )) (
        none )) (
       none )) (
      none )) (
     some ((x3,x2,x1,x4,x5,x6)))) (
    none )) (
   none )) (
  some ((x3,x2,x1,x4,x5,x6)))
noncomputable def ou (N:Nat):Nat→vu→Option uH
 | 0,_=>none
 | k+1,x=>Hk N (ou N k) x
noncomputable def wG (N:Nat) (k:Nat):Cut:=Fe.cut (ou N k)
theorem rA (N:Nat) (k:Nat):ak Tryz.prog false Tryz.f391 [0] 402 (wG N k) :=
 Fe.loopT ag am (o5 N) Tryz.f391 [0] (cuts:=[]) trivial (by decide +kernel) (by kernel_rfl) (Hk N) (ou N) (fun _=>rfl) (fun _ _=>rfl) (fun f x=>by kernel_rfl) k
@[reducible] def TZ:LD:=⟨6,[2,1,3,8,0],[(.exit 0,[])],⟨[.int .i64,.int .i64,.fn 385,.int .i64,.slp 0 .h .h],[.row y5 391]⟩,[(.exit 0,⟨[],[.row y5 391]⟩)]⟩
abbrev I6:Type:=Int×Int×Int×Nat×Nat×(List (Int×((List Int)×Unit)))
abbrev IT:Type:=(List (Int×((List Int)×Unit)))
noncomputable def Vq (N:Nat) (f:I6→Option IT):I6→Option IT
 | (x0,x1,x2,x3,x4,x5) =>
 ac (decide (x2<x0)) (
  Option.bind (ou N N (x2,x1,x0,x2,x3,x4,x5)) fun(y0_0,y0_1,y0_2,y0_3,y0_4,y0_5) =>
  Option.bind (f (y0_1,y0_2,IntKind.wrap IntKind.i64 (y0_0+(1:Int)),y0_3,y0_4,y0_5)) fun r=>some r) (
  some (x5))
noncomputable def Dk (N:Nat):Nat→I6→Option IT
 | 0,_=>none
 | k+1,x=>Vq N (Dk N k) x
noncomputable def Vi (N:Nat) (k:Nat):Cut:=TZ.cut (Dk N k)
theorem QX (N:Nat) (k:Nat):ak Tryz.prog false Tryz.f391 [0] 6 (Vi N k) :=
 TZ.loopT ag am (o5 N) Tryz.f391 [0] (cuts:=[(402,wG N N)]) ⟨rA N N,trivial⟩ (by decide +kernel) (by kernel_rfl) (Vq N) (Dk N) (fun _=>rfl) (fun _ _=>rfl) (fun f x=>by kernel_rfl) k
@[reducible] def w391:List SP:=[⟨[.tup []],[.row y5 391]⟩]
noncomputable def Yl (N:Nat):(Nat×Nat×Int×Int×(List (Int×((List Int)×Unit))))→Option ((List (Int×((List Int)×Unit))))
 | (x0,x1,x2,x3,x4) =>
 Option.bind (Dk N N (x3,x2,IntKind.wrap IntKind.i64 (x2+(1:Int)),x0,x1,x4)) fun y0 =>
 some (y0)
noncomputable def aM3 (N:Nat):Pk→Tr Pk:=ah s391 w391 (Yl N)
theorem Wp (N:Nat):av Tryz.prog (391) (aM3 N) :=
 (af ag am (o5 N) Tryz.func391 s391 w391 [0] (cuts:=[(402,wG N N),(6,Vi N N)]) ⟨rA N N,QX N N,trivial⟩ (fun _=>by kernel_rfl) (by decide +kernel) (Yl N) (fun x=>by kernel_rfl))
@[reducible] def s394:SP:=⟨[.slp 0 .h .h,.int .i64,.int .i64,.int .i64,.fn 385],[.row y5 391]⟩
noncomputable def ZC (N:Nat):List (Nat×(Pk→Tr Pk)):=[]
theorem xr (N:Nat):ai Tryz.prog (ZC N):=trivial
@[reducible] def TY:LD:=⟨6,[10,3,2,0,1],[(.exit 0,[])],⟨[.int .i64,.int .i64,.int .i64,.slp 0 .h .h,.int .i64],[.row y5 391]⟩,[(.exit 0,⟨[],[.row y5 391]⟩)]⟩
abbrev I5:Type:=Int×Int×Int×Nat×Nat×Int×(List (Int×((List Int)×Unit)))
abbrev IS:Type:=(List (Int×((List Int)×Unit)))
noncomputable def Vp (N:Nat) (f:I5→Option IS):I5→Option IS
 | (x0,x1,x2,x3,x4,x5,x6) =>
 ac (decide (x0<x1)) (
  ac (within (IntKind.wrap IntKind.i64 (x2+x0)) x4) (
   Option.bind (x6[x3+Int.toNat (IntKind.wrap IntKind.i64 (x2+x0))]?) fun y0 =>
   ac (within (IntKind.wrap IntKind.i64 (x5+x0)) x4) (
    Option.bind (x6[x3+Int.toNat (IntKind.wrap IntKind.i64 (x5+x0))]?) fun y1 =>
    ac (within (IntKind.wrap IntKind.i64 (x5+x0)) x4) (
     Option.bind (x6[x3+Int.toNat (IntKind.wrap IntKind.i64 (x5+x0))]?) fun y2 =>
     ac (within (IntKind.wrap IntKind.i64 (x2+x0)) x4) (
      Option.bind ((List.set x6 (x3+Int.toNat (IntKind.wrap IntKind.i64 (x5+x0))) (y0.1,y0.2.1,()))[x3+Int.toNat (IntKind.wrap IntKind.i64 (x2+x0))]?) fun y3 =>
      Option.bind (f (IntKind.wrap IntKind.i64 (x0+(1:Int)),x1,x2,x3,x4,x5,List.set (List.set x6 (x3+Int.toNat (IntKind.wrap IntKind.i64 (x5+x0))) (y0.1,y0.2.1,())) (x3+Int.toNat (IntKind.wrap IntKind.i64 (x2+x0))) (y1.1,y1.2.1,()))) fun r=>some r) (
      none )) (
     none )) (
    none )) (
   none )) (
  some (x6))
noncomputable def Dj (N:Nat):Nat→I5→Option IS
 | 0,_=>none
 | k+1,x=>Vp N (Dj N k) x
noncomputable def Vh (N:Nat) (k:Nat):Cut:=TY.cut (Dj N k)
theorem QW (N:Nat) (k:Nat):ak Tryz.prog false Tryz.f394 [0] 6 (Vh N k) :=
 TY.loopT ag am (xr N) Tryz.f394 [0] (cuts:=[]) trivial (by decide +kernel) (by kernel_rfl) (Vp N) (Dj N) (fun _=>rfl) (fun _ _=>rfl) (fun f x=>by kernel_rfl) k
@[reducible] def w394:List SP:=[⟨[.tup []],[.row y5 391]⟩]
noncomputable def Un (N:Nat):(Nat×Nat×Int×Int×Int×(List (Int×((List Int)×Unit))))→Option ((List (Int×((List Int)×Unit))))
 | (x0,x1,x2,x3,x4,x5) =>
 Option.bind (Dj N N ((0:Int),x4,x3,x0,x1,x2,x5)) fun y0 =>
 some (y0)
noncomputable def aM0 (N:Nat):Pk→Tr Pk:=ah s394 w394 (Un N)
theorem Wm (N:Nat):av Tryz.prog (394) (aM0 N) :=
 (af ag am (xr N) Tryz.func394 s394 w394 [0] (cuts:=[(6,Vh N N)]) ⟨QW N N,trivial⟩ (fun _=>by kernel_rfl) (by decide +kernel) (Un N) (fun x=>by kernel_rfl))
@[reducible] def s393:SP:=⟨[.slp 0 .h .h,.int .i64,.int .i64,.int .i64,.fn 385],[.row y5 391]⟩
noncomputable def ZD (N:Nat):List (Nat×(Pk→Tr Pk)):=[(394,aM0 N)]
theorem xt (N:Nat):ai Tryz.prog (ZD N):=⟨Wm N,trivial⟩
@[reducible] def LH:LD:=⟨28,[10,0,2,4,11],[(.exit 0,[0,2,10,4])],⟨[.int .i64,.slp 0 .h .h,.int .i64,.fn 385,.int .i64],[.row y5 391]⟩,[(.exit 0,⟨[.slp 0 .h .h,.int .i64,.int .i64,.fn 385],[.row y5 391]⟩)]⟩
abbrev Cw:Type:=Int×Nat×Nat×Int×Int×(List (Int×((List Int)×Unit)))
abbrev BF:Type:=Nat×Nat×Int×Int×(List (Int×((List Int)×Unit)))
noncomputable def Nr (N:Nat) (f:Cw→Option BF):Cw→Option BF
 | (x0,x1,x2,x3,x4,x5) =>
 ac (x0 != x4) (
  ac (decide (x0>x4)) (
   Option.bind (Un N (x1,x2,IntKind.wrap IntKind.i64 (x3-x0),x3,x4,x5)) fun y0 =>
   Option.bind (f (IntKind.wrap IntKind.i64 (x0-x4),x1,x2,x3,x4,y0)) fun r=>some r) (
   Option.bind (Un N (x1,x2,IntKind.wrap IntKind.i64 (x3-x0),IntKind.wrap IntKind.i64 (IntKind.wrap IntKind.i64 (x3+x4)-x0),x0,x5)) fun y1 =>
   Option.bind (f (x0,x1,x2,x3,IntKind.wrap IntKind.i64 (x4-x0),y1)) fun r=>some r)) (
  some ((x1,x2,x3,x0,x5)))
noncomputable def sq (N:Nat):Nat→Cw→Option BF
 | 0,_=>none
 | k+1,x=>Nr N (sq N k) x
noncomputable def MJ (N:Nat) (k:Nat):Cut:=LH.cut (sq N k)
theorem JD (N:Nat) (k:Nat):ak Tryz.prog false Tryz.f393 [0] 28 (MJ N k) :=
 LH.loopT ag am (xt N) Tryz.f393 [0] (cuts:=[]) trivial (by decide +kernel) (by kernel_rfl) (Nr N) (sq N) (fun _=>rfl) (fun _ _=>rfl) (fun f x=>by kernel_rfl) k
@[reducible] def w393:List SP:=[⟨[.tup []],[.row y5 391]⟩]
noncomputable def ax5 (N:Nat):(Nat×Nat×Int×Int×Int×(List (Int×((List Int)×Unit))))→Option ((List (Int×((List Int)×Unit))))
 | (x0,x1,x2,x3,x4,x5) =>
 Option.bind (sq N N (IntKind.wrap IntKind.i64 (x3-x2),x0,x1,x3,IntKind.wrap IntKind.i64 (x4-x3),x5)) fun y0 =>
 Option.bind (Un N (y0.1,y0.2.1,IntKind.wrap IntKind.i64 (y0.2.2.1-y0.2.2.2.1),y0.2.2.1,y0.2.2.2.1,y0.2.2.2.2)) fun y1 =>
 some (y1)
noncomputable def aM1 (N:Nat):Pk→Tr Pk:=ah s393 w393 (ax5 N)
theorem Wn (N:Nat):av Tryz.prog (393) (aM1 N) :=
 (af ag am (xt N) Tryz.func393 s393 w393 [0] (cuts:=[(28,MJ N N)]) ⟨JD N N,trivial⟩ (fun _=>by kernel_rfl) (by decide +kernel) (ax5 N) (fun x=>by kernel_rfl))
@[reducible] def s392:SP:=⟨[.slp 0 .h .h,.int .i64,.int .i64,.int .i64,.fn 385],[.row y5 391]⟩
@[reducible] def w392:List SP:=[⟨[.tup []],[.row (.cons (.int .i64) (.cons (.sl (.int .i64)) .unit)) 391]⟩]
noncomputable def ZE (N:Nat) (G:(Nat×Nat×Int×Int×Int×(List (Int×((List Int)×Unit))))→Option ((List (Int×((List Int)×Unit))))):List (Nat×(Pk→Tr Pk)):=[(392,ah s392 w392 G),(385,at5 N),(393,aM1 N)]
theorem cu (N:Nat) (G:(Nat×Nat×Int×Int×Int×(List (Int×((List Int)×Unit))))→Option ((List (Int×((List Int)×Unit))))) (hG:av Tryz.prog 392 (ah s392 w392 G)):ai Tryz.prog (ZE N G):=⟨hG,K5 N,Wn N,trivial⟩
@[reducible] def Fb:LD:=⟨172,[10,11,4,0,1],[(.exit 0,[1,10,0])],⟨[.int .i64,.int .i64,.fn 385,.slp 0 .h .h,.int .i64],[.row y5 391]⟩,[(.exit 0,⟨[.int .i64,.int .i64,.slp 0 .h .h],[.row y5 391]⟩)]⟩
abbrev vt:Type:=Int×Int×Nat×Nat×Int×(List (Int×((List Int)×Unit)))
abbrev uG:Type:=Int×Int×Nat×Nat×(List (Int×((List Int)×Unit)))
noncomputable def Hj (N:Nat) (G:(Nat×Nat×Int×Int×Int×(List (Int×((List Int)×Unit))))→Option ((List (Int×((List Int)×Unit))))) (f:vt→Option uG):vt→Option uG
 | (x0,x1,x2,x3,x4,x5) =>
 ac (decide (x0<x1)) (
  ac (within (IntKind.wrap IntKind.i64 (Int.fdiv (IntKind.wrap IntKind.u64 (IntKind.wrap IntKind.i64 (x0+x1))) (2:Int))) x3) (
   Option.bind (x5[x2+Int.toNat (IntKind.wrap IntKind.i64 (Int.fdiv (IntKind.wrap IntKind.u64 (IntKind.wrap IntKind.i64 (x0+x1))) (2:Int)))]?) fun y0 =>
   ac (within x4 x3) (
    Option.bind (x5[x2+Int.toNat x4]?) fun y1 =>
    Option.bind (Qs N (y0.1,y0.2.1,y1.1,y1.2.1)) fun y2 =>
    ac (decide (y2<(0:Int))) (
     Option.bind (f (IntKind.wrap IntKind.i64 (IntKind.wrap IntKind.i64 (Int.fdiv (IntKind.wrap IntKind.u64 (IntKind.wrap IntKind.i64 (x0+x1))) (2:Int))+(1:Int)),x1,x2,x3,x4,x5)) fun r=>some r) (
     Option.bind (f (x0,IntKind.wrap IntKind.i64 (Int.fdiv (IntKind.wrap IntKind.u64 (IntKind.wrap IntKind.i64 (x0+x1))) (2:Int)),x2,x3,x4,x5)) fun r=>some r)) (
    none )) (
   none )) (
  some ((x4,x0,x2,x3,x5)))
noncomputable def oq (N:Nat) (G:(Nat×Nat×Int×Int×Int×(List (Int×((List Int)×Unit))))→Option ((List (Int×((List Int)×Unit))))):Nat→vt→Option uG
 | 0,_=>none
 | k+1,x=>Hj N G (oq N G k) x
noncomputable def dx (N:Nat) (G:(Nat×Nat×Int×Int×Int×(List (Int×((List Int)×Unit))))→Option ((List (Int×((List Int)×Unit))))) (k:Nat):Cut:=Fb.cut (oq N G k)
theorem bV (N:Nat) (G:(Nat×Nat×Int×Int×Int×(List (Int×((List Int)×Unit))))→Option ((List (Int×((List Int)×Unit))))) (hG:av Tryz.prog 392 (ah s392 w392 G)) (k:Nat):ak Tryz.prog false Tryz.f392 [0] 172 (dx N G k) :=
 Fb.loopT ag am (cu N G hG) Tryz.f392 [0] (cuts:=[]) trivial (by decide +kernel) (by kernel_rfl) (Hj N G) (oq N G) (fun _=>rfl) (fun _ _=>rfl) (fun f x=>by kernel_rfl) k
@[reducible] def E9:LD:=⟨698,[13,10,0],[(.exit 2,[])],⟨[.int .i64,.int .i64,.slp 0 .h .h],[.row y5 391]⟩,[(.exit 2,⟨[],[.row y5 391]⟩)]⟩
abbrev vp:Type:=Int×Int×Nat×Nat×(List (Int×((List Int)×Unit)))
abbrev uE:Type:=(List (Int×((List Int)×Unit)))
noncomputable def Hh (N:Nat) (G:(Nat×Nat×Int×Int×Int×(List (Int×((List Int)×Unit))))→Option ((List (Int×((List Int)×Unit))))) (f:vp→Option uE):vp→Option uE
 | (x0,x1,x2,x3,x4) =>
 ac (decide (x0<IntKind.wrap IntKind.i64 (x1-(1:Int)))) (
  ac (within (IntKind.wrap IntKind.i64 (x0+(1:Int))) x3) (
   Option.bind (x4[x2+Int.toNat (IntKind.wrap IntKind.i64 (x0+(1:Int)))]?) fun y0 =>
   ac (within x0 x3) (
    Option.bind (x4[x2+Int.toNat x0]?) fun y1 =>
    ac (within x0 x3) (
     Option.bind (x4[x2+Int.toNat x0]?) fun y2 =>
     ac (within (IntKind.wrap IntKind.i64 (x0+(1:Int))) x3) (
      Option.bind ((List.set x4 (x2+Int.toNat x0) (y0.1,y0.2.1,()))[x2+Int.toNat (IntKind.wrap IntKind.i64 (x0+(1:Int)))]?) fun y3 =>
      Option.bind (f (IntKind.wrap IntKind.i64 (x0+(1:Int)),x1,x2,x3,List.set (List.set x4 (x2+Int.toNat x0) (y0.1,y0.2.1,())) (x2+Int.toNat (IntKind.wrap IntKind.i64 (x0+(1:Int)))) (y1.1,y1.2.1,()))) fun r=>some r) (
      none )) (
     none )) (
    none )) (
   none )) (
  some (x4))
noncomputable def om (N:Nat) (G:(Nat×Nat×Int×Int×Int×(List (Int×((List Int)×Unit))))→Option ((List (Int×((List Int)×Unit))))):Nat→vp→Option uE
 | 0,_=>none
 | k+1,x=>Hh N G (om N G k) x
noncomputable def ey (N:Nat) (G:(Nat×Nat×Int×Int×Int×(List (Int×((List Int)×Unit))))→Option ((List (Int×((List Int)×Unit))))) (k:Nat):Cut:=E9.cut (om N G k)
theorem cr (N:Nat) (G:(Nat×Nat×Int×Int×Int×(List (Int×((List Int)×Unit))))→Option ((List (Int×((List Int)×Unit))))) (hG:av Tryz.prog 392 (ah s392 w392 G)) (k:Nat):ak Tryz.prog false Tryz.f392 [0] 698 (ey N G k) :=
 E9.loopT ag am (cu N G hG) Tryz.f392 [0] (cuts:=[(172,dx N G N)]) ⟨bV N G hG N,trivial⟩ (by decide +kernel) (by kernel_rfl) (Hh N G) (om N G) (fun _=>rfl) (fun _ _=>rfl) (fun f x=>by kernel_rfl) k
@[reducible] def Fa:LD:=⟨428,[14,15,4,2,0],[(.exit 4,[2,14,0])],⟨[.int .i64,.int .i64,.fn 385,.int .i64,.slp 0 .h .h],[.row y5 391]⟩,[(.exit 4,⟨[.int .i64,.int .i64,.slp 0 .h .h],[.row y5 391]⟩)]⟩
abbrev vq:Type:=Int×Int×Int×Nat×Nat×(List (Int×((List Int)×Unit)))
abbrev uF:Type:=Int×Int×Nat×Nat×(List (Int×((List Int)×Unit)))
noncomputable def Hi (N:Nat) (G:(Nat×Nat×Int×Int×Int×(List (Int×((List Int)×Unit))))→Option ((List (Int×((List Int)×Unit))))) (f:vq→Option uF):vq→Option uF
 | (x0,x1,x2,x3,x4,x5) =>
 ac (decide (x0<x1)) (
  ac (within x2 x4) (
   Option.bind (x5[x3+Int.toNat x2]?) fun y0 =>
   ac (within (IntKind.wrap IntKind.i64 (Int.fdiv (IntKind.wrap IntKind.u64 (IntKind.wrap IntKind.i64 (x0+x1))) (2:Int))) x4) (
    Option.bind (x5[x3+Int.toNat (IntKind.wrap IntKind.i64 (Int.fdiv (IntKind.wrap IntKind.u64 (IntKind.wrap IntKind.i64 (x0+x1))) (2:Int)))]?) fun y1 =>
    Option.bind (Qs N (y0.1,y0.2.1,y1.1,y1.2.1)) fun y2 =>
    ac (!decide (y2<(0:Int))) (
     Option.bind (f (IntKind.wrap IntKind.i64 (IntKind.wrap IntKind.i64 (Int.fdiv (IntKind.wrap IntKind.u64 (IntKind.wrap IntKind.i64 (x0+x1))) (2:Int))+(1:Int)),x1,x2,x3,x4,x5)) fun r=>some r) (
     Option.bind (f (x0,IntKind.wrap IntKind.i64 (Int.fdiv (IntKind.wrap IntKind.u64 (IntKind.wrap IntKind.i64 (x0+x1))) (2:Int)),x2,x3,x4,x5)) fun r=>some r)) (
    none )) (
   none )) (
  some ((x2,x0,x3,x4,x5)))
noncomputable def oo (N:Nat) (G:(Nat×Nat×Int×Int×Int×(List (Int×((List Int)×Unit))))→Option ((List (Int×((List Int)×Unit))))):Nat→vq→Option uF
 | 0,_=>none
 | k+1,x=>Hi N G (oo N G k) x
noncomputable def fL (N:Nat) (G:(Nat×Nat×Int×Int×Int×(List (Int×((List Int)×Unit))))→Option ((List (Int×((List Int)×Unit))))) (k:Nat):Cut:=Fa.cut (oo N G k)
theorem c8 (N:Nat) (G:(Nat×Nat×Int×Int×Int×(List (Int×((List Int)×Unit))))→Option ((List (Int×((List Int)×Unit))))) (hG:av Tryz.prog 392 (ah s392 w392 G)) (k:Nat):ak Tryz.prog false Tryz.f392 [0] 428 (fL N G k) :=
 Fa.loopT ag am (cu N G hG) Tryz.f392 [0] (cuts:=[(172,dx N G N),(698,ey N G N)]) ⟨bV N G hG N,cr N G hG N,trivial⟩ (by decide +kernel) (by kernel_rfl) (Hi N G) (oo N G) (fun _=>rfl) (fun _ _=>rfl) (fun f x=>by kernel_rfl) k
@[reducible] def yZ:LD:=⟨1722,[17,14,0],[(.exit 6,[])],⟨[.int .i64,.int .i64,.slp 0 .h .h],[.row y5 391]⟩,[(.exit 6,⟨[],[.row y5 391]⟩)]⟩
abbrev qj:Type:=Int×Int×Nat×Nat×(List (Int×((List Int)×Unit)))
abbrev pV:Type:=(List (Int×((List Int)×Unit)))
noncomputable def zU (N:Nat) (G:(Nat×Nat×Int×Int×Int×(List (Int×((List Int)×Unit))))→Option ((List (Int×((List Int)×Unit))))) (f:qj→Option pV):qj→Option pV
 | (x0,x1,x2,x3,x4) =>
 ac (decide (x0>x1)) (
  ac (within (IntKind.wrap IntKind.i64 (x0-(1:Int))) x3) (
   Option.bind (x4[x2+Int.toNat (IntKind.wrap IntKind.i64 (x0-(1:Int)))]?) fun y0 =>
   ac (within x0 x3) (
    Option.bind (x4[x2+Int.toNat x0]?) fun y1 =>
    ac (within x0 x3) (
     Option.bind (x4[x2+Int.toNat x0]?) fun y2 =>
     ac (within (IntKind.wrap IntKind.i64 (x0-(1:Int))) x3) (
      Option.bind ((List.set x4 (x2+Int.toNat x0) (y0.1,y0.2.1,()))[x2+Int.toNat (IntKind.wrap IntKind.i64 (x0-(1:Int)))]?) fun y3 =>
      Option.bind (f (IntKind.wrap IntKind.i64 (x0-(1:Int)),x1,x2,x3,List.set (List.set x4 (x2+Int.toNat x0) (y0.1,y0.2.1,())) (x2+Int.toNat (IntKind.wrap IntKind.i64 (x0-(1:Int)))) (y1.1,y1.2.1,()))) fun r=>some r) (
      none )) (
     none )) (
    none )) (
   none )) (
  some (x4))
noncomputable def lB (N:Nat) (G:(Nat×Nat×Int×Int×Int×(List (Int×((List Int)×Unit))))→Option ((List (Int×((List Int)×Unit))))):Nat→qj→Option pV
 | 0,_=>none
 | k+1,x=>zU N G (lB N G k) x
noncomputable def fc (N:Nat) (G:(Nat×Nat×Int×Int×Int×(List (Int×((List Int)×Unit))))→Option ((List (Int×((List Int)×Unit))))) (k:Nat):Cut:=yZ.cut (lB N G k)
theorem dw (N:Nat) (G:(Nat×Nat×Int×Int×Int×(List (Int×((List Int)×Unit))))→Option ((List (Int×((List Int)×Unit))))) (hG:av Tryz.prog 392 (ah s392 w392 G)) (k:Nat):ak Tryz.prog false Tryz.f392 [0] 1722 (fc N G k) :=
 yZ.loopT ag am (cu N G hG) Tryz.f392 [0] (cuts:=[(172,dx N G N),(698,ey N G N),(428,fL N G N)]) ⟨bV N G hG N,cr N G hG N,c8 N G hG N,trivial⟩ (by decide +kernel) (by kernel_rfl) (zU N G) (lB N G) (fun _=>rfl) (fun _ _=>rfl) (fun f x=>by kernel_rfl) k
@[reducible] def za:LD:=⟨1020,[20,3,18,1,2,19,21,4,22,0],[(.exit 8,[19,2,1,20,0,18,3,4])],⟨[.int .i64,.int .i64,.int .i64,.int .i64,.int .i64,.int .i64,.int .i64,.fn 385,.int .i64,.slp 0 .h .h],[.row y5 391]⟩,[(.exit 8,⟨[.int .i64,.int .i64,.int .i64,.int .i64,.slp 0 .h .h,.int .i64,.int .i64,.fn 385],[.row y5 391]⟩)]⟩
abbrev qk:Type:=Int×Int×Int×Int×Int×Int×Int×Int×Nat×Nat×(List (Int×((List Int)×Unit)))
abbrev pW:Type:=Int×Int×Int×Int×Nat×Nat×Int×Int×(List (Int×((List Int)×Unit)))
noncomputable def zV (N:Nat) (G:(Nat×Nat×Int×Int×Int×(List (Int×((List Int)×Unit))))→Option ((List (Int×((List Int)×Unit))))) (f:qk→Option pW):qk→Option pW
 | (x0,x1,x2,x3,x4,x5,x6,x7,x8,x9,x10) =>
 ac (decide (x0<x6)) (
  ac (within (IntKind.wrap IntKind.i64 (x7-IntKind.wrap IntKind.i64 (Int.fdiv (IntKind.wrap IntKind.u64 (IntKind.wrap IntKind.i64 (x0+x6))) (2:Int)))) x9) (
   Option.bind (x10[x8+Int.toNat (IntKind.wrap IntKind.i64 (x7-IntKind.wrap IntKind.i64 (Int.fdiv (IntKind.wrap IntKind.u64 (IntKind.wrap IntKind.i64 (x0+x6))) (2:Int))))]?) fun y0 =>
   ac (within (IntKind.wrap IntKind.i64 (Int.fdiv (IntKind.wrap IntKind.u64 (IntKind.wrap IntKind.i64 (x0+x6))) (2:Int))) x9) (
    Option.bind (x10[x8+Int.toNat (IntKind.wrap IntKind.i64 (Int.fdiv (IntKind.wrap IntKind.u64 (IntKind.wrap IntKind.i64 (x0+x6))) (2:Int)))]?) fun y1 =>
    Option.bind (Qs N (y0.1,y0.2.1,y1.1,y1.2.1)) fun y2 =>
    ac (!decide (y2<(0:Int))) (
     Option.bind (f (IntKind.wrap IntKind.i64 (IntKind.wrap IntKind.i64 (Int.fdiv (IntKind.wrap IntKind.u64 (IntKind.wrap IntKind.i64 (x0+x6))) (2:Int))+(1:Int)),x1,x2,x3,x4,x5,x6,x7,x8,x9,x10)) fun r=>some r) (
     Option.bind (f (x0,x1,x2,x3,x4,x5,IntKind.wrap IntKind.i64 (Int.fdiv (IntKind.wrap IntKind.u64 (IntKind.wrap IntKind.i64 (x0+x6))) (2:Int)),x7,x8,x9,x10)) fun r=>some r)) (
    none )) (
   none )) (
  some ((x5,x4,x3,x0,x8,x9,x2,x1,x10)))
noncomputable def lC (N:Nat) (G:(Nat×Nat×Int×Int×Int×(List (Int×((List Int)×Unit))))→Option ((List (Int×((List Int)×Unit))))):Nat→qk→Option pW
 | 0,_=>none
 | k+1,x=>zV N G (lC N G k) x
noncomputable def ir (N:Nat) (G:(Nat×Nat×Int×Int×Int×(List (Int×((List Int)×Unit))))→Option ((List (Int×((List Int)×Unit))))) (k:Nat):Cut:=za.cut (lC N G k)
theorem eU (N:Nat) (G:(Nat×Nat×Int×Int×Int×(List (Int×((List Int)×Unit))))→Option ((List (Int×((List Int)×Unit))))) (hG:av Tryz.prog 392 (ah s392 w392 G)) (k:Nat):ak Tryz.prog false Tryz.f392 [0] 1020 (ir N G k) :=
 za.loopT ag am (cu N G hG) Tryz.f392 [0] (cuts:=[(172,dx N G N),(698,ey N G N),(428,fL N G N),(1722,fc N G N)]) ⟨bV N G hG N,cr N G hG N,c8 N G hG N,dw N G hG N,trivial⟩ (by decide +kernel) (by kernel_rfl) (zV N G) (lC N G) (fun _=>rfl) (fun _ _=>rfl) (fun f x=>by kernel_rfl) k
@[reducible] def yX:LD:=⟨4095,[0,18,24,3,4],[(.normal,[])],⟨[.slp 0 .h .h,.int .i64,.int .i64,.int .i64,.fn 385],[.row y5 391]⟩,[(.normal,⟨[],[.row y5 391]⟩)]⟩
noncomputable def ik (N:Nat) (G:(Nat×Nat×Int×Int×Int×(List (Int×((List Int)×Unit))))→Option ((List (Int×((List Int)×Unit))))):(Nat×Nat×Int×Int×Int×(List (Int×((List Int)×Unit))))→Option ((List (Int×((List Int)×Unit))))
 | (x0,x1,x2,x3,x4,x5) =>
 ac (decide (x2<x3)) (
  ac (decide (x3<x4)) (
   Option.bind (G (x0,x1,x2,x3,x4,x5)) fun y0 =>
   some (y0)) (
   some (x5))) (
  some (x5))
noncomputable def lO (N:Nat) (G:(Nat×Nat×Int×Int×Int×(List (Int×((List Int)×Unit))))→Option ((List (Int×((List Int)×Unit))))) (_:Nat):Cut:=yX.cut (ik N G)
theorem jl (N:Nat) (G:(Nat×Nat×Int×Int×Int×(List (Int×((List Int)×Unit))))→Option ((List (Int×((List Int)×Unit))))) (hG:av Tryz.prog 392 (ah s392 w392 G)) (k:Nat):ak Tryz.prog false Tryz.f392 [0] 4095 (lO N G k) :=
 yX.pieceT ag am (cu N G hG) Tryz.f392 [0] (cuts:=[(172,dx N G N),(698,ey N G N),(428,fL N G N),(1722,fc N G N),(1020,ir N G N)]) ⟨bV N G hG N,cr N G hG N,c8 N G hG N,dw N G hG N,eU N G hG N,trivial⟩ (by decide +kernel) (by kernel_rfl) (ik N G) (fun x=>by kernel_rfl)
@[reducible] def yY:LD:=⟨2047,[1,20,0,18,24,3,4],[(.normal,[])],⟨[.int .i64,.int .i64,.slp 0 .h .h,.int .i64,.int .i64,.int .i64,.fn 385],[.row y5 391]⟩,[(.normal,⟨[],[.row y5 391]⟩)]⟩
noncomputable def il (N:Nat) (G:(Nat×Nat×Int×Int×Int×(List (Int×((List Int)×Unit))))→Option ((List (Int×((List Int)×Unit))))):(Int×Int×Nat×Nat×Int×Int×Int×(List (Int×((List Int)×Unit))))→Option ((List (Int×((List Int)×Unit))))
 | (x0,x1,x2,x3,x4,x5,x6,x7) =>
 ac (decide (x0<x1)) (
  ac (decide (x1<x4)) (
   Option.bind (G (x2,x3,x0,x1,x4,x7)) fun y0 =>
   Option.bind (ik N G (x2,x3,x4,x5,x6,y0)) fun y1 =>
   some (y1)) (
   Option.bind (ik N G (x2,x3,x4,x5,x6,x7)) fun y2 =>
   some (y2))) (
  Option.bind (ik N G (x2,x3,x4,x5,x6,x7)) fun y3 =>
  some (y3))
noncomputable def qG (N:Nat) (G:(Nat×Nat×Int×Int×Int×(List (Int×((List Int)×Unit))))→Option ((List (Int×((List Int)×Unit))))) (_:Nat):Cut:=yY.cut (il N G)
theorem oO (N:Nat) (G:(Nat×Nat×Int×Int×Int×(List (Int×((List Int)×Unit))))→Option ((List (Int×((List Int)×Unit))))) (hG:av Tryz.prog 392 (ah s392 w392 G)) (k:Nat):ak Tryz.prog false Tryz.f392 [0] 2047 (qG N G k) :=
 yY.pieceT ag am (cu N G hG) Tryz.f392 [0] (cuts:=[(172,dx N G N),(698,ey N G N),(428,fL N G N),(1722,fc N G N),(1020,ir N G N),(4095,lO N G N)]) ⟨bV N G hG N,cr N G hG N,c8 N G hG N,dw N G hG N,eU N G hG N,jl N G hG N,trivial⟩ (by decide +kernel) (by kernel_rfl) (il N G) (fun x=>by kernel_rfl)
@[reducible] def Fc:LD:=⟨127,[20,3,18,1,2,19,21,4,0],[(.normal,[])],⟨[.int .i64,.int .i64,.int .i64,.int .i64,.int .i64,.int .i64,.int .i64,.fn 385,.slp 0 .h .h],[.row y5 391]⟩,[(.normal,⟨[],[.row y5 391]⟩)]⟩
noncomputable def ot (N:Nat) (G:(Nat×Nat×Int×Int×Int×(List (Int×((List Int)×Unit))))→Option ((List (Int×((List Int)×Unit))))):(Int×Int×Int×Int×Int×Int×Int×Nat×Nat×(List (Int×((List Int)×Unit))))→Option ((List (Int×((List Int)×Unit))))
 | (x0,x1,x2,x3,x4,x5,x6,x7,x8,x9) =>
 Option.bind (lC N G N (x0,x1,x2,x3,x4,x5,x6,IntKind.wrap IntKind.i64 (x5-(1:Int)),x7,x8,x9)) fun(y0_0,y0_1,y0_2,y0_3,y0_4,y0_5,y0_6,y0_7,y0_8) =>
 ac (decide (y0_3<y0_1)) (
  ac (decide (y0_1<IntKind.wrap IntKind.i64 (y0_0-y0_3))) (
   Option.bind (ax5 N (y0_4,y0_5,y0_3,y0_1,IntKind.wrap IntKind.i64 (y0_0-y0_3),y0_8)) fun y1 =>
   Option.bind (il N G (y0_2,y0_3,y0_4,y0_5,y0_6,IntKind.wrap IntKind.i64 (y0_0-y0_3),y0_7,y1)) fun y2 =>
   some (y2)) (
   Option.bind (il N G (y0_2,y0_3,y0_4,y0_5,y0_6,IntKind.wrap IntKind.i64 (y0_0-y0_3),y0_7,y0_8)) fun y3 =>
   some (y3))) (
  Option.bind (il N G (y0_2,y0_3,y0_4,y0_5,y0_6,IntKind.wrap IntKind.i64 (y0_0-y0_3),y0_7,y0_8)) fun y4 =>
  some (y4))
noncomputable def Gt (N:Nat) (G:(Nat×Nat×Int×Int×Int×(List (Int×((List Int)×Unit))))→Option ((List (Int×((List Int)×Unit))))) (_:Nat):Cut:=Fc.cut (ot N G)
theorem Gs (N:Nat) (G:(Nat×Nat×Int×Int×Int×(List (Int×((List Int)×Unit))))→Option ((List (Int×((List Int)×Unit))))) (hG:av Tryz.prog 392 (ah s392 w392 G)) (k:Nat):ak Tryz.prog false Tryz.f392 [0] 127 (Gt N G k) :=
 Fc.pieceT ag am (cu N G hG) Tryz.f392 [0] (cuts:=[(172,dx N G N),(698,ey N G N),(428,fL N G N),(1722,fc N G N),(1020,ir N G N),(4095,lO N G N),(2047,qG N G N)]) ⟨bV N G hG N,cr N G hG N,c8 N G hG N,dw N G hG N,eU N G hG N,jl N G hG N,oO N G hG N,trivial⟩ (by decide +kernel) (by kernel_rfl) (ot N G) (fun x=>by kernel_rfl)
noncomputable def aW9 (N:Nat) (G:(Nat×Nat×Int×Int×Int×(List (Int×((List Int)×Unit))))→Option ((List (Int×((List Int)×Unit))))):(Nat×Nat×Int×Int×Int×(List (Int×((List Int)×Unit))))→Option ((List (Int×((List Int)×Unit))))
 | (x0,x1,x2,x3,x4,x5) =>
 ac (IntKind.wrap IntKind.i64 (x3-x2)==(1:Int)) (
  Option.bind (oq N G N (x3,x4,x0,x1,x2,x5)) fun y0 =>
  Option.bind (om N G N (y0.1,y0.2.1,y0.2.2.1,y0.2.2.2.1,y0.2.2.2.2)) fun y1 =>
  some (y1)) (
  ac (IntKind.wrap IntKind.i64 (x4-x3)==(1:Int)) (
   Option.bind (oo N G N (x2,x3,x3,x0,x1,x5)) fun y2 =>
   Option.bind (lB N G N (y2.1,y2.2.1,y2.2.2.1,y2.2.2.2.1,y2.2.2.2.2)) fun y3 =>
   some (y3)) (
   ac (decide (x3>IntKind.wrap IntKind.i64 (Int.fdiv (IntKind.wrap IntKind.u64 (IntKind.wrap IntKind.i64 (x2+x4))) (2:Int)))) (
    Option.bind (ot N G (IntKind.wrap IntKind.i64 (IntKind.wrap IntKind.i64 (IntKind.wrap IntKind.i64 (Int.fdiv (IntKind.wrap IntKind.u64 (IntKind.wrap IntKind.i64 (x2+x4))) (2:Int))+x3)-x4),x4,IntKind.wrap IntKind.i64 (Int.fdiv (IntKind.wrap IntKind.u64 (IntKind.wrap IntKind.i64 (x2+x4))) (2:Int)),x2,x3,IntKind.wrap IntKind.i64 (IntKind.wrap IntKind.i64 (Int.fdiv (IntKind.wrap IntKind.u64 (IntKind.wrap IntKind.i64 (x2+x4))) (2:Int))+x3),IntKind.wrap IntKind.i64 (Int.fdiv (IntKind.wrap IntKind.u64 (IntKind.wrap IntKind.i64 (x2+x4))) (2:Int)),x0,x1,x5)) fun y4 =>
    some (y4)) (
    Option.bind (ot N G (x2,x4,IntKind.wrap IntKind.i64 (Int.fdiv (IntKind.wrap IntKind.u64 (IntKind.wrap IntKind.i64 (x2+x4))) (2:Int)),x2,x3,IntKind.wrap IntKind.i64 (IntKind.wrap IntKind.i64 (Int.fdiv (IntKind.wrap IntKind.u64 (IntKind.wrap IntKind.i64 (x2+x4))) (2:Int))+x3),x3,x0,x1,x5)) fun y5 =>
    some (y5))))
noncomputable def cK (N:Nat):Nat→(Nat×Nat×Int×Int×Int×(List (Int×((List Int)×Unit))))→Option ((List (Int×((List Int)×Unit))))
 | 0,_=>none
 | k+1,x=>aW9 N (cK N k) x
noncomputable def ax6 (N:Nat):(Nat×Nat×Int×Int×Int×(List (Int×((List Int)×Unit))))→Option ((List (Int×((List Int)×Unit)))):=cK N N
noncomputable def aM2 (N:Nat):Pk→Tr Pk:=ah s392 w392 (ax6 N)
theorem cH (N:Nat):∀k,av Tryz.prog 392 (ah s392 w392 (cK N k))
 | 0=>NW fun _=>rfl
 | k+1=>af ag am (cu N (cK N k) (cH N k)) Tryz.func392 s392 w392 [0] (cuts:=[(172,dx N (cK N k) N),(698,ey N (cK N k) N),(428,fL N (cK N k) N),(1722,fc N (cK N k) N),(1020,ir N (cK N k) N),(4095,lO N (cK N k) N),(2047,qG N (cK N k) N),(127,Gt N (cK N k) N)]) ⟨bV N (cK N k) (cH N k) N,cr N (cK N k) (cH N k) N,c8 N (cK N k) (cH N k) N,dw N (cK N k) (cH N k) N,eU N (cK N k) (cH N k) N,jl N (cK N k) (cH N k) N,oO N (cK N k) (cH N k) N,Gs N (cK N k) (cH N k) N,trivial⟩ (fun _=>by kernel_rfl) (by decide +kernel) (cK N (k+1)) (fun x=>by kernel_rfl)
theorem Wo (N:Nat):av Tryz.prog (392) (aM2 N) :=
 (cH N N)
@[reducible] def s389:SP:=⟨[.slp 0 .h .h,.int .i64,.fn 385],[.row y5 391]⟩
noncomputable def ZH (N:Nat):List (Nat×(Pk→Tr Pk)):=[(391,aM3 N),(392,aM2 N)]
theorem kY (N:Nat):ai Tryz.prog (ZH N):=⟨Wp N,Wo N,trivial⟩
@[reducible] def LK:LD:=⟨28,[7,8,1,0,2,6],[(.exit 0,[7,1,0,2,6])],⟨[.int .i64,.int .i64,.int .i64,.slp 0 .h .h,.fn 385,.int .i64],[.row y5 391]⟩,[(.exit 0,⟨[.int .i64,.int .i64,.slp 0 .h .h,.fn 385,.int .i64],[.row y5 391]⟩)]⟩
abbrev CB:Type:=Int×Int×Int×Nat×Nat×Int×(List (Int×((List Int)×Unit)))
abbrev BI:Type:=Int×Int×Nat×Nat×Int×(List (Int×((List Int)×Unit)))
noncomputable def Nt (N:Nat) (f:CB→Option BI):CB→Option BI
 | (x0,x1,x2,x3,x4,x5,x6) =>
 ac (decide (x1≤x2)) (
  Option.bind (Yl N (x3,x4,x0,x1,x6)) fun y0 =>
  Option.bind (f (x1,IntKind.wrap IntKind.i64 (x1+x5),x2,x3,x4,x5,y0)) fun r=>some r) (
  some ((x0,x2,x3,x4,x5,x6)))
noncomputable def ss (N:Nat):Nat→CB→Option BI
 | 0,_=>none
 | k+1,x=>Nt N (ss N k) x
noncomputable def sR (N:Nat) (k:Nat):Cut:=LK.cut (ss N k)
theorem nf (N:Nat) (k:Nat):ak Tryz.prog false Tryz.f389 [0] 28 (sR N k) :=
 LK.loopT ag am (kY N) Tryz.f389 [0] (cuts:=[]) trivial (by decide +kernel) (by kernel_rfl) (Nt N) (ss N) (fun _=>rfl) (fun _ _=>rfl) (fun f x=>by kernel_rfl) k
@[reducible] def zb:LD:=⟨3988,[7,8,1,0,2,6],[(.exit 4,[7,6,1,0,2]),(.exit 3,[1,0,2,6])],⟨[.int .i64,.int .i64,.int .i64,.slp 0 .h .h,.fn 385,.int .i64],[.row y5 391]⟩,[(.exit 4,⟨[.int .i64,.int .i64,.int .i64,.slp 0 .h .h,.fn 385],[.row y5 391]⟩)]⟩
abbrev ql:Type:=Int×Int×Int×Nat×Nat×Int×(List (Int×((List Int)×Unit)))
abbrev pX:Type:=Int×Int×Int×Nat×Nat×(List (Int×((List Int)×Unit)))
noncomputable def zW (N:Nat) (f:ql→Option pX):ql→Option pX
 | (x0,x1,x2,x3,x4,x5,x6) =>
 ac (decide (x1≤x2)) (
  Option.bind (ax6 N (x3,x4,x0,IntKind.wrap IntKind.i64 (x0+x5),x1,x6)) fun y0 =>
  Option.bind (f (x1,IntKind.wrap IntKind.i64 (x1+IntKind.wrap IntKind.i64 ((2:Int)*x5)),x2,x3,x4,x5,y0)) fun r=>some r) (
  some ((x0,x5,x2,x3,x4,x6)))
noncomputable def lD (N:Nat):Nat→ql→Option pX
 | 0,_=>none
 | k+1,x=>zW N (lD N k) x
noncomputable def qH (N:Nat) (k:Nat):Cut:=zb.cut (lD N k)
theorem oP (N:Nat) (k:Nat):ak Tryz.prog false Tryz.f389 [0] 3988 (qH N k) :=
 zb.loopT ag am (kY N) Tryz.f389 [0] (cuts:=[(28,sR N N)]) ⟨nf N N,trivial⟩ (by decide +kernel) (by kernel_rfl) (zW N) (lD N) (fun _=>rfl) (fun _ _=>rfl) (fun f x=>by kernel_rfl) k
@[reducible] def LJ:LD:=⟨62,[1,0,2,6],[(.exit 2,[])],⟨[.int .i64,.slp 0 .h .h,.fn 385,.int .i64],[.row y5 391]⟩,[(.exit 2,⟨[],[.row y5 391]⟩)]⟩
abbrev Cz:Type:=Int×Nat×Nat×Int×(List (Int×((List Int)×Unit)))
abbrev BH:Type:=(List (Int×((List Int)×Unit)))
noncomputable def Ns (N:Nat) (f:Cz→Option BH):Cz→Option BH
 | (x0,x1,x2,x3,x4) =>
 ac (decide (x3<x0)) (
  Option.bind (lD N N ((0:Int),IntKind.wrap IntKind.i64 ((2:Int)*x3),x0,x1,x2,x3,x4)) fun(y0_0,y0_1,y0_2,y0_3,y0_4,y0_5) =>
  ac (decide (IntKind.wrap IntKind.i64 (y0_0+y0_1)<y0_2)) (
   Option.bind (ax6 N (y0_3,y0_4,y0_0,IntKind.wrap IntKind.i64 (y0_0+y0_1),y0_2,y0_5)) fun y1 =>
   Option.bind (f (y0_2,y0_3,y0_4,IntKind.wrap IntKind.i64 (y0_1*(2:Int)),y1)) fun r=>some r) (
   Option.bind (f (y0_2,y0_3,y0_4,IntKind.wrap IntKind.i64 (y0_1*(2:Int)),y0_5)) fun r=>some r)) (
  some (x4))
noncomputable def sr (N:Nat):Nat→Cz→Option BH
 | 0,_=>none
 | k+1,x=>Ns N (sr N k) x
noncomputable def ML (N:Nat) (k:Nat):Cut:=LJ.cut (sr N k)
theorem JF (N:Nat) (k:Nat):ak Tryz.prog false Tryz.f389 [0] 62 (ML N k) :=
 LJ.loopT ag am (kY N) Tryz.f389 [0] (cuts:=[(28,sR N N),(3988,qH N N)]) ⟨nf N N,oP N N,trivial⟩ (by decide +kernel) (by kernel_rfl) (Ns N) (sr N) (fun _=>rfl) (fun _ _=>rfl) (fun f x=>by kernel_rfl) k
@[reducible] def w389:List SP:=[⟨[.tup []],[.row y5 391]⟩]
noncomputable def ax7 (N:Nat):(Nat×Nat×Int×(List (Int×((List Int)×Unit))))→Option ((List (Int×((List Int)×Unit))))
 | (x0,x1,x2,x3) =>
 Option.bind (ss N N ((0:Int),(20:Int),x2,x0,x1,(20:Int),x3)) fun(y0_0,y0_1,y0_2,y0_3,y0_4,y0_5) =>
 Option.bind (Yl N (y0_2,y0_3,y0_0,y0_1,y0_5)) fun y1 =>
 Option.bind (sr N N (y0_1,y0_2,y0_3,y0_4,y1)) fun y2 =>
 some (y2)
noncomputable def aM5 (N:Nat):Pk→Tr Pk:=ah s389 w389 (ax7 N)
theorem Wr (N:Nat):av Tryz.prog (389) (aM5 N) :=
 (af ag am (kY N) Tryz.func389 s389 w389 [0] (cuts:=[(28,sR N N),(3988,qH N N),(62,ML N N)]) ⟨nf N N,oP N N,JF N N,trivial⟩ (fun _=>by kernel_rfl) (by decide +kernel) (ax7 N) (fun x=>by kernel_rfl))
@[reducible] def s384:SP:=⟨[.slp 0 .h .h,.fn 385],[.row y5 391]⟩
noncomputable def ZM (N:Nat):List (Nat×(Pk→Tr Pk)):=[(389,aM5 N)]
theorem N4 (N:Nat):ai Tryz.prog (ZM N):=⟨Wr N,trivial⟩
@[reducible] def w384:List SP:=[⟨[.tup []],[.row y5 391]⟩]
noncomputable def ay0 (N:Nat):(Nat×Nat×(List (Int×((List Int)×Unit))))→Option ((List (Int×((List Int)×Unit))))
 | (x0,x1,x2) =>
 Option.bind (ax7 N (x0,x1,(↑x1:Int),x2)) fun y0 =>
 some (y0)
noncomputable def aM9 (N:Nat):Pk→Tr Pk:=ah s384 w384 (ay0 N)
theorem Wv (N:Nat):av Tryz.prog (384) (aM9 N) :=
 (af ag am (N4 N) Tryz.func384 s384 w384 [0] (cuts:=[]) trivial (fun _=>by kernel_rfl) (by decide +kernel) (ay0 N) (fun x=>by kernel_rfl))
@[reducible] def s376:SP:=⟨[.ro y5,.ro y5],[]⟩
noncomputable def ZU (N:Nat):List (Nat×(Pk→Tr Pk)):=[(383,aN0 N),(384,aM9 N)]
theorem N7 (N:Nat):ai Tryz.prog (ZU N):=⟨Ww N,Wv N,trivial⟩
@[reducible] def w376:List SP:=[⟨[.sl 0],[.row y5 391]⟩]
noncomputable def Yq (N:Nat):((List (Int×((List Int)×Unit)))×(List (Int×((List Int)×Unit))))→Option ((List (Int×((List Int)×Unit))))
 | (x0,x1) =>
 Option.bind (ay1 N [x0,x1]) fun y0 =>
 Option.bind (ay0 N ((0:Nat),List.length y0,y0)) fun y1 =>
 some (y1)
noncomputable def au0 (N:Nat):Pk→Tr Pk:=tL SR (ah s376 w376 (Yq N))
theorem K8 (N:Nat):av Tryz.prog (376) (au0 N) :=
 jV AT (af ag am (N7 N) Tryz.func376 s376 w376 [] (cuts:=[]) trivial (fun _=>by kernel_rfl) (by decide +kernel) (Yq N) (fun x=>by kernel_rfl)) (by decide +kernel)
@[reducible] def s375:SP:=⟨[.ro (.int .i64)],[]⟩
noncomputable def ZV (N:Nat):List (Nat×(Pk→Tr Pk)):=[(376,au0 N)]
theorem xy (N:Nat):ai Tryz.prog (ZV N):=⟨K8 N,trivial⟩
@[reducible] def LR:LD:=⟨58,[8,7,9,4],[(.ret,[2,3]),(.exit 0,[4])],⟨[.int .i64,.ro (.int .i64),.int .i64,.sl 0],[.row y5 391]⟩,[(.ret,⟨[.sl 0,.int .i64],[.row y5 391]⟩),(.exit 0,⟨[.sl 0],[.row y5 391]⟩)]⟩
abbrev CJ:Type:=Int×(List Int)×Int×(List (Int×((List Int)×Unit)))
abbrev BP:Type:=((Int×(List (Int×((List Int)×Unit))))⊕((List (Int×((List Int)×Unit)))))
noncomputable def Nz (N:Nat) (f:CJ→Option BP):CJ→Option BP
 | (x0,x1,x2,x3) =>
 ac (decide (x2<x0)) (
  ac (within x2 (List.length x1)) (
   Option.bind (x1[Int.toNat x2]?) fun y0 =>
   ac (decide (y0<(0:Int))) (
    some (.inl (((1:Int),[])))) (
    ac (decide (y0>(1073741824:Int))) (
     some (.inl (((1:Int),[])))) (
     ac (decide (y0>(0:Int))) (
      ac (decide ((List.length x3+List.length [(y0,[x2],())])*(32:Nat)≤(140737488355328:Nat)∧List.length x3+List.length [(y0,[x2],())]≤(140737488355328:Nat))) (
       Option.bind (f (x0,x1,IntKind.wrap IntKind.i64 (x2+(1:Int)),x3++[(y0,[x2],())])) fun r=>match r with|.inl y=>some (.inl y)|.inr y=>some (.inr y)) (
       none )) (
      Option.bind (f (x0,x1,IntKind.wrap IntKind.i64 (x2+(1:Int)),x3)) fun r=>match r with|.inl y=>some (.inl y)|.inr y=>some (.inr y))))) (
   none )) (
  some (.inr (x3)))
noncomputable def sB (N:Nat):Nat→CJ→Option BP
 | 0,_=>none
 | k+1,x=>Nz N (sB N k) x
noncomputable def MR (N:Nat) (k:Nat):Cut:=LR.cut (sB N k)
theorem JL (N:Nat) (k:Nat):ak Tryz.prog false Tryz.f375 [] 58 (MR N k) :=
 LR.loopT ag am (xy N) Tryz.f375 [] (cuts:=[]) trivial (by decide +kernel) (by kernel_rfl) (Nz N) (sB N) (fun _=>rfl) (fun _ _=>rfl) (fun f x=>by kernel_rfl) k
@[reducible] def w375:List SP:=[⟨[.tup [.sl 0,.int .i64]],[.row y5 391]⟩,⟨[.tup [.ro y5,.int .i64]],[]⟩]
noncomputable def ay6 (N:Nat):((List Int))→Option (((Int×(List (Int×((List Int)×Unit))))⊕((List (Int×((List Int)×Unit)))×Int)))
 | x0 =>
 Option.bind (sB N N ((↑(List.length x0):Int),x0,(0:Int),[])) fun y0 =>
 match y0 with
 | .inl y1 =>
  some (.inl ((y1.1,y1.2)))
 | .inr y1 =>
  Option.bind (Yq N (y1,[])) fun y2 =>
  some (.inr ((y2,(0:Int))))
noncomputable def aN5 (N:Nat):Pk→Tr Pk:=tL SR (ah s375 w375 (ay6 N))
theorem WB (N:Nat):av Tryz.prog (375) (aN5 N) :=
 jV AT (af ag am (xy N) Tryz.func375 s375 w375 [] (cuts:=[(58,MR N N)]) ⟨JL N N,trivial⟩ (fun _=>by kernel_rfl) (by decide +kernel) (ay6 N) (fun x=>by kernel_rfl)) (by decide +kernel)
@[reducible] def s379:SP:=⟨[.nilsl,.int .i64],[]⟩
noncomputable def ZR (N:Nat):List (Nat×(Pk→Tr Pk)):=[]
theorem N6 (N:Nat):ai Tryz.prog (ZR N):=trivial
@[reducible] def w379:List SP:=[⟨[.slp 0 (.c 0) (.c 0)],[.row (.int .i64) 3]⟩,⟨[.sl 0],[.row (.int .i64) 3]⟩]
noncomputable def ay3 (N:Nat):(Int)→Option ((((List Int))⊕((List Int))))
 | x0 =>
 ac (decide (x0<(0:Int))) (
  none ) (
  ac (decide (IntKind.wrap IntKind.i64 (x0-(0:Int))>(0:Int))) (
   ac (decide ((0:Int)<IntKind.wrap IntKind.i64 (x0-(0:Int))∧IntKind.wrap IntKind.i64 (x0-(0:Int))*(8:Int)≤(140737488355328:Int)∧IntKind.wrap IntKind.i64 (x0-(0:Int))≤(140737488355328:Int))) (
    ac (decide ((0:Int)≤(0:Int)∧(0:Int)≤(↑(List.length (List.replicate (Int.toNat (IntKind.wrap IntKind.i64 (x0-(0:Int)))) (0:Int))):Int))) (
     some (.inl (List.replicate (Int.toNat (IntKind.wrap IntKind.i64 (x0-(0:Int)))) (0:Int)))) (
     none )) (
    none )) (
   some (.inr ([]))))
noncomputable def aN2 (N:Nat):Pk→Tr Pk:=tL (Kk (Ty.int IntKind.i64) 3) (ah s379 w379 (ay3 N))
theorem Wy (N:Nat):av Tryz.prog (379) (aN2 N) :=
 jV (DT _ _) (af ag am (N6 N) Tryz.func379 s379 w379 [] (cuts:=[]) trivial (fun _=>by kernel_rfl) (by decide +kernel) (ay3 N) (fun x=>by kernel_rfl)) (by decide +kernel)
@[reducible] def s361:SP:=⟨[.ro (.sl (.int .i64))],[]⟩
noncomputable def Z8 (N:Nat):List (Nat×(Pk→Tr Pk)):=[(379,aN2 N)]
theorem o8 (N:Nat):ai Tryz.prog (Z8 N):=⟨Wy N,trivial⟩
@[reducible] def LX:LD:=⟨58,[3,11,10,0,9],[(.ret,[2]),(.exit 0,[3,0])],⟨[.int .i64,.int .i64,.int .i64,.ro (.sl (.int .i64)),.ro (.sl (.int .i64))],[]⟩,[(.exit 0,⟨[.int .i64,.ro (.sl (.int .i64))],[]⟩)]⟩
abbrev CO:Type:=Int×Int×Int×(List (List Int))×(List (List Int))
abbrev BV:Type:=Int×(List (List Int))
noncomputable def NE (N:Nat) (f:CO→Option BV):CO→Option BV
 | (x0,x1,x2,x3,x4) =>
 ac (decide (x1<x2)) (
  ac (within x1 (List.length x4)) (
   Option.bind (x4[Int.toNat x1]?) fun y0 =>
   ac (decide (IntKind.wrap IntKind.i64 (x0+(↑(List.length y0):Int))<(0:Int))) (
    none ) (
    Option.bind (f (IntKind.wrap IntKind.i64 (x0+(↑(List.length y0):Int)),IntKind.wrap IntKind.i64 (x1+(1:Int)),x2,x3,x4)) fun r=>some r)) (
   none )) (
  some ((x0,x3)))
noncomputable def sG (N:Nat):Nat→CO→Option BV
 | 0,_=>none
 | k+1,x=>NE N (sG N k) x
noncomputable def Dz (N:Nat) (k:Nat):Cut:=LX.cut (sG N k)
theorem wJ (N:Nat) (k:Nat):ak Tryz.prog false Tryz.f361 [] 58 (Dz N k) :=
 LX.loopT ag am (o8 N) Tryz.f361 [] (cuts:=[]) trivial (by decide +kernel) (by kernel_rfl) (NE N) (sG N) (fun _=>rfl) (fun _ _=>rfl) (fun f x=>by kernel_rfl) k
@[reducible] def Fp:LD:=⟨250,[6,27,26,25],[(.ret,[2]),(.exit 2,[6])],⟨[.sl 0,.int .i64,.int .i64,.ro (.sl (.int .i64))],[.row (.int .i64) 3]⟩,[(.exit 2,⟨[.sl 0],[.row (.int .i64) 3]⟩)]⟩
abbrev vE:Type:=Int×Int×(List (List Int))×(List Int)
abbrev uP:Type:=(List Int)
noncomputable def Hr (N:Nat) (f:vE→Option uP):vE→Option uP
 | (x0,x1,x2,x3) =>
 ac (decide (x0<x1)) (
  ac (within x0 (List.length x2)) (
   Option.bind (x2[Int.toNat x0]?) fun y0 =>
   ac (decide ((List.length x3+List.length y0)*(8:Nat)≤(140737488355328:Nat)∧List.length x3+List.length y0≤(140737488355328:Nat))) (
    Option.bind (f (IntKind.wrap IntKind.i64 (x0+(1:Int)),x1,x2,x3++y0)) fun r=>some r) (
    none )) (
   none )) (
  some (x3))
noncomputable def kD (N:Nat):Nat→vE→Option uP
 | 0,_=>none
 | k+1,x=>Hr N (kD N k) x
noncomputable def GI (N:Nat) (k:Nat):Cut:=Fp.cut (kD N k)
theorem GH (N:Nat) (k:Nat):ak Tryz.prog false Tryz.f361 [] 250 (GI N k) :=
 Fp.loopT ag am (o8 N) Tryz.f361 [] (cuts:=[(58,Dz N N)]) ⟨wJ N N,trivial⟩ (by decide +kernel) (by kernel_rfl) (Hr N) (kD N) (fun _=>rfl) (fun _ _=>rfl) (fun f x=>by kernel_rfl) k
@[reducible] def w361:List SP:=[⟨[.sl 0],[.row (.int .i64) 3]⟩]
noncomputable def Yw (N:Nat):((List (List Int)))→Option ((List Int))
 | x0 =>
 Option.bind (sG N N ((0:Int),(0:Int),(↑(List.length x0):Int),x0,x0)) fun y0 =>
 Option.bind (ay3 N y0.1) fun y1 =>
 match y1 with
 | .inl y2 =>
  Option.bind (kD N N ((0:Int),(↑(List.length y0.2):Int),y0.2,[])) fun y3 =>
  some (y3)
 | .inr y2 =>
  Option.bind (kD N N ((0:Int),(↑(List.length y0.2):Int),y0.2,y2)) fun y4 =>
  some (y4)
noncomputable def au8 (N:Nat):Pk→Tr Pk:=ah s361 w361 (Yw N)
theorem Lh (N:Nat):av Tryz.prog (361) (au8 N) :=
 (af ag am (o8 N) Tryz.func361 s361 w361 [] (cuts:=[(58,Dz N N),(250,GI N N)]) ⟨wJ N N,GH N N,trivial⟩ (fun _=>by kernel_rfl) (by decide +kernel) (Yw N) (fun x=>by kernel_rfl))
@[reducible] def s377:SP:=⟨[.ro y5],[]⟩
noncomputable def ZT (N:Nat):List (Nat×(Pk→Tr Pk)):=[(361,au8 N)]
theorem xx (N:Nat):ai Tryz.prog (ZT N):=⟨Lh N,trivial⟩
@[reducible] def LQ:LD:=⟨58,[3,4,0],[(.ret,[2]),(.exit 0,[3])],⟨[.sl 0,.int .i64,.ro y5],[.row y5 391]⟩,[(.exit 0,⟨[.sl 0],[.row y5 391]⟩)]⟩
abbrev CI:Type:=Int×(List (Int×((List Int)×Unit)))×(List (Int×((List Int)×Unit)))
abbrev BO:Type:=(List (Int×((List Int)×Unit)))
noncomputable def Ny (N:Nat) (f:CI→Option BO):CI→Option BO
 | (x0,x1,x2) =>
 ac (decide (IntKind.wrap IntKind.i64 (x0+(1:Int))<(↑(List.length x1):Int))) (
  ac (within x0 (List.length x1)) (
   Option.bind (x1[Int.toNat x0]?) fun y0 =>
   ac (within (IntKind.wrap IntKind.i64 (x0+(1:Int))) (List.length x1)) (
    Option.bind (x1[Int.toNat (IntKind.wrap IntKind.i64 (x0+(1:Int)))]?) fun y1 =>
    ac (within x0 (List.length x1)) (
     Option.bind (x1[Int.toNat x0]?) fun y2 =>
     ac (within (IntKind.wrap IntKind.i64 (x0+(1:Int))) (List.length x1)) (
      Option.bind (x1[Int.toNat (IntKind.wrap IntKind.i64 (x0+(1:Int)))]?) fun y3 =>
      Option.bind (Yw N [y2.2.1,y3.2.1]) fun y4 =>
      ac (decide ((List.length x2+List.length [(IntKind.wrap IntKind.i64 (y0.1+y1.1),y4,())])*(32:Nat)≤(140737488355328:Nat)∧List.length x2+List.length [(IntKind.wrap IntKind.i64 (y0.1+y1.1),y4,())]≤(140737488355328:Nat))) (
       Option.bind (f (IntKind.wrap IntKind.i64 (x0+(2:Int)),x1,x2++[(IntKind.wrap IntKind.i64 (y0.1+y1.1),y4,())])) fun r=>some r) (
       none )) (
      none )) (
     none )) (
    none )) (
   none )) (
  some (x2))
noncomputable def sA (N:Nat):Nat→CI→Option BO
 | 0,_=>none
 | k+1,x=>Ny N (sA N k) x
noncomputable def MQ (N:Nat) (k:Nat):Cut:=LQ.cut (sA N k)
theorem JK (N:Nat) (k:Nat):ak Tryz.prog false Tryz.f377 [] 58 (MQ N k) :=
 LQ.loopT ag am (xx N) Tryz.f377 [] (cuts:=[]) trivial (by decide +kernel) (by kernel_rfl) (Ny N) (sA N) (fun _=>rfl) (fun _ _=>rfl) (fun f x=>by kernel_rfl) k
@[reducible] def w377:List SP:=[⟨[.sl 0],[.row y5 391]⟩]
noncomputable def ay5 (N:Nat):((List (Int×((List Int)×Unit))))→Option ((List (Int×((List Int)×Unit))))
 | x0 =>
 Option.bind (sA N N ((0:Int),x0,[])) fun y0 =>
 some (y0)
noncomputable def aN4 (N:Nat):Pk→Tr Pk:=tL SR (ah s377 w377 (ay5 N))
theorem WA (N:Nat):av Tryz.prog (377) (aN4 N) :=
 jV AT (af ag am (xx N) Tryz.func377 s377 w377 [] (cuts:=[(58,MQ N N)]) ⟨JK N N,trivial⟩ (fun _=>by kernel_rfl) (by decide +kernel) (ay5 N) (fun x=>by kernel_rfl)) (by decide +kernel)
@[reducible] def s358:SP:=⟨[.ro (.int .i64),.int .i64],[]⟩
noncomputable def aa1 (N:Nat):List (Nat×(Pk→Tr Pk)):=[(375,aN5 N),(377,aN4 N),(376,au0 N)]
theorem gL (N:Nat):ai Tryz.prog (aa1 N):=⟨WB N,WA N,K8 N,trivial⟩
@[reducible] def ze:LD:=⟨4090,[9,61,60,8,6],[(.ret,[4,5]),(.exit 1,[9,6,8])],⟨[.ro y5,.int .i64,.int .i64,.sl 0,.ro y5],[.row (.int .i64) 3]⟩,[(.exit 1,⟨[.ro y5,.ro y5,.sl 0],[.row (.int .i64) 3]⟩)]⟩
abbrev qn:Type:=(List (Int×((List Int)×Unit)))×Int×Int×(List (Int×((List Int)×Unit)))×(List Int)
abbrev pZ:Type:=(List (Int×((List Int)×Unit)))×(List (Int×((List Int)×Unit)))×(List Int)
noncomputable def zY (N:Nat) (f:qn→Option pZ):qn→Option pZ
 | (x0,x1,x2,x3,x4) =>
 ac (decide (x1<x2)) (
  Option.bind (ay5 N x0) fun y0 =>
  Option.bind (Yq N (x3,y0)) fun y1 =>
  Option.bind (f (y1,IntKind.wrap IntKind.i64 (x1+(1:Int)),x2,x3,x4)) fun r=>some r) (
  some ((x0,x3,x4)))
noncomputable def dP (N:Nat):Nat→qn→Option pZ
 | 0,_=>none
 | k+1,x=>zY N (dP N k) x
noncomputable def iu (N:Nat) (k:Nat):Cut:=ze.cut (dP N k)
theorem eV (N:Nat) (k:Nat):ak Tryz.prog false Tryz.f358 [] 4090 (iu N k) :=
 ze.loopT ag am (gL N) Tryz.f358 [] (cuts:=[]) trivial (by decide +kernel) (by kernel_rfl) (zY N) (dP N) (fun _=>rfl) (fun _ _=>rfl) (fun f x=>by kernel_rfl) k
@[reducible] def oi:LD:=⟨2095718,[82,81,73,74,75,80,8],[(.ret,[4,5]),(.exit 5,[75,74,73,8]),(.exit 4,[75,74,73,8]),(.exit 3,[8])],⟨[.int .i64,.int .i64,.ro y5,.int .i64,.int .i64,.ro (.int .i64),.sl 0],[.row (.int .i64) 3]⟩,[(.exit 5,⟨[.int .i64,.int .i64,.ro y5,.sl 0],[.row (.int .i64) 3]⟩)]⟩
abbrev i7:Type:=Int×Int×(List (Int×((List Int)×Unit)))×Int×Int×(List Int)×(List Int)
abbrev iZ:Type:=Int×Int×(List (Int×((List Int)×Unit)))×(List Int)
noncomputable def oY (N:Nat) (f:i7→Option iZ):i7→Option iZ
 | (x0,x1,x2,x3,x4,x5,x6) =>
 ac (decide (x0<x1)) (
  ac (within x0 (List.length x5)) (
   Option.bind (x5[Int.toNat x0]?) fun y0 =>
   ac (within y0 (List.length x6)) (
    Option.bind (x6[Int.toNat y0]?) fun y1 =>
    ac (within y0 (List.length x6)) (
     Option.bind (x6[Int.toNat y0]?) fun y2 =>
     Option.bind (f (IntKind.wrap IntKind.i64 (x0+(1:Int)),x1,x2,x3,x4,x5,List.set x6 (Int.toNat y0) (IntKind.wrap IntKind.i64 (y1+(1:Int))))) fun r=>some r) (
     none )) (
    none )) (
   none )) (
  some ((x4,x3,x2,x6)))
noncomputable def eK (N:Nat):Nat→i7→Option iZ
 | 0,_=>none
 | k+1,x=>oY N (eK N k) x
noncomputable def eW (N:Nat) (k:Nat):Cut:=oi.cut (eK N k)
theorem eC (N:Nat) (k:Nat):ak Tryz.prog false Tryz.f358 [] 2095718 (eW N k) :=
 oi.loopT ag am (gL N) Tryz.f358 [] (cuts:=[(4090,iu N N)]) ⟨eV N N,trivial⟩ (by decide +kernel) (by kernel_rfl) (oY N) (eK N) (fun _=>rfl) (fun _ _=>rfl) (fun f x=>by kernel_rfl) k
@[reducible] def zd:LD:=⟨8186,[74,73,75,8],[(.ret,[4,5]),(.exit 3,[8])],⟨[.int .i64,.ro y5,.int .i64,.sl 0],[.row (.int .i64) 3]⟩,[(.exit 3,⟨[.sl 0],[.row (.int .i64) 3]⟩)]⟩
abbrev qm:Type:=Int×(List (Int×((List Int)×Unit)))×Int×(List Int)
abbrev pY:Type:=(List Int)
noncomputable def zX (N:Nat) (f:qm→Option pY):qm→Option pY
 | (x0,x1,x2,x3) =>
 ac (decide (x2<x0)) (
  ac (within x2 (List.length x1)) (
   Option.bind (x1[Int.toNat x2]?) fun y0 =>
   Option.bind (eK N N ((0:Int),(↑(List.length y0.2.1):Int),x1,x0,x2,y0.2.1,x3)) fun y1 =>
   Option.bind (f (y1.2.1,y1.2.2.1,IntKind.wrap IntKind.i64 (y1.1+(1:Int)),y1.2.2.2)) fun r=>some r) (
   none )) (
  some (x3))
noncomputable def dO (N:Nat):Nat→qm→Option pY
 | 0,_=>none
 | k+1,x=>zX N (dO N k) x
noncomputable def qJ (N:Nat) (k:Nat):Cut:=zd.cut (dO N k)
theorem oR (N:Nat) (k:Nat):ak Tryz.prog false Tryz.f358 [] 8186 (qJ N k) :=
 zd.loopT ag am (gL N) Tryz.f358 [] (cuts:=[(4090,iu N N),(2095718,eW N N)]) ⟨eV N N,eC N N,trivial⟩ (by decide +kernel) (by kernel_rfl) (zX N) (dO N) (fun _=>rfl) (fun _ _=>rfl) (fun f x=>by kernel_rfl) k
@[reducible] def Ua:LD:=⟨7,[0,1],[(.ret,[4,5]),(.normal,[4,5])],⟨[.ro (.int .i64),.int .i64],[]⟩,[(.ret,⟨[.sl 0,.int .i64],[.row (.int .i64) 3]⟩)]⟩
noncomputable def Jf (N:Nat):((List Int)×Int)→Option (Int×(List Int))
 | (x0,x1) =>
 Option.bind (ay6 N x0) fun y0 =>
 match y0 with
 | .inl y1 =>
  ac (y1.1 != (0:Int)) (
   some ((y1.1,[]))) (
   ac (decide (x1<(0:Int))) (
    none ) (
    ac (decide ((↑(List.length y1.2):Int)>IntKind.wrap IntKind.i64 ((1:Int)*(2:Int)^min (Int.toNat x1) (64:Nat)))) (
     some (((50:Int),[]))) (
     ac (decide ((0:Int)≤(↑(List.length x0):Int)∧(↑(List.length x0):Int)≤(↑(List.length x0):Int)∧(↑(List.length x0):Int)*(8:Int)≤(140737488355328:Int)∧(↑(List.length x0):Int)≤(140737488355328:Int))) (
      ac ((↑(List.length y1.2):Int)==(1:Int)) (
       ac (within (0:Int) (List.length y1.2)) (
        Option.bind (y1.2[(0:Nat)]?) fun y2 =>
        ac (within (0:Int) (List.length y2.2.1)) (
         Option.bind (y2.2.1[(0:Nat)]?) fun y3 =>
         ac (within y3 (List.length (List.replicate (Int.toNat (↑(List.length x0):Int)) (0:Int)))) (
          Option.bind ((List.replicate (Int.toNat (↑(List.length x0):Int)) (0:Int))[Int.toNat y3]?) fun y4 =>
          ac (decide ((↑(List.length y1.2):Int)<(2:Int))) (
           some (((0:Int),List.set (List.replicate (Int.toNat (↑(List.length x0):Int)) (0:Int)) (Int.toNat y3) (1:Int)))) (
           Option.bind (dP N N (y1.2,(0:Int),IntKind.wrap IntKind.i64 (x1-(1:Int)),y1.2,List.set (List.replicate (Int.toNat (↑(List.length x0):Int)) (0:Int)) (Int.toNat y3) (1:Int))) fun y5 =>
           ac (decide ((0:Int)≤IntKind.wrap IntKind.i64 (IntKind.wrap IntKind.i64 ((2:Int)*(↑(List.length y5.2.1):Int))-(2:Int))∧IntKind.wrap IntKind.i64 (IntKind.wrap IntKind.i64 ((2:Int)*(↑(List.length y5.2.1):Int))-(2:Int))≤(↑(List.length y5.1):Int))) (
            Option.bind (dO N N ((↑(List.length (List.take (Int.toNat (IntKind.wrap IntKind.i64 (IntKind.wrap IntKind.i64 ((2:Int)*(↑(List.length y5.2.1):Int))-(2:Int)))-(0:Nat)) (List.drop (0:Nat) y5.1))):Int),List.take (Int.toNat (IntKind.wrap IntKind.i64 (IntKind.wrap IntKind.i64 ((2:Int)*(↑(List.length y5.2.1):Int))-(2:Int)))-(0:Nat)) (List.drop (0:Nat) y5.1),(0:Int),y5.2.2)) fun y6 =>
            some (((0:Int),y6))) (
            none ))) (
          none )) (
         none )) (
        none )) (
       ac (decide ((↑(List.length y1.2):Int)<(2:Int))) (
        some (((0:Int),List.replicate (Int.toNat (↑(List.length x0):Int)) (0:Int)))) (
        Option.bind (dP N N (y1.2,(0:Int),IntKind.wrap IntKind.i64 (x1-(1:Int)),y1.2,List.replicate (Int.toNat (↑(List.length x0):Int)) (0:Int))) fun y7 =>
        ac (decide ((0:Int)≤IntKind.wrap IntKind.i64 (IntKind.wrap IntKind.i64 ((2:Int)*(↑(List.length y7.2.1):Int))-(2:Int))∧IntKind.wrap IntKind.i64 (IntKind.wrap IntKind.i64 ((2:Int)*(↑(List.length y7.2.1):Int))-(2:Int))≤(↑(List.length y7.1):Int))) (
         Option.bind (dO N N ((↑(List.length (List.take (Int.toNat (IntKind.wrap IntKind.i64 (IntKind.wrap IntKind.i64 ((2:Int)*(↑(List.length y7.2.1):Int))-(2:Int)))-(0:Nat)) (List.drop (0:Nat) y7.1))):Int),List.take (Int.toNat (IntKind.wrap IntKind.i64 (IntKind.wrap IntKind.i64 ((2:Int)*(↑(List.length y7.2.1):Int))-(2:Int)))-(0:Nat)) (List.drop (0:Nat) y7.1),(0:Int),y7.2.2)) fun y8 =>
         some (((0:Int),y8))) (
         none )))) (
      none ))))
 | .inr y1 =>
  ac (y1.2 != (0:Int)) (
   some ((y1.2,[]))) (
   ac (decide (x1<(0:Int))) (
    none ) (
    ac (decide ((↑(List.length y1.1):Int)>IntKind.wrap IntKind.i64 ((1:Int)*(2:Int)^min (Int.toNat x1) (64:Nat)))) (
     some (((50:Int),[]))) (
     ac (decide ((0:Int)≤(↑(List.length x0):Int)∧(↑(List.length x0):Int)≤(↑(List.length x0):Int)∧(↑(List.length x0):Int)*(8:Int)≤(140737488355328:Int)∧(↑(List.length x0):Int)≤(140737488355328:Int))) (
      ac ((↑(List.length y1.1):Int)==(1:Int)) (
       ac (within (0:Int) (List.length y1.1)) (
        Option.bind (y1.1[(0:Nat)]?) fun y9 =>
        ac (within (0:Int) (List.length y9.2.1)) (
         Option.bind (y9.2.1[(0:Nat)]?) fun y10 =>
         ac (within y10 (List.length (List.replicate (Int.toNat (↑(List.length x0):Int)) (0:Int)))) (
          Option.bind ((List.replicate (Int.toNat (↑(List.length x0):Int)) (0:Int))[Int.toNat y10]?) fun y11 =>
          ac (decide ((↑(List.length y1.1):Int)<(2:Int))) (
           some (((0:Int),List.set (List.replicate (Int.toNat (↑(List.length x0):Int)) (0:Int)) (Int.toNat y10) (1:Int)))) (
           Option.bind (dP N N (y1.1,(0:Int),IntKind.wrap IntKind.i64 (x1-(1:Int)),y1.1,List.set (List.replicate (Int.toNat (↑(List.length x0):Int)) (0:Int)) (Int.toNat y10) (1:Int))) fun y12 =>
           ac (decide ((0:Int)≤IntKind.wrap IntKind.i64 (IntKind.wrap IntKind.i64 ((2:Int)*(↑(List.length y12.2.1):Int))-(2:Int))∧IntKind.wrap IntKind.i64 (IntKind.wrap IntKind.i64 ((2:Int)*(↑(List.length y12.2.1):Int))-(2:Int))≤(↑(List.length y12.1):Int))) (
            Option.bind (dO N N ((↑(List.length (List.take (Int.toNat (IntKind.wrap IntKind.i64 (IntKind.wrap IntKind.i64 ((2:Int)*(↑(List.length y12.2.1):Int))-(2:Int)))-(0:Nat)) (List.drop (0:Nat) y12.1))):Int),List.take (Int.toNat (IntKind.wrap IntKind.i64 (IntKind.wrap IntKind.i64 ((2:Int)*(↑(List.length y12.2.1):Int))-(2:Int)))-(0:Nat)) (List.drop (0:Nat) y12.1),(0:Int),y12.2.2)) fun y13 =>
            some (((0:Int),y13))) (
            none ))) (
          none )) (
         none )) (
        none )) (
       ac (decide ((↑(List.length y1.1):Int)<(2:Int))) (
        some (((0:Int),List.replicate (Int.toNat (↑(List.length x0):Int)) (0:Int)))) (
        Option.bind (dP N N (y1.1,(0:Int),IntKind.wrap IntKind.i64 (x1-(1:Int)),y1.1,List.replicate (Int.toNat (↑(List.length x0):Int)) (0:Int))) fun y14 =>
        ac (decide ((0:Int)≤IntKind.wrap IntKind.i64 (IntKind.wrap IntKind.i64 ((2:Int)*(↑(List.length y14.2.1):Int))-(2:Int))∧IntKind.wrap IntKind.i64 (IntKind.wrap IntKind.i64 ((2:Int)*(↑(List.length y14.2.1):Int))-(2:Int))≤(↑(List.length y14.1):Int))) (
         Option.bind (dO N N ((↑(List.length (List.take (Int.toNat (IntKind.wrap IntKind.i64 (IntKind.wrap IntKind.i64 ((2:Int)*(↑(List.length y14.2.1):Int))-(2:Int)))-(0:Nat)) (List.drop (0:Nat) y14.1))):Int),List.take (Int.toNat (IntKind.wrap IntKind.i64 (IntKind.wrap IntKind.i64 ((2:Int)*(↑(List.length y14.2.1):Int))-(2:Int)))-(0:Nat)) (List.drop (0:Nat) y14.1),(0:Int),y14.2.2)) fun y15 =>
         some (((0:Int),y15))) (
         none )))) (
      none ))))
noncomputable def Vj (N:Nat) (_:Nat):Cut:=Ua.cut (Jf N)
theorem QY (N:Nat) (k:Nat):ak Tryz.prog false Tryz.f358 [] 7 (Vj N k) :=
 Ua.pieceT ag am (gL N) Tryz.f358 [] (cuts:=[(4090,iu N N),(2095718,eW N N),(8186,qJ N N)]) ⟨eV N N,eC N N,oR N N,trivial⟩ (by decide +kernel) (by kernel_rfl) (Jf N) (fun x=>by kernel_rfl)
@[reducible] def w358:List SP:=[⟨[.tup [.sl 0,.int .i64]],[.row (.int .i64) 3]⟩]
noncomputable def Yx (N:Nat):((List Int)×Int)→Option (Int×(List Int))
 | (x0,x1) =>
 ac (decide ((↑(List.length x0):Int)>(320:Int))) (
  some (((1:Int),[]))) (
  ac (decide (x1<(1:Int))) (
   some (((1:Int),[]))) (
   ac (decide (x1>(15:Int))) (
    some (((1:Int),[]))) (
    Option.bind (Jf N (x0,x1)) fun y0 =>
    some ((y0.1,y0.2)))))
noncomputable def au9 (N:Nat):Pk→Tr Pk:=ah s358 w358 (Yx N)
theorem Li (N:Nat):av Tryz.prog (358) (au9 N) :=
 (af ag am (gL N) Tryz.func358 s358 w358 [] (cuts:=[(4090,iu N N),(2095718,eW N N),(8186,qJ N N),(7,Vj N N)]) ⟨eV N N,eC N N,oR N N,QY N N,trivial⟩ (fun _=>by kernel_rfl) (by decide +kernel) (Yx N) (fun x=>by kernel_rfl))
@[reducible] def s340:SP:=⟨[.ro (.int .i64)],[]⟩
noncomputable def ab6 (N:Nat):List (Nat×(Pk→Tr Pk)):=[(358,au9 N)]
theorem On (N:Nat):ai Tryz.prog (ab6 N):=⟨Li N,trivial⟩
@[reducible] def w340:List SP:=[⟨[.sl 0],[.row (.int .i64) 3]⟩]
noncomputable def YF (N:Nat):((List Int))→Option ((List Int))
 | x0 =>
 Option.bind (Yx N (x0,(15:Int))) fun y0 =>
 some y0.2
noncomputable def aP1 (N:Nat):Pk→Tr Pk:=ah s340 w340 (YF N)
theorem WW (N:Nat):av Tryz.prog (340) (aP1 N) :=
 (af ag am (On N) Tryz.func340 s340 w340 [] (cuts:=[]) trivial (fun _=>by kernel_rfl) (by decide +kernel) (YF N) (fun x=>by kernel_rfl))
@[reducible] def s339:SP:=⟨[.ro (.int .i64),.int .i64],[]⟩
noncomputable def ab7 (N:Nat):List (Nat×(Pk→Tr Pk)):=[]
theorem xJ (N:Nat):ai Tryz.prog (ab7 N):=trivial
@[reducible] def Md:LD:=⟨28,[5,1,0],[(.ret,[4]),(.exit 0,[0,5])],⟨[.int .i64,.int .i64,.ro (.int .i64)],[]⟩,[(.exit 0,⟨[.ro (.int .i64),.int .i64],[]⟩)]⟩
abbrev CS:Type:=Int×Int×(List Int)
abbrev BZ:Type:=(List Int)×Int
noncomputable def NJ (N:Nat) (f:CS→Option BZ):CS→Option BZ
 | (x0,x1,x2) =>
 ac (decide (x0>x1)) (
  ac (within (IntKind.wrap IntKind.i64 (x0-(1:Int))) (List.length x2)) (
   Option.bind (x2[Int.toNat (IntKind.wrap IntKind.i64 (x0-(1:Int)))]?) fun y0 =>
   ac (y0==(0:Int)) (
    Option.bind (f (IntKind.wrap IntKind.i64 (x0-(1:Int)),x1,x2)) fun r=>some r) (
    some ((x2,x0)))) (
   none )) (
  some ((x2,x0)))
noncomputable def sK (N:Nat):Nat→CS→Option BZ
 | 0,_=>none
 | k+1,x=>NJ N (sK N k) x
noncomputable def M2 (N:Nat) (k:Nat):Cut:=Md.cut (sK N k)
theorem JW (N:Nat) (k:Nat):ak Tryz.prog false Tryz.f339 [] 28 (M2 N k) :=
 Md.loopT ag am (xJ N) Tryz.f339 [] (cuts:=[]) trivial (by decide +kernel) (by kernel_rfl) (NJ N) (sK N) (fun _=>rfl) (fun _ _=>rfl) (fun f x=>by kernel_rfl) k
@[reducible] def w339:List SP:=[⟨[.ro (.int .i64)],[]⟩]
noncomputable def YG (N:Nat):((List Int)×Int)→Option ((List Int))
 | (x0,x1) =>
 Option.bind (sK N N ((↑(List.length x0):Int),x1,x0)) fun y0 =>
 ac (decide ((0:Int)≤y0.2∧y0.2≤(↑(List.length y0.1):Int))) (
  some (List.take (Int.toNat y0.2-(0:Nat)) (List.drop (0:Nat) y0.1))) (
  none )
noncomputable def aP2 (N:Nat):Pk→Tr Pk:=ah s339 w339 (YG N)
theorem WX (N:Nat):av Tryz.prog (339) (aP2 N) :=
 (af ag am (xJ N) Tryz.func339 s339 w339 [] (cuts:=[(28,M2 N N)]) ⟨JW N N,trivial⟩ (fun _=>by kernel_rfl) (by decide +kernel) (YG N) (fun x=>by kernel_rfl))
@[reducible] def s359:SP:=⟨[.int .i64],[]⟩
noncomputable def aa0 (N:Nat):List (Nat×(Pk→Tr Pk)):=[]
theorem Oe (N:Nat):ai Tryz.prog (aa0 N):=trivial
@[reducible] def w359:List SP:=[⟨[.bool],[]⟩]
noncomputable def az2 (N:Nat):(Int)→Option (Bool)
 | x0 =>
 ac (decide (x0<(0:Int))) (
  some (true)) (
  some (decide (x0>(15:Int))))
noncomputable def aO1 (N:Nat):Pk→Tr Pk:=ah s359 w359 (az2 N)
theorem WK (N:Nat):av Tryz.prog (359) (aO1 N) :=
 (af ag am (Oe N) Tryz.func359 s359 w359 [] (cuts:=[]) trivial (fun _=>by kernel_rfl) (by decide +kernel) (az2 N) (fun x=>by kernel_rfl))
@[reducible] def s109:SP:=⟨[.ro (.int .i64),.fn 359],[]⟩
noncomputable def al7 (N:Nat):List (Nat×(Pk→Tr Pk)):=[(359,aO1 N)]
theorem yk (N:Nat):ai Tryz.prog (al7 N):=⟨WK N,trivial⟩
@[reducible] def Mz:LD:=⟨26,[7,1,0,8],[(.ret,[4]),(.exit 0,[])],⟨[.int .i64,.fn 359,.ro (.int .i64),.int .i64],[]⟩,[(.ret,⟨[.int .i64],[]⟩),(.exit 0,⟨[],[]⟩)]⟩
abbrev Dd:Type:=Int×(List Int)×Int
abbrev Ct:Type:=((Int)⊕(Unit))
noncomputable def NP (N:Nat) (f:Dd→Option Ct):Dd→Option Ct
 | (x0,x1,x2) =>
 ac (decide (x2<x0)) (
  ac (within x2 (List.length x1)) (
   Option.bind (x1[Int.toNat x2]?) fun y0 =>
   Option.bind (az2 N y0) fun y1 =>
   ac (y1) (
    some (.inl (x2))) (
    Option.bind (f (x0,x1,IntKind.wrap IntKind.i64 (x2+(1:Int)))) fun r=>match r with|.inl y=>some (.inl y)|.inr y=>some (.inr y))) (
   none )) (
  some (.inr (())))
noncomputable def sQ (N:Nat):Nat→Dd→Option Ct
 | 0,_=>none
 | k+1,x=>NP N (sQ N k) x
noncomputable def Np (N:Nat) (k:Nat):Cut:=Mz.cut (sQ N k)
theorem Kh (N:Nat) (k:Nat):ak Tryz.prog false Tryz.f109 [] 26 (Np N k) :=
 Mz.loopT ag am (yk N) Tryz.f109 [] (cuts:=[]) trivial (by decide +kernel) (by kernel_rfl) (NP N) (sQ N) (fun _=>rfl) (fun _ _=>rfl) (fun f x=>by kernel_rfl) k
@[reducible] def w109:List SP:=[⟨[.int .i64],[]⟩]
noncomputable def aB7 (N:Nat):((List Int))→Option (Int)
 | x0 =>
 Option.bind (sQ N N ((↑(List.length x0):Int),x0,(0:Int))) fun y0 =>
 match y0 with
 | .inl y1 =>
  some (y1)
 | .inr y1 =>
  some ((-1:Int))
noncomputable def aV8 (N:Nat):Pk→Tr Pk:=ah s109 w109 (aB7 N)
theorem Yd (N:Nat):av Tryz.prog (109) (aV8 N) :=
 (af ag am (yk N) Tryz.func109 s109 w109 [] (cuts:=[(26,Np N N)]) ⟨Kh N N,trivial⟩ (fun _=>by kernel_rfl) (by decide +kernel) (aB7 N) (fun x=>by kernel_rfl))
@[reducible] def s77:SP:=⟨[.ro (.int .i64),.fn 359],[]⟩
noncomputable def aG1 (N:Nat):List (Nat×(Pk→Tr Pk)):=[(109,aV8 N)]
theorem RI (N:Nat):ai Tryz.prog (aG1 N):=⟨Yd N,trivial⟩
@[reducible] def w77:List SP:=[⟨[.bool],[]⟩]
noncomputable def F77 (N:Nat):((List Int))→Option (Bool)
 | x0 =>
 Option.bind (aB7 N x0) fun y0 =>
 some (decide (y0≥(0:Int)))
noncomputable def T77 (N:Nat):Pk→Tr Pk:=ah s77 w77 (F77 N)
theorem as8 (N:Nat):av Tryz.prog (77) (T77 N) :=
 (af ag am (RI N) Tryz.func77 s77 w77 [] (cuts:=[]) trivial (fun _=>by kernel_rfl) (by decide +kernel) (F77 N) (fun x=>by kernel_rfl))
@[reducible] def s378:SP:=⟨[.ro (.int .i64),.int .i64,.int .i64],[]⟩
noncomputable def ZS (N:Nat):List (Nat×(Pk→Tr Pk)):=[]
theorem xw (N:Nat):ai Tryz.prog (ZS N):=trivial
@[reducible] def LP:LD:=⟨28,[7,2,0,1],[(.ret,[6]),(.exit 0,[7])],⟨[.int .i64,.int .i64,.ro (.int .i64),.int .i64],[]⟩,[(.exit 0,⟨[.int .i64],[]⟩)]⟩
abbrev CH:Type:=Int×Int×(List Int)×Int
abbrev BN:Type:=Int
noncomputable def Nx (N:Nat) (f:CH→Option BN):CH→Option BN
 | (x0,x1,x2,x3) =>
 ac (decide (x0<x1)) (
  ac (decide (IntKind.wrap IntKind.i64 (x3+x0)<(↑(List.length x2):Int))) (
   ac (within (IntKind.wrap IntKind.i64 (x3+x0)) (List.length x2)) (
    Option.bind (x2[Int.toNat (IntKind.wrap IntKind.i64 (x3+x0))]?) fun y0 =>
    ac (within x3 (List.length x2)) (
     Option.bind (x2[Int.toNat x3]?) fun y1 =>
     ac (y0==y1) (
      Option.bind (f (IntKind.wrap IntKind.i64 (x0+(1:Int)),x1,x2,x3)) fun r=>some r) (
      some (x0))) (
     none )) (
    none )) (
   some (x0))) (
  some (x0))
noncomputable def sy (N:Nat):Nat→CH→Option BN
 | 0,_=>none
 | k+1,x=>Nx N (sy N k) x
noncomputable def MP (N:Nat) (k:Nat):Cut:=LP.cut (sy N k)
theorem JJ (N:Nat) (k:Nat):ak Tryz.prog false Tryz.f378 [] 28 (MP N k) :=
 LP.loopT ag am (xw N) Tryz.f378 [] (cuts:=[]) trivial (by decide +kernel) (by kernel_rfl) (Nx N) (sy N) (fun _=>rfl) (fun _ _=>rfl) (fun f x=>by kernel_rfl) k
@[reducible] def w378:List SP:=[⟨[.int .i64],[]⟩]
noncomputable def ay4 (N:Nat):((List Int)×Int×Int)→Option (Int)
 | (x0,x1,x2) =>
 Option.bind (sy N N ((1:Int),x2,x0,x1)) fun y0 =>
 some (y0)
noncomputable def aN3 (N:Nat):Pk→Tr Pk:=ah s378 w378 (ay4 N)
theorem Wz (N:Nat):av Tryz.prog (378) (aN3 N) :=
 (af ag am (xw N) Tryz.func378 s378 w378 [] (cuts:=[(28,MP N N)]) ⟨JJ N N,trivial⟩ (fun _=>by kernel_rfl) (by decide +kernel) (ay4 N) (fun x=>by kernel_rfl))
end Go.Proofs.YtfcamlibbfnldaaGreat.Am
