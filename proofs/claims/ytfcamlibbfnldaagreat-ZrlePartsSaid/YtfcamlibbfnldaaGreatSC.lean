/- The seat's Go functions come to the Lean functions written here, wherever these give an answer (part C). -/
import Derived.Test.YtfcamlibbfnldaaGreatSB
set_option linter.unusedSimpArgs false
set_option linter.unusedVariables false
set_option linter.unusedSectionVars false
set_option maxRecDepth 100000
namespace Go.Proofs.YtfcamlibbfnldaaGreat.Am
open Go.Am
@[reducible] def s360:SP:=⟨[.ro (.int .i64)],[]⟩
noncomputable def YG (N:Nat):List (Nat×(Pk→Tr Pk)):=[(378,az6 N)]
theorem kS (N:Nat):ai Tryz.prog (YG N):=⟨Vo N,trivial⟩
@[reducible] def vN:LD:=⟨29863,[37,3,4,5,0],[(.ret,[2]),(.exit 2,[4,5,3,0]),(.exit 1,[3,4,0]),(.exit 0,[3]),(.normal,[4,5,3,0])],⟨[.bool,.sl 0,.int .i64,.int .i64,.ro (.int .i64)],[.row y4 373]⟩,[(.normal,⟨[.int .i64,.int .i64,.sl 0,.ro (.int .i64)],[.row y4 373]⟩)]⟩
noncomputable def i6 (N:Nat):(Bool×Int×Int×(List Int)×(List (Int×(Int×(Int×Unit)))))→Option (Int×Int×(List Int)×(List (Int×(Int×(Int×Unit)))))
 | (x0,x1,x2,x3,x4) =>
 ac (x0) (
  ac (decide ((List.length x4+List.length [((17:Int),(3:Int),IntKind.wrap IntKind.i64 (x2-(3:Int)),())])*(24:Nat)≤(140737488355328:Nat)∧List.length x4+List.length [((17:Int),(3:Int),IntKind.wrap IntKind.i64 (x2-(3:Int)),())]≤(140737488355328:Nat))) (
   some ((x1,x2,x3,x4++[((17:Int),(3:Int),IntKind.wrap IntKind.i64 (x2-(3:Int)),())]))) (
   none )) (
  ac (decide (x1>(0:Int))) (
   ac (within x1 (List.length x3)) (
    Option.bind (x3[Int.toNat x1]?) fun y0 =>
    ac (within (IntKind.wrap IntKind.i64 (x1-(1:Int))) (List.length x3)) (
     Option.bind (x3[Int.toNat (IntKind.wrap IntKind.i64 (x1-(1:Int)))]?) fun y1 =>
     ac (y0==y1) (
      ac (decide (x2>(2:Int))) (
       ac (decide ((List.length x4+List.length [((16:Int),(2:Int),IntKind.wrap IntKind.i64 ((if (6:Int)<x2 then (6:Int) else x2)-(3:Int)),())])*(24:Nat)≤(140737488355328:Nat)∧List.length x4+List.length [((16:Int),(2:Int),IntKind.wrap IntKind.i64 ((if (6:Int)<x2 then (6:Int) else x2)-(3:Int)),())]≤(140737488355328:Nat))) (
        some ((x1,if (6:Int)<x2 then (6:Int) else x2,x3,x4++[((16:Int),(2:Int),IntKind.wrap IntKind.i64 ((if (6:Int)<x2 then (6:Int) else x2)-(3:Int)),())]))) (
        none )) (
       ac (within x1 (List.length x3)) (
        Option.bind (x3[Int.toNat x1]?) fun y2 =>
        ac (decide ((List.length x4+List.length [(y2,(0:Int),(0:Int),())])*(24:Nat)≤(140737488355328:Nat)∧List.length x4+List.length [(y2,(0:Int),(0:Int),())]≤(140737488355328:Nat))) (
         some ((x1,(1:Int),x3,x4++[(y2,(0:Int),(0:Int),())]))) (
         none )) (
        none ))) (
      ac (within x1 (List.length x3)) (
       Option.bind (x3[Int.toNat x1]?) fun y3 =>
       ac (decide ((List.length x4+List.length [(y3,(0:Int),(0:Int),())])*(24:Nat)≤(140737488355328:Nat)∧List.length x4+List.length [(y3,(0:Int),(0:Int),())]≤(140737488355328:Nat))) (
        some ((x1,(1:Int),x3,x4++[(y3,(0:Int),(0:Int),())]))) (
        none )) (
       none ))) (
     none )) (
    none )) (
   ac (within x1 (List.length x3)) (
    Option.bind (x3[Int.toNat x1]?) fun y4 =>
    ac (decide ((List.length x4+List.length [(y4,(0:Int),(0:Int),())])*(24:Nat)≤(140737488355328:Nat)∧List.length x4+List.length [(y4,(0:Int),(0:Int),())]≤(140737488355328:Nat))) (
     some ((x1,(1:Int),x3,x4++[(y4,(0:Int),(0:Int),())]))) (
     none )) (
    none )))
noncomputable def jf (N:Nat) (_:Nat):Cut:=vN.cut (i6 N)
theorem gA (N:Nat) (k:Nat):al Tryz.prog false Tryz.f360 [] 29863 (jf N k) :=
 vN.pieceT ag ap (kS N) Tryz.f360 [] (cuts:=[]) trivial (by decide +kernel) (by kernel_rfl) (i6 N) (fun x=>by kernel_rfl)
@[reducible] def yF:LD:=⟨7465,[21,3,4,5,0],[(.ret,[2]),(.exit 2,[4,5,3,0]),(.exit 1,[3,4,0]),(.exit 0,[3]),(.normal,[4,5,3,0])],⟨[.bool,.sl 0,.int .i64,.int .i64,.ro (.int .i64)],[.row y4 373]⟩,[(.normal,⟨[.int .i64,.int .i64,.sl 0,.ro (.int .i64)],[.row y4 373]⟩)]⟩
noncomputable def ly (N:Nat):(Bool×Int×Int×(List Int)×(List (Int×(Int×(Int×Unit)))))→Option (Int×Int×(List Int)×(List (Int×(Int×(Int×Unit)))))
 | (x0,x1,x2,x3,x4) =>
 ac (x0) (
  ac (decide ((List.length x4+List.length [((18:Int),(7:Int),IntKind.wrap IntKind.i64 (x2-(11:Int)),())])*(24:Nat)≤(140737488355328:Nat)∧List.length x4+List.length [((18:Int),(7:Int),IntKind.wrap IntKind.i64 (x2-(11:Int)),())]≤(140737488355328:Nat))) (
   some ((x1,x2,x3,x4++[((18:Int),(7:Int),IntKind.wrap IntKind.i64 (x2-(11:Int)),())]))) (
   none )) (
  ac (within x1 (List.length x3)) (
   Option.bind (x3[Int.toNat x1]?) fun y0 =>
   ac (y0==(0:Int)) (
    Option.bind (i6 N (decide (x2>(2:Int)),x1,x2,x3,x4)) fun y1 =>
    some ((y1.1,y1.2.1,y1.2.2.1,y1.2.2.2))) (
    Option.bind (i6 N (false,x1,x2,x3,x4)) fun y2 =>
    some ((y2.1,y2.2.1,y2.2.2.1,y2.2.2.2)))) (
   none ))
noncomputable def qx (N:Nat) (_:Nat):Cut:=yF.cut (ly N)
theorem oG (N:Nat) (k:Nat):al Tryz.prog false Tryz.f360 [] 7465 (qx N k) :=
 yF.pieceT ag ap (kS N) Tryz.f360 [] (cuts:=[(29863,jf N N)]) ⟨gA N N,trivial⟩ (by decide +kernel) (by kernel_rfl) (ly N) (fun x=>by kernel_rfl)
@[reducible] def K3:LD:=⟨58,[3,4,0],[(.ret,[2]),(.exit 0,[3])],⟨[.sl 0,.int .i64,.ro (.int .i64)],[.row y4 373]⟩,[(.exit 0,⟨[.sl 0],[.row y4 373]⟩)]⟩
abbrev Cl:Type:=Int×(List Int)×(List (Int×(Int×(Int×Unit))))
abbrev Bt:Type:=(List (Int×(Int×(Int×Unit))))
noncomputable def MA (N:Nat) (f:Cl→Option Bt):Cl→Option Bt
 | (x0,x1,x2) =>
 ac (decide (x0<(↑(List.length x1):Int))) (
  Option.bind (al8 N (x1,x0,(138:Int))) fun y0 =>
  ac (within x0 (List.length x1)) (
   Option.bind (x1[Int.toNat x0]?) fun y1 =>
   ac (y1==(0:Int)) (
    Option.bind (ly N (decide (y0>(10:Int)),x0,y0,x1,x2)) fun y2 =>
    Option.bind (f (IntKind.wrap IntKind.i64 (y2.1+y2.2.1),y2.2.2.1,y2.2.2.2)) fun r=>some r) (
    Option.bind (ly N (false,x0,y0,x1,x2)) fun y3 =>
    Option.bind (f (IntKind.wrap IntKind.i64 (y3.1+y3.2.1),y3.2.2.1,y3.2.2.2)) fun r=>some r)) (
   none )) (
  some (x2))
noncomputable def sr (N:Nat):Nat→Cl→Option Bt
 | 0,_=>none
 | k+1,x=>MA N (sr N k) x
noncomputable def LP (N:Nat) (k:Nat):Cut:=K3.cut (sr N k)
theorem I7 (N:Nat) (k:Nat):al Tryz.prog false Tryz.f360 [] 58 (LP N k) :=
 K3.loopT ag ap (kS N) Tryz.f360 [] (cuts:=[(29863,jf N N),(7465,qx N N)]) ⟨gA N N,oG N N,trivial⟩ (by decide +kernel) (by kernel_rfl) (MA N) (sr N) (fun _=>rfl) (fun _ _=>rfl) (fun f x=>by kernel_rfl) k
@[reducible] def w360:List SP:=[⟨[.sl 0],[.row y4 373]⟩]
noncomputable def am5 (N:Nat):((List Int))→Option ((List (Int×(Int×(Int×Unit)))))
 | x0 =>
 Option.bind (sr N N ((0:Int),x0,[])) fun y0 =>
 some (y0)
noncomputable def aA4 (N:Nat):Pk→Tr Pk:=ah s360 w360 (am5 N)
theorem Vy (N:Nat):aA Tryz.prog (360) (aA4 N) :=
 (af ag ap (kS N) Tryz.func360 s360 w360 [] (cuts:=[(29863,jf N N),(7465,qx N N),(58,LP N N)]) ⟨gA N N,oG N N,I7 N N,trivial⟩ (fun _=>by kernel_rfl) (by decide +kernel) (am5 N) (fun x=>by kernel_rfl))
@[reducible] def s362:SP:=⟨[],[]⟩
noncomputable def YE (N:Nat):List (Nat×(Pk→Tr Pk)):=[]
theorem xl (N:Nat):ai Tryz.prog (YE N):=trivial
@[reducible] def KZ:LD:=⟨58,[1,2],[(.ret,[0]),(.exit 0,[1])],⟨[.sl 0,.int .i64],[.row (.int .i64) 3]⟩,[(.exit 0,⟨[.sl 0],[.row (.int .i64) 3]⟩)]⟩
abbrev Cj:Type:=Int×(List Int)
abbrev Br:Type:=(List Int)
noncomputable def My (N:Nat) (f:Cj→Option Br):Cj→Option Br
 | (x0,x1) =>
 ac (decide (x0<(8:Int))) (
  ac (decide ((List.length x1+List.length [IntKind.wrap IntKind.i64 ((7:Int)+x0),IntKind.wrap IntKind.i64 ((8:Int)-x0)])*(8:Nat)≤(140737488355328:Nat)∧List.length x1+List.length [IntKind.wrap IntKind.i64 ((7:Int)+x0),IntKind.wrap IntKind.i64 ((8:Int)-x0)]≤(140737488355328:Nat))) (
   Option.bind (f (IntKind.wrap IntKind.i64 (x0+(1:Int)),x1++[IntKind.wrap IntKind.i64 ((7:Int)+x0),IntKind.wrap IntKind.i64 ((8:Int)-x0)])) fun r=>some r) (
   none )) (
  some (x1))
noncomputable def so (N:Nat):Nat→Cj→Option Br
 | 0,_=>none
 | k+1,x=>My N (so N k) x
noncomputable def LO (N:Nat) (k:Nat):Cut:=KZ.cut (so N k)
theorem I6 (N:Nat) (k:Nat):al Tryz.prog false Tryz.f362 [] 58 (LO N k) :=
 KZ.loopT ag ap (xl N) Tryz.f362 [] (cuts:=[]) trivial (by decide +kernel) (by kernel_rfl) (My N) (so N) (fun _=>rfl) (fun _ _=>rfl) (fun f x=>by kernel_rfl) k
@[reducible] def w362:List SP:=[⟨[.sl 0],[.row (.int .i64) 3]⟩]
noncomputable def W4 (N:Nat):(Unit)→Option ((List Int))
 | () =>
 Option.bind (so N N ((1:Int),[(16:Int),(17:Int),(18:Int),(0:Int)])) fun y0 =>
 ac (decide ((List.length y0+(1:Nat))*(8:Nat)≤(140737488355328:Nat)∧List.length y0+(1:Nat)≤(140737488355328:Nat))) (
  some (y0++[(15:Int)])) (
  none )
noncomputable def ai1 (N:Nat):Pk→Tr Pk:=ah s362 w362 (W4 N)
theorem Km (N:Nat):aA Tryz.prog (362) (ai1 N) :=
 (af ag ap (xl N) Tryz.func362 s362 w362 [] (cuts:=[(58,LO N N)]) ⟨I6 N N,trivial⟩ (fun _=>by kernel_rfl) (by decide +kernel) (W4 N) (fun x=>by kernel_rfl))
@[reducible] def s341:SP:=⟨[.adr 0 [],.ro (.int .i64),.ro (.int .i64)],[.var 221 (.agg [.sl 1,.int .i64,.int .i64]),.row (.int .u8) 5]⟩
noncomputable def YW (N:Nat):List (Nat×(Pk→Tr Pk)):=[(77,T77 N),(361,ai2 N),(360,aA4 N),(358,ai3 N),(354,ai6 N),(362,ai1 N),(269,H4 N),(222,Wg N)]
theorem eS (N:Nat):ai Tryz.prog (YW N):=⟨ag8 N,Kn N,Vy N,Ko N,Kr N,Km N,lq N,A6 N,trivial⟩
@[reducible] def EQ:LD:=⟨506,[58,57,1,2,8,0,56,9],[(.ret,[6]),(.exit 0,[9,0,8,2,1])],⟨[.int .i64,.int .i64,.ro (.int .i64),.ro (.int .i64),.sl 1,.adr 0 [],.sl 1,.sl 2],[.var 221 (.agg [.sl 3,.int .i64,.int .i64]),.row y4 373,.row (.int .i64) 3,.row (.int .u8) 5]⟩,[(.exit 0,⟨[.sl 1,.adr 0 [],.sl 2,.ro (.int .i64),.ro (.int .i64)],[.var 221 (.agg [.sl 3,.int .i64,.int .i64]),.row (.int .i64) 3,.row y4 373,.row (.int .u8) 5]⟩)]⟩
abbrev vq:Type:=Int×Int×(List Int)×(List Int)×Int×Int×(List (Int×(Int×(Int×Unit))))×(List Int)×(List Int)
abbrev uF:Type:=(List Int)×(List Int)×Int×Int×(List Int)×(List (Int×(Int×(Int×Unit))))×(List Int)
noncomputable def GR (N:Nat) (f:vq→Option uF):vq→Option uF
 | (x0,x1,x2,x3,x4,x5,x6,x7,x8) =>
 ac (decide (x0<x1)) (
  ac (within x0 (List.length x6)) (
   Option.bind (x6[Int.toNat x0]?) fun y0 =>
   ac (within y0.1 (List.length x7)) (
    Option.bind (x7[Int.toNat y0.1]?) fun y1 =>
    ac (within y0.1 (List.length x7)) (
     Option.bind (x7[Int.toNat y0.1]?) fun y2 =>
     Option.bind (f (IntKind.wrap IntKind.i64 (x0+(1:Int)),x1,x2,x3,x4,x5,x6,List.set x7 (Int.toNat y0.1) (IntKind.wrap IntKind.i64 (y1+(1:Int))),x8)) fun r=>some r) (
     none )) (
    none )) (
   none )) (
  some ((x3,x2,x4,x5,x7,x6,x8)))
noncomputable def ou (N:Nat):Nat→vq→Option uF
 | 0,_=>none
 | k+1,x=>GR N (ou N k) x
noncomputable def ij (N:Nat) (k:Nat):Cut:=EQ.cut (ou N k)
theorem ej (N:Nat) (k:Nat):al Tryz.prog false Tryz.f341 [0] 506 (ij N k) :=
 EQ.loopT ag ap (eS N) Tryz.f341 [0] (cuts:=[]) trivial (by decide +kernel) (by kernel_rfl) (GR N) (ou N) (fun _=>rfl) (fun _ _=>rfl) (fun f x=>by kernel_rfl) k
@[reducible] def yL:LD:=⟨8188,[17,12,0,8,14,16,2,1],[(.ret,[6]),(.exit 2,[1,2,16,17,14,8,0,12])],⟨[.int .i64,.sl 1,.adr 0 [],.sl 2,.sl 3,.sl 4,.ro (.int .i64),.ro (.int .i64)],[.var 221 (.agg [.sl 5,.int .i64,.int .i64]),.row (.int .i64) 3,.row y4 373,.row y0 248,.row (.int .i64) 3,.row (.int .u8) 5]⟩,[(.exit 2,⟨[.ro (.int .i64),.ro (.int .i64),.sl 1,.int .i64,.sl 2,.sl 3,.adr 0 [],.sl 4],[.var 221 (.agg [.sl 5,.int .i64,.int .i64]),.row (.int .i64) 3,.row y0 248,.row y4 373,.row (.int .i64) 3,.row (.int .u8) 5]⟩)]⟩
abbrev qk:Type:=Int×(List Int)×(List Int)×Int×Int×(List Int)×(List (Int×(Int×(Int×Unit))))×(List (Int×(Int×Unit)))×(List Int)×(List Int)
abbrev pW:Type:=(List Int)×(List Int)×Int×Int×Int×(List Int)×(List (Int×(Int×Unit)))×(List (Int×(Int×(Int×Unit))))×(List Int)×(List Int)
noncomputable def zG (N:Nat) (f:qk→Option pW):qk→Option pW
 | (x0,x1,x2,x3,x4,x5,x6,x7,x8,x9) =>
 ac (decide (x0>(4:Int))) (
  ac (within (IntKind.wrap IntKind.i64 (x0-(1:Int))) (List.length x8)) (
   Option.bind (x8[Int.toNat (IntKind.wrap IntKind.i64 (x0-(1:Int)))]?) fun y0 =>
   ac (within y0 (List.length x5)) (
    Option.bind (x5[Int.toNat y0]?) fun y1 =>
    ac (y1==(0:Int)) (
     Option.bind (f (IntKind.wrap IntKind.i64 (x0-(1:Int)),x1,x2,x3,x4,x5,x6,x7,x8,x9)) fun r=>some r) (
     some ((x2,x1,x0,x3,x4,x8,x7,x6,x5,x9)))) (
    none )) (
   none )) (
  some ((x2,x1,x0,x3,x4,x8,x7,x6,x5,x9)))
noncomputable def lE (N:Nat):Nat→qk→Option pW
 | 0,_=>none
 | k+1,x=>zG N (lE N k) x
noncomputable def ii (N:Nat) (k:Nat):Cut:=yL.cut (lE N k)
theorem eQ (N:Nat) (k:Nat):al Tryz.prog false Tryz.f341 [0] 8188 (ii N k) :=
 yL.loopT ag ap (eS N) Tryz.f341 [0] (cuts:=[(506,ij N N)]) ⟨ej N N,trivial⟩ (by decide +kernel) (by kernel_rfl) (zG N) (lE N) (fun _=>rfl) (fun _ _=>rfl) (fun f x=>by kernel_rfl) k
@[reducible] def q6:LD:=⟨262138,[116,115,14,8,114,0,12],[(.ret,[6]),(.exit 4,[8,14,0])],⟨[.int .i64,.int .i64,.sl 1,.sl 2,.slp 3 (.c 0) .h,.adr 0 [],.sl 4],[.var 221 (.agg [.sl 5,.int .i64,.int .i64]),.row y0 248,.row y4 373,.row (.int .i64) 3,.row (.int .i64) 3,.row (.int .u8) 5]⟩,[(.exit 4,⟨[.sl 1,.sl 2,.adr 0 []],[.var 221 (.agg [.sl 3,.int .i64,.int .i64]),.row y4 373,.row y0 248,.row (.int .u8) 5]⟩)]⟩
abbrev kj:Type:=Int×Int×Nat×Int×Int×(List (Int×(Int×Unit)))×(List (Int×(Int×(Int×Unit))))×(List Int)×(List Int)×(List Int)
abbrev j6:Type:=Int×Int×(List (Int×(Int×(Int×Unit))))×(List (Int×(Int×Unit)))×(List Int)
noncomputable def rp (N:Nat) (f:kj→Option j6):kj→Option j6
 | (x0,x1,x2,x3,x4,x5,x6,x7,x8,x9) =>
 ac (decide (x0<x1)) (
  ac (within x0 x2) (
   Option.bind (x7[(0:Nat)+Int.toNat x0]?) fun y0 =>
   ac (within y0 (List.length x8)) (
    Option.bind (x8[Int.toNat y0]?) fun y1 =>
    Option.bind (eF N ((3:Int),y1,x3,x4,x9)) fun y2 =>
    Option.bind (f (IntKind.wrap IntKind.i64 (x0+(1:Int)),x1,x2,y2.1,y2.2.1,x5,x6,x7,x8,y2.2.2)) fun r=>some r) (
    none )) (
   none )) (
  some ((x3,x4,x6,x5,x9)))
noncomputable def gf (N:Nat):Nat→kj→Option j6
 | 0,_=>none
 | k+1,x=>rp N (gf N k) x
noncomputable def gj (N:Nat) (k:Nat):Cut:=q6.cut (gf N k)
theorem fI (N:Nat) (k:Nat):al Tryz.prog false Tryz.f341 [0] 262138 (gj N k) :=
 q6.loopT ag ap (eS N) Tryz.f341 [0] (cuts:=[(506,ij N N),(8188,ii N N)]) ⟨ej N N,eQ N N,trivial⟩ (by decide +kernel) (by kernel_rfl) (rp N) (gf N) (fun _=>rfl) (fun _ _=>rfl) (fun f x=>by kernel_rfl) k
@[reducible] def q5:LD:=⟨524282,[129,128,127,14,0],[(.ret,[6]),(.exit 6,[])],⟨[.int .i64,.int .i64,.sl 1,.sl 2,.adr 0 []],[.var 221 (.agg [.sl 3,.int .i64,.int .i64]),.row y4 373,.row y0 248,.row (.int .u8) 5]⟩,[(.exit 6,⟨[],[.var 221 (.agg [.sl 1,.int .i64,.int .i64]),.row (.int .u8) 5]⟩)]⟩
abbrev ki:Type:=Int×Int×Int×Int×(List (Int×(Int×(Int×Unit))))×(List (Int×(Int×Unit)))×(List Int)
abbrev j5:Type:=Int×Int×(List Int)
noncomputable def rm (N:Nat) (f:ki→Option j5):ki→Option j5
 | (x0,x1,x2,x3,x4,x5,x6) =>
 ac (decide (x0<x1)) (
  ac (within x0 (List.length x4)) (
   Option.bind (x4[Int.toNat x0]?) fun y0 =>
   ac (within y0.1 (List.length x5)) (
    Option.bind (x5[Int.toNat y0.1]?) fun y1 =>
    Option.bind (wR N (y1.1,y1.2.1,x2,x3,x6)) fun y2 =>
    Option.bind (eF N (y0.2.1,y0.2.2.1,y2.1,y2.2.1,y2.2.2)) fun y3 =>
    Option.bind (f (IntKind.wrap IntKind.i64 (x0+(1:Int)),x1,y3.1,y3.2.1,x4,x5,y3.2.2)) fun r=>some r) (
    none )) (
   none )) (
  some ((x2,x3,x6)))
noncomputable def gb (N:Nat):Nat→ki→Option j5
 | 0,_=>none
 | k+1,x=>rm N (gb N k) x
noncomputable def kH (N:Nat) (k:Nat):Cut:=q5.cut (gb N k)
theorem kG (N:Nat) (k:Nat):al Tryz.prog false Tryz.f341 [0] 524282 (kH N k) :=
 q5.loopT ag ap (eS N) Tryz.f341 [0] (cuts:=[(506,ij N N),(8188,ii N N),(262138,gj N N)]) ⟨ej N N,eQ N N,fI N N,trivial⟩ (by decide +kernel) (by kernel_rfl) (rm N) (gb N) (fun _=>rfl) (fun _ _=>rfl) (fun f x=>by kernel_rfl) k
@[reducible] def K7:LD:=⟨15,[1,2,0],[(.ret,[6]),(.normal,[6])],⟨[.ro (.int .i64),.ro (.int .i64),.adr 0 []],[.var 221 (.agg [.sl 1,.int .i64,.int .i64]),.row (.int .u8) 5]⟩,[(.ret,⟨[.int .i64],[.var 221 (.agg [.sl 1,.int .i64,.int .i64]),.row (.int .u8) 5]⟩)]⟩
noncomputable def CV (N:Nat):((List Int)×(List Int)×Int×Int×(List Int))→Option (Int×Int×Int×(List Int))
 | (x0,x1,x2,x3,x4) =>
 Option.bind (W5 N [x0,x1]) fun y0 =>
 Option.bind (am5 N y0) fun y1 =>
 Option.bind (ou N N ((0:Int),(↑(List.length y1):Int),x0,x1,x2,x3,y1,List.replicate (19:Nat) (0:Int),x4)) fun(y2_0,y2_1,y2_2,y2_3,y2_4,y2_5,y2_6) =>
 Option.bind (W6 N (y2_4,(7:Int))) fun y3 =>
 Option.bind (SL N y3.2) fun y4 =>
 Option.bind (W4 N ()) fun y5 =>
 Option.bind (lE N N ((↑(List.length y5):Int),y2_0,y2_1,y2_2,y2_3,y3.2,y2_5,y4.2,y5,y2_6)) fun(y6_0,y6_1,y6_2,y6_3,y6_4,y6_5,y6_6,y6_7,y6_8,y6_9) =>
 Option.bind (eF N ((5:Int),IntKind.wrap IntKind.i64 ((↑(List.length y6_0):Int)-(257:Int)),y6_3,y6_4,y6_9)) fun y7 =>
 Option.bind (eF N ((5:Int),IntKind.wrap IntKind.i64 ((↑(List.length y6_1):Int)-(1:Int)),y7.1,y7.2.1,y7.2.2)) fun y8 =>
 Option.bind (eF N ((4:Int),IntKind.wrap IntKind.i64 (y6_2-(4:Int)),y8.1,y8.2.1,y8.2.2)) fun y9 =>
 ac (decide ((0:Int)≤y6_2∧y6_2≤(↑(List.length y6_5):Int))) (
  Option.bind (gf N N ((0:Int),(↑(Int.toNat y6_2-(0:Nat)):Int),Int.toNat y6_2-(0:Nat),y9.1,y9.2.1,y6_6,y6_7,y6_5,y6_8,y9.2.2)) fun y10 =>
  Option.bind (gb N N ((0:Int),(↑(List.length y10.2.2.1):Int),y10.1,y10.2.1,y10.2.2.1,y10.2.2.2.1,y10.2.2.2.2)) fun y11 =>
  some (((0:Int),y11.1,y11.2.1,y11.2.2))) (
  none )
noncomputable def LU (N:Nat) (_:Nat):Cut:=K7.cut (CV N)
theorem Jb (N:Nat) (k:Nat):al Tryz.prog false Tryz.f341 [0] 15 (LU N k) :=
 K7.pieceT ag ap (eS N) Tryz.f341 [0] (cuts:=[(506,ij N N),(8188,ii N N),(262138,gj N N),(524282,kH N N)]) ⟨ej N N,eQ N N,fI N N,kG N N,trivial⟩ (by decide +kernel) (by kernel_rfl) (CV N) (fun x=>by kernel_rfl)
@[reducible] def w341:List SP:=[⟨[.int .i64],[.var 221 (.agg [.sl 1,.int .i64,.int .i64]),.row (.int .u8) 5]⟩]
noncomputable def an0 (N:Nat):((List Int)×(List Int)×Int×Int×(List Int))→Option (Int×Int×Int×(List Int))
 | (x0,x1,x2,x3,x4) =>
 ac (decide ((↑(List.length x0):Int)<(257:Int))) (
  some (((1:Int),x2,x3,x4))) (
  ac (decide ((↑(List.length x0):Int)>(286:Int))) (
   some (((1:Int),x2,x3,x4))) (
   ac (decide ((↑(List.length x1):Int)<(1:Int))) (
    some (((1:Int),x2,x3,x4))) (
    ac (decide ((↑(List.length x1):Int)>(30:Int))) (
     some (((1:Int),x2,x3,x4))) (
     Option.bind (F77 N x0) fun y0 =>
     ac (y0) (
      some (((1:Int),x2,x3,x4))) (
      Option.bind (F77 N x1) fun y1 =>
      ac (y1) (
       some (((1:Int),x2,x3,x4))) (
       Option.bind (CV N (x0,x1,x2,x3,x4)) fun y2 =>
       some ((y2.1,y2.2.1,y2.2.2.1,y2.2.2.2))))))))
noncomputable def aB5 (N:Nat):Pk→Tr Pk:=ah s341 w341 (an0 N)
theorem VJ (N:Nat):aA Tryz.prog (341) (aB5 N) :=
 (af ag ap (eS N) Tryz.func341 s341 w341 [0] (cuts:=[(506,ij N N),(8188,ii N N),(262138,gj N N),(524282,kH N N),(15,LU N N)]) ⟨ej N N,eQ N N,fI N N,kG N N,Jb N N,trivial⟩ (fun _=>by kernel_rfl) (by decide +kernel) (an0 N) (fun x=>by kernel_rfl))
@[reducible] def s323:SP:=⟨[.adr 0 [],.ro y4,.bool,.bool],[.var 221 (.agg [.sl 1,.int .i64,.int .i64]),.row (.int .u8) 5]⟩
noncomputable def Y9 (N:Nat):List (Nat×(Pk→Tr Pk)):=[(335,RY N),(271,aj3 N),(336,ai9 N),(337,aB8 N),(338,ai8 N),(340,aB6 N),(339,aB7 N),(341,aB5 N)]
theorem xr (N:Nat):ai Tryz.prog (Y9 N):=⟨rU N,Ky N,Kv N,VM N,Ku N,VK N,VL N,VJ N,trivial⟩
@[reducible] def La:LD:=⟨26,[19,1,0,3,2,18,20],[(.ret,[8]),(.exit 0,[2,3,0,1])],⟨[.int .i64,.ro y4,.adr 0 [],.bool,.bool,.ro y4,.int .i64],[.var 221 (.agg [.sl 1,.int .i64,.int .i64]),.row (.int .u8) 5]⟩,[(.ret,⟨[.int .i64],[.var 221 (.agg [.sl 1,.int .i64,.int .i64]),.row (.int .u8) 5]⟩),(.exit 0,⟨[.bool,.bool,.adr 0 [],.ro y4],[.var 221 (.agg [.sl 1,.int .i64,.int .i64]),.row (.int .u8) 5]⟩)]⟩
abbrev Cq:Type:=Int×(List (Int×(Int×(Int×Unit))))×Bool×Bool×(List (Int×(Int×(Int×Unit))))×Int×Int×Int×(List Int)
abbrev Bz:Type:=((Int×Int×Int×(List Int))⊕(Bool×Bool×(List (Int×(Int×(Int×Unit))))×Int×Int×(List Int)))
noncomputable def MF (N:Nat) (f:Cq→Option Bz):Cq→Option Bz
 | (x0,x1,x2,x3,x4,x5,x6,x7,x8) =>
 ac (decide (x5<x0)) (
  ac (within x5 (List.length x4)) (
   Option.bind (x4[Int.toNat x5]?) fun y0 =>
   Option.bind (O3 N (y0.1,y0.2.1,y0.2.2.1)) fun y1 =>
   ac (!y1) (
    some (.inl (((1:Int),x6,x7,x8)))) (
    Option.bind (f (x0,x1,x2,x3,x4,IntKind.wrap IntKind.i64 (x5+(1:Int)),x6,x7,x8)) fun r=>match r with|.inl y=>some (.inl y)|.inr y=>some (.inr y))) (
   none )) (
  some (.inr ((x3,x2,x1,x6,x7,x8))))
noncomputable def sy (N:Nat):Nat→Cq→Option Bz
 | 0,_=>none
 | k+1,x=>MF N (sy N k) x
noncomputable def LW (N:Nat) (k:Nat):Cut:=La.cut (sy N k)
theorem Jd (N:Nat) (k:Nat):al Tryz.prog false Tryz.f323 [0] 26 (LW N k) :=
 La.loopT ag ap (xr N) Tryz.f323 [0] (cuts:=[]) trivial (by decide +kernel) (by kernel_rfl) (MF N) (sy N) (fun _=>rfl) (fun _ _=>rfl) (fun f x=>by kernel_rfl) k
@[reducible] def w323:List SP:=[⟨[.int .i64],[.var 221 (.agg [.sl 1,.int .i64,.int .i64]),.row (.int .u8) 5]⟩]
noncomputable def an4 (N:Nat):((List (Int×(Int×(Int×Unit))))×Bool×Bool×Int×Int×(List Int))→Option (Int×Int×Int×(List Int))
 | (x0,x1,x2,x3,x4,x5) =>
 Option.bind (sy N N ((↑(List.length x0):Int),x0,x2,x1,x0,(0:Int),x3,x4,x5)) fun y0 =>
 match y0 with
 | .inl y1 =>
  some ((y1.1,y1.2.1,y1.2.2.1,y1.2.2.2))
 | .inr (y1_0,y1_1,y1_2,y1_3,y1_4,y1_5) =>
  ac (!y1_0) (
   Option.bind (O7 N (y1_1,(1:Int),y1_3,y1_4,y1_5)) fun y2 =>
   Option.bind (Xe N ()) fun y3 =>
   Option.bind (Xd N (y3.1,y3.2,y1_2,y2.1,y2.2.1,y2.2.2)) fun y4 =>
   some ((y4.1,y4.2.1,y4.2.2.1,y4.2.2.2))) (
   Option.bind (Xc N y1_2) fun y5 =>
   Option.bind (Xa N y5.1) fun y6 =>
   Option.bind (Xb N (y6,(257:Int))) fun y7 =>
   Option.bind (Xa N y5.2) fun y8 =>
   Option.bind (Xb N (y8,(1:Int))) fun y9 =>
   Option.bind (O7 N (y1_1,(2:Int),y1_3,y1_4,y1_5)) fun y10 =>
   Option.bind (an0 N (y7,y9,y10.1,y10.2.1,y10.2.2)) fun y11 =>
   ac (y11.1 != (0:Int)) (
    some ((y11.1,y11.2.1,y11.2.2.1,y11.2.2.2))) (
    Option.bind (Xd N (y7,y9,y1_2,y11.2.1,y11.2.2.1,y11.2.2.2)) fun y12 =>
    some ((y12.1,y12.2.1,y12.2.2.1,y12.2.2.2))))
noncomputable def aC3 (N:Nat):Pk→Tr Pk:=ah s323 w323 (an4 N)
theorem VR (N:Nat):aA Tryz.prog (323) (aC3 N) :=
 (af ag ap (xr N) Tryz.func323 s323 w323 [0] (cuts:=[(26,LW N N)]) ⟨Jd N N,trivial⟩ (fun _=>by kernel_rfl) (by decide +kernel) (an4 N) (fun x=>by kernel_rfl))
@[reducible] def s322:SP:=⟨[.adr 0 [],.adr 1 [],.adr 2 [],.adr 3 []],[.var 221 (.agg [.sl 4,.int .i64,.int .i64]),.var 278 (.ro y4),.var 4 (.bool),.var 4 (.bool),.row (.int .u8) 5]⟩
noncomputable def Za (N:Nat):List (Nat×(Pk→Tr Pk)):=[(323,aC3 N)]
theorem Np (N:Nat):ai Tryz.prog (Za N):=⟨VR N,trivial⟩
@[reducible] def w322:List SP:=[⟨[.tup []],[.var 221 (.agg [.sl 4,.int .i64,.int .i64]),.var 278 (.ro y4),.var 4 (.bool),.var 4 (.bool),.row (.int .u8) 5]⟩]
noncomputable def SS (N:Nat):(Int×Int×(List (Int×(Int×(Int×Unit))))×Bool×Bool×(List Int))→Option (Int×Int×(List (Int×(Int×(Int×Unit))))×Bool×Bool×(List Int))
 | (x0,x1,x2,x3,x4,x5) =>
 Option.bind (an4 N (x2,x3,x4,x0,x1,x5)) fun y0 =>
 some ((y0.2.1,y0.2.2.1,x2,x3,x4,y0.2.2.2))
noncomputable def aj1 (N:Nat):Pk→Tr Pk:=ah s322 w322 (SS N)
theorem Kw (N:Nat):aA Tryz.prog (322) (aj1 N) :=
 (af ag ap (Np N) Tryz.func322 s322 w322 [0,1,2,3] (cuts:=[]) trivial (fun _=>by kernel_rfl) (by decide +kernel) (SS N) (fun x=>by kernel_rfl))
@[reducible] def s324:SP:=⟨[.radr y3 [.i 0 3]],[]⟩
noncomputable def Y8 (N:Nat):List (Nat×(Pk→Tr Pk)):=[]
theorem No (N:Nat):ai Tryz.prog (Y8 N):=trivial
@[reducible] def w324:List SP:=[⟨[.int .i64],[]⟩]
noncomputable def an3 (N:Nat):(((List Int)×(Int×(Int×Unit))))→Option (Int)
 | x0 =>
 some (IntKind.wrap IntKind.i64 (IntKind.wrap IntKind.i64 ((8:Int)*(↑(List.length x0.1):Int))+x0.2.2.1))
noncomputable def aC2 (N:Nat):Pk→Tr Pk:=ah s324 w324 (an3 N)
theorem VQ (N:Nat):aA Tryz.prog (324) (aC2 N) :=
 (af ag ap (No N) Tryz.func324 s324 w324 [] (cuts:=[]) trivial (fun _=>by kernel_rfl) (by decide +kernel) (an3 N) (fun x=>by kernel_rfl))
@[reducible] def s290:SP:=⟨[.ro y4,.bool,.bool],[]⟩
noncomputable def Zh (N:Nat):List (Nat×(Pk→Tr Pk)):=[(322,aj1 N),(324,aC2 N)]
theorem Nv (N:Nat):ai Tryz.prog (Zh N):=⟨Kw N,VQ N,trivial⟩
@[reducible] def w290:List SP:=[⟨[.agg [.int .i64,.clo 322 [.adr 0 [],.adr 1 [],.adr 2 []]]],[.var 278 (.ro y4),.var 4 (.bool),.var 4 (.bool)]⟩]
noncomputable def Xg (N:Nat):((List (Int×(Int×(Int×Unit))))×Bool×Bool)→Option (Int×(List (Int×(Int×(Int×Unit))))×Bool×Bool)
 | (x0,x1,x2) =>
 Option.bind (SS N ((0:Int),(0:Int),x0,x1,x2,[])) fun(y0_0,y0_1,y0_2,y0_3,y0_4,y0_5) =>
 Option.bind (an3 N (y0_5,y0_0,y0_1,())) fun y1 =>
 some ((y1,y0_2,y0_3,y0_4))
noncomputable def aC7 (N:Nat):Pk→Tr Pk:=ah s290 w290 (Xg N)
theorem VX (N:Nat):aA Tryz.prog (290) (aC7 N) :=
 (af ag ap (Nv N) Tryz.func290 s290 w290 [] (cuts:=[]) trivial (fun _=>by kernel_rfl) (by decide +kernel) (Xg N) (fun x=>by kernel_rfl))
@[reducible] def s289:SP:=⟨[.agg [.int .i64,.clo 322 [.adr 0 [],.adr 1 [],.adr 2 []]],.agg [.int .i64,.clo 322 [.adr 3 [],.adr 4 [],.adr 5 []]]],[.var 278 (.ro y4),.var 4 (.bool),.var 4 (.bool),.var 278 (.ro y4),.var 4 (.bool),.var 4 (.bool)]⟩
noncomputable def Zi (N:Nat):List (Nat×(Pk→Tr Pk)):=[]
theorem Nw (N:Nat):ai Tryz.prog (Zi N):=trivial
@[reducible] def w289:List SP:=[⟨[.agg [.int .i64,.clo 322 [.adr 3 [],.adr 4 [],.adr 5 []]]],[.var 278 (.ro y4),.var 4 (.bool),.var 4 (.bool),.var 278 (.ro y4),.var 4 (.bool),.var 4 (.bool)]⟩,⟨[.agg [.int .i64,.clo 322 [.adr 0 [],.adr 1 [],.adr 2 []]]],[.var 278 (.ro y4),.var 4 (.bool),.var 4 (.bool),.var 278 (.ro y4),.var 4 (.bool),.var 4 (.bool)]⟩]
noncomputable def ao1 (N:Nat):(Int×Int×(List (Int×(Int×(Int×Unit))))×Bool×Bool×(List (Int×(Int×(Int×Unit))))×Bool×Bool)→Option (((Int×(List (Int×(Int×(Int×Unit))))×Bool×Bool×(List (Int×(Int×(Int×Unit))))×Bool×Bool)⊕(Int×(List (Int×(Int×(Int×Unit))))×Bool×Bool×(List (Int×(Int×(Int×Unit))))×Bool×Bool)))
 | (x0,x1,x2,x3,x4,x5,x6,x7) =>
 ac (decide (x1<x0)) (
  some (.inl ((x1,x2,x3,x4,x5,x6,x7)))) (
  some (.inr ((x0,x2,x3,x4,x5,x6,x7))))
noncomputable def aC8 (N:Nat):Pk→Tr Pk:=ah s289 w289 (ao1 N)
theorem VY (N:Nat):aA Tryz.prog (289) (aC8 N) :=
 (af ag ap (Nw N) Tryz.func289 s289 w289 [0,1,2,3,4,5] (cuts:=[]) trivial (fun _=>by kernel_rfl) (by decide +kernel) (ao1 N) (fun x=>by kernel_rfl))
@[reducible] def s289a:SP:=⟨[.agg [.int .i64,.clo 288 [.adr 0 [],.adr 1 []]],.agg [.int .i64,.clo 322 [.adr 2 [],.adr 3 [],.adr 4 []]]],[.var 9 (.str),.var 4 (.bool),.var 278 (.ro y4),.var 4 (.bool),.var 4 (.bool)]⟩
noncomputable def Ua (N:Nat):List (Nat×(Pk→Tr Pk)):=[]
theorem Hf (N:Nat):ai Tryz.prog (Ua N):=trivial
@[reducible] def w289a:List SP:=[⟨[.agg [.int .i64,.clo 322 [.adr 2 [],.adr 3 [],.adr 4 []]]],[.var 9 (.str),.var 4 (.bool),.var 278 (.ro y4),.var 4 (.bool),.var 4 (.bool)]⟩,⟨[.agg [.int .i64,.clo 288 [.adr 0 [],.adr 1 []]]],[.var 9 (.str),.var 4 (.bool),.var 278 (.ro y4),.var 4 (.bool),.var 4 (.bool)]⟩]
noncomputable def Lv (N:Nat):(Int×Int×ByteArray×Bool×(List (Int×(Int×(Int×Unit))))×Bool×Bool)→Option (((Int×ByteArray×Bool×(List (Int×(Int×(Int×Unit))))×Bool×Bool)⊕(Int×ByteArray×Bool×(List (Int×(Int×(Int×Unit))))×Bool×Bool)))
 | (x0,x1,x2,x3,x4,x5,x6) =>
 ac (decide (x1<x0)) (
  some (.inl ((x1,x2,x3,x4,x5,x6)))) (
  some (.inr ((x0,x2,x3,x4,x5,x6))))
noncomputable def XY (N:Nat):Pk→Tr Pk:=ah s289a w289a (Lv N)
theorem Sa (N:Nat):aA Tryz.prog (289) (XY N) :=
 (af ag ap (Hf N) Tryz.func289 s289a w289a [0,1,2,3,4] (cuts:=[]) trivial (fun _=>by kernel_rfl) (by decide +kernel) (Lv N) (fun x=>by kernel_rfl))
@[reducible] def s272:SP:=⟨[.adr 0 [],.str],[.var 221 (.agg [.sl 1,.int .i64,.int .i64]),.row (.int .u8) 5]⟩
noncomputable def Zn (N:Nat):List (Nat×(Pk→Tr Pk)):=[(223,We N)]
theorem NA (N:Nat):ai Tryz.prog (Zn N):=⟨A5 N,trivial⟩
@[reducible] def w272:List SP:=[⟨[.tup []],[.var 221 (.agg [.sl 1,.int .i64,.int .i64]),.row (.int .u8) 5]⟩]
noncomputable def Xk (N:Nat):(ByteArray×Int×Int×(List Int))→Option (Int×Int×(List Int))
 | (x0,x1,x2,x3) =>
 Option.bind (CY N (x1,x2,x3)) fun y0 =>
 ac (decide ((List.length y0.2.2+List.length (bytesOf x0))*(1:Nat)≤(140737488355328:Nat)∧List.length y0.2.2+List.length (bytesOf x0)≤(140737488355328:Nat))) (
  some ((y0.1,y0.2.1,y0.2.2++bytesOf x0))) (
  none )
noncomputable def aD3 (N:Nat):Pk→Tr Pk:=ah s272 w272 (Xk N)
theorem V3 (N:Nat):aA Tryz.prog (272) (aD3 N) :=
 (af ag ap (NA N) Tryz.func272 s272 w272 [0] (cuts:=[]) trivial (fun _=>by kernel_rfl) (by decide +kernel) (Xk N) (fun x=>by kernel_rfl))
@[reducible] def s228:SP:=⟨[.adr 0 [],.str,.bool],[.var 221 (.agg [.sl 1,.int .i64,.int .i64]),.row (.int .u8) 5]⟩
noncomputable def ZB (N:Nat):List (Nat×(Pk→Tr Pk)):=[(271,aj3 N),(223,We N),(269,H4 N),(272,aD3 N)]
theorem xA (N:Nat):ai Tryz.prog (ZB N):=⟨Ky N,A5 N,lq N,V3 N,trivial⟩
@[reducible] def Sr:LD:=⟨2,[1,2,0],[(.ret,[])],⟨[.str,.bool,.adr 0 []],[.var 221 (.agg [.sl 1,.int .i64,.int .i64]),.row (.int .u8) 5]⟩,[(.ret,⟨[],[.var 221 (.agg [.sl 1,.int .i64,.int .i64]),.row (.int .u8) 5]⟩)]⟩
abbrev Iv:Type:=ByteArray×Bool×Int×Int×(List Int)
abbrev Ih:Type:=Int×Int×(List Int)
noncomputable def TN (N:Nat) (f:Iv→Option Ih):Iv→Option Ih
 | (x0,x1,x2,x3,x4) =>
 ac (x1) (
  Option.bind (O7 N ((if (65535:Int)<(↑(ByteArray.size x0):Int) then (65535:Int) else (↑(ByteArray.size x0):Int))==(↑(ByteArray.size x0):Int),(0:Int),x2,x3,x4)) fun y0 =>
  Option.bind (CY N (y0.1,y0.2.1,y0.2.2)) fun y1 =>
  Option.bind (eF N ((16:Int),if (65535:Int)<(↑(ByteArray.size x0):Int) then (65535:Int) else (↑(ByteArray.size x0):Int),y1.1,y1.2.1,y1.2.2)) fun y2 =>
  Option.bind (eF N ((16:Int),IntKind.wrap IntKind.i64 (↑(BitVec.toNat (BitVec.ofInt (64:Nat) (if (65535:Int)<(↑(ByteArray.size x0):Int) then (65535:Int) else (↑(ByteArray.size x0):Int)) ^^^ BitVec.ofInt (64:Nat) (65535:Int))):Int),y2.1,y2.2.1,y2.2.2)) fun y3 =>
  ac (decide (((0:Int)≤if (65535:Int)<(↑(ByteArray.size x0):Int) then (65535:Int) else (↑(ByteArray.size x0):Int))∧(if (65535:Int)<(↑(ByteArray.size x0):Int) then (65535:Int) else (↑(ByteArray.size x0):Int))≤(↑(ByteArray.size x0):Int))) (
   Option.bind (Xk N (ByteArray.extract x0 (0:Nat) (Int.toNat (if (65535:Int)<(↑(ByteArray.size x0):Int) then (65535:Int) else (↑(ByteArray.size x0):Int))),y3.1,y3.2.1,y3.2.2)) fun y4 =>
   ac (decide (((0:Int)≤if (65535:Int)<(↑(ByteArray.size x0):Int) then (65535:Int) else (↑(ByteArray.size x0):Int))∧(if (65535:Int)<(↑(ByteArray.size x0):Int) then (65535:Int) else (↑(ByteArray.size x0):Int))≤(↑(ByteArray.size x0):Int))) (
    ac (ByteArray.toList (ByteArray.extract x0 (Int.toNat (if (65535:Int)<(↑(ByteArray.size x0):Int) then (65535:Int) else (↑(ByteArray.size x0):Int))) (ByteArray.size x0))==[]) (
     some ((y4.1,y4.2.1,y4.2.2))) (
     Option.bind (f (ByteArray.extract x0 (Int.toNat (if (65535:Int)<(↑(ByteArray.size x0):Int) then (65535:Int) else (↑(ByteArray.size x0):Int))) (ByteArray.size x0),x1,y4.1,y4.2.1,y4.2.2)) fun r=>some r)) (
    none )) (
   none )) (
  Option.bind (O7 N (false,(0:Int),x2,x3,x4)) fun y5 =>
  Option.bind (CY N (y5.1,y5.2.1,y5.2.2)) fun y6 =>
  Option.bind (eF N ((16:Int),if (65535:Int)<(↑(ByteArray.size x0):Int) then (65535:Int) else (↑(ByteArray.size x0):Int),y6.1,y6.2.1,y6.2.2)) fun y7 =>
  Option.bind (eF N ((16:Int),IntKind.wrap IntKind.i64 (↑(BitVec.toNat (BitVec.ofInt (64:Nat) (if (65535:Int)<(↑(ByteArray.size x0):Int) then (65535:Int) else (↑(ByteArray.size x0):Int)) ^^^ BitVec.ofInt (64:Nat) (65535:Int))):Int),y7.1,y7.2.1,y7.2.2)) fun y8 =>
  ac (decide (((0:Int)≤if (65535:Int)<(↑(ByteArray.size x0):Int) then (65535:Int) else (↑(ByteArray.size x0):Int))∧(if (65535:Int)<(↑(ByteArray.size x0):Int) then (65535:Int) else (↑(ByteArray.size x0):Int))≤(↑(ByteArray.size x0):Int))) (
   Option.bind (Xk N (ByteArray.extract x0 (0:Nat) (Int.toNat (if (65535:Int)<(↑(ByteArray.size x0):Int) then (65535:Int) else (↑(ByteArray.size x0):Int))),y8.1,y8.2.1,y8.2.2)) fun y9 =>
   ac (decide (((0:Int)≤if (65535:Int)<(↑(ByteArray.size x0):Int) then (65535:Int) else (↑(ByteArray.size x0):Int))∧(if (65535:Int)<(↑(ByteArray.size x0):Int) then (65535:Int) else (↑(ByteArray.size x0):Int))≤(↑(ByteArray.size x0):Int))) (
    ac (ByteArray.toList (ByteArray.extract x0 (Int.toNat (if (65535:Int)<(↑(ByteArray.size x0):Int) then (65535:Int) else (↑(ByteArray.size x0):Int))) (ByteArray.size x0))==[]) (
     some ((y9.1,y9.2.1,y9.2.2))) (
     Option.bind (f (ByteArray.extract x0 (Int.toNat (if (65535:Int)<(↑(ByteArray.size x0):Int) then (65535:Int) else (↑(ByteArray.size x0):Int))) (ByteArray.size x0),x1,y9.1,y9.2.1,y9.2.2)) fun r=>some r)) (
    none )) (
   none ))
noncomputable def CX (N:Nat):Nat→Iv→Option Ih
 | 0,_=>none
 | k+1,x=>TN N (CX N k) x
noncomputable def TH (N:Nat) (k:Nat):Cut:=Sr.cut (CX N k)
theorem Px (N:Nat) (k:Nat):al Tryz.prog false Tryz.f228 [0] 2 (TH N k) :=
 Sr.loopT ag ap (xA N) Tryz.f228 [0] (cuts:=[]) trivial (by decide +kernel) (by kernel_rfl) (TN N) (CX N) (fun _=>rfl) (fun _ _=>rfl) (fun f x=>by kernel_rfl) k
@[reducible] def w228:List SP:=[⟨[.tup []],[.var 221 (.agg [.sl 1,.int .i64,.int .i64]),.row (.int .u8) 5]⟩]
noncomputable def S5 (N:Nat):(ByteArray×Bool×Int×Int×(List Int))→Option (Int×Int×(List Int))
 | (x0,x1,x2,x3,x4) =>
 Option.bind (CX N N (x0,x1,x2,x3,x4)) fun y0 =>
 some ((y0.1,y0.2.1,y0.2.2))
noncomputable def aj8 (N:Nat):Pk→Tr Pk:=ah s228 w228 (S5 N)
theorem KC (N:Nat):aA Tryz.prog (228) (aj8 N) :=
 (af ag ap (xA N) Tryz.func228 s228 w228 [0] (cuts:=[(2,TH N N)]) ⟨Px N N,trivial⟩ (fun _=>by kernel_rfl) (by decide +kernel) (S5 N) (fun x=>by kernel_rfl))
@[reducible] def s288:SP:=⟨[.adr 0 [],.adr 1 [],.adr 2 []],[.var 221 (.agg [.sl 3,.int .i64,.int .i64]),.var 9 (.str),.var 4 (.bool),.row (.int .u8) 5]⟩
noncomputable def Zj (N:Nat):List (Nat×(Pk→Tr Pk)):=[(228,aj8 N)]
theorem Nx (N:Nat):ai Tryz.prog (Zj N):=⟨KC N,trivial⟩
@[reducible] def w288:List SP:=[⟨[.tup []],[.var 221 (.agg [.sl 3,.int .i64,.int .i64]),.var 9 (.str),.var 4 (.bool),.row (.int .u8) 5]⟩]
noncomputable def Xi (N:Nat):(Int×Int×ByteArray×Bool×(List Int))→Option (Int×Int×ByteArray×Bool×(List Int))
 | (x0,x1,x2,x3,x4) =>
 Option.bind (S5 N (x2,x3,x0,x1,x4)) fun y0 =>
 some ((y0.1,y0.2.1,x2,x3,y0.2.2))
noncomputable def aC9 (N:Nat):Pk→Tr Pk:=ah s288 w288 (Xi N)
theorem VZ (N:Nat):aA Tryz.prog (288) (aC9 N) :=
 (af ag ap (Nx N) Tryz.func288 s288 w288 [0,1,2] (cuts:=[]) trivial (fun _=>by kernel_rfl) (by decide +kernel) (Xi N) (fun x=>by kernel_rfl))
@[reducible] def s252:SP:=⟨[.adr 0 [],.ro y4,.str,.bool],[.var 221 (.agg [.sl 1,.int .i64,.int .i64]),.row (.int .u8) 5]⟩
noncomputable def Zv (N:Nat):List (Nat×(Pk→Tr Pk)):=[(290,aC7 N),(289,Uq s289.I (aC8 N) (XY N)),(322,aj1 N),(288,aC9 N)]
theorem ND (N:Nat):ai Tryz.prog (Zv N):=⟨VX N,mj (VY N) (Sa N),Kw N,VZ N,trivial⟩
@[reducible] def w252:List SP:=[⟨[.tup []],[.var 221 (.agg [.sl 1,.int .i64,.int .i64]),.row (.int .u8) 5]⟩]
noncomputable def wQ (N:Nat):((List (Int×(Int×(Int×Unit))))×ByteArray×Bool×Int×Int×(List Int))→Option (Int×Int×(List Int))
 | (x0,x1,x2,x3,x4,x5) =>
 Option.bind (Xg N (x0,false,x2)) fun y0 =>
 Option.bind (Xg N (x0,true,x2)) fun y1 =>
 Option.bind (ao1 N (y0.1,y1.1,y0.2.1,y0.2.2.1,y0.2.2.2,y1.2.1,y1.2.2.1,y1.2.2.2)) fun y2 =>
 match y2 with
 | .inl (y3_0,y3_1,y3_2,y3_3,y3_4,y3_5,y3_6) =>
  Option.bind (Lv N (IntKind.wrap IntKind.i64 (IntKind.wrap IntKind.i64 ((8:Int)*(↑(ByteArray.size x1):Int))+IntKind.wrap IntKind.i64 ((40:Int)*IntKind.wrap IntKind.i64 ((1:Int)+IntKind.wrap IntKind.i64 (Int.tdiv (↑(ByteArray.size x1):Int) (65535:Int))))),y3_0,x1,x2,y3_4,y3_5,y3_6)) fun y4 =>
  match y4 with
  | .inl (y5_0,y5_1,y5_2,y5_3,y5_4,y5_5) =>
   Option.bind (SS N (x3,x4,y5_3,y5_4,y5_5,x5)) fun(y6_0,y6_1,y6_2,y6_3,y6_4,y6_5) =>
   some ((y6_0,y6_1,y6_5))
  | .inr (y5_0,y5_1,y5_2,y5_3,y5_4,y5_5) =>
   Option.bind (Xi N (x3,x4,y5_1,y5_2,x5)) fun y7 =>
   some ((y7.1,y7.2.1,y7.2.2.2.2))
 | .inr (y3_0,y3_1,y3_2,y3_3,y3_4,y3_5,y3_6) =>
  Option.bind (Lv N (IntKind.wrap IntKind.i64 (IntKind.wrap IntKind.i64 ((8:Int)*(↑(ByteArray.size x1):Int))+IntKind.wrap IntKind.i64 ((40:Int)*IntKind.wrap IntKind.i64 ((1:Int)+IntKind.wrap IntKind.i64 (Int.tdiv (↑(ByteArray.size x1):Int) (65535:Int))))),y3_0,x1,x2,y3_1,y3_2,y3_3)) fun y8 =>
  match y8 with
  | .inl (y9_0,y9_1,y9_2,y9_3,y9_4,y9_5) =>
   Option.bind (SS N (x3,x4,y9_3,y9_4,y9_5,x5)) fun(y10_0,y10_1,y10_2,y10_3,y10_4,y10_5) =>
   some ((y10_0,y10_1,y10_5))
  | .inr (y9_0,y9_1,y9_2,y9_3,y9_4,y9_5) =>
   Option.bind (Xi N (x3,x4,y9_1,y9_2,x5)) fun y11 =>
   some ((y11.1,y11.2.1,y11.2.2.2.2))
noncomputable def aD8 (N:Nat):Pk→Tr Pk:=ah s252 w252 (wQ N)
theorem V8 (N:Nat):aA Tryz.prog (252) (aD8 N) :=
 (af ag ap (ND N) Tryz.func252 s252 w252 [0] (cuts:=[]) trivial (fun _=>by kernel_rfl) (by decide +kernel) (wQ N) (fun x=>by kernel_rfl))
@[reducible] def s192:SP:=⟨[.adr 0 [],.str,.str,.bool],[.var 221 (.agg [.sl 1,.int .i64,.int .i64]),.row (.int .u8) 5]⟩
noncomputable def ZS (N:Nat):List (Nat×(Pk→Tr Pk)):=[(251,aD9 N),(252,aD8 N)]
theorem gE (N:Nat):ai Tryz.prog (ZS N):=⟨V9 N,V8 N,trivial⟩
@[reducible] def gZ:LD:=⟨7322,[11,30,29,0,3,2,10,8,28],[(.exit 2,[8,10,2,11,3,0]),(.exit 1,[3,0,2,8])],⟨[.int .i64,.int .i64,.int .i64,.adr 0 [],.bool,.str,.int .i64,.sl 1,.slp 1 (.c 0) .h],[.var 221 (.agg [.sl 2,.int .i64,.int .i64]),.row y4 281,.row (.int .u8) 5]⟩,[(.exit 2,⟨[.sl 1,.int .i64,.str,.int .i64,.bool,.adr 0 []],[.var 221 (.agg [.sl 2,.int .i64,.int .i64]),.row y4 281,.row (.int .u8) 5]⟩)]⟩
abbrev qm:Type:=Int×Int×Int×Bool×ByteArray×Int×Nat×Int×Int×(List (Int×(Int×(Int×Unit))))×(List Int)
abbrev pY:Type:=Int×ByteArray×Int×Bool×Int×Int×(List (Int×(Int×(Int×Unit))))×(List Int)
noncomputable def zI (N:Nat) (f:qm→Option pY):qm→Option pY
 | (x0,x1,x2,x3,x4,x5,x6,x7,x8,x9,x10) =>
 ac (decide (x1<x2)) (
  ac (within x1 x6) (
   Option.bind (x9[(0:Nat)+Int.toNat x1]?) fun y0 =>
   Option.bind (f (IntKind.wrap IntKind.i64 (x0+if (1:Int)>y0.2.1 then (1:Int) else y0.2.1),IntKind.wrap IntKind.i64 (x1+(1:Int)),x2,x3,x4,x5,x6,x7,x8,x9,x10)) fun r=>some r) (
   none )) (
  some ((x5,x4,x0,x3,x7,x8,x9,x10)))
noncomputable def ib (N:Nat):Nat→qm→Option pY
 | 0,_=>none
 | k+1,x=>zI N (ib N k) x
noncomputable def ik (N:Nat) (k:Nat):Cut:=gZ.cut (ib N k)
theorem eR (N:Nat) (k:Nat):al Tryz.prog false Tryz.f192 [0] 7322 (ik N k) :=
 gZ.loopT ag ap (gE N) Tryz.f192 [0] (cuts:=[]) trivial (by decide +kernel) (by kernel_rfl) (zI N) (ib N) (fun _=>rfl) (fun _ _=>rfl) (fun f x=>by kernel_rfl) k
@[reducible] def vR:LD:=⟨7322,[11,30,29,0,3,2,10,8,28],[(.exit 2,[8,10,2,11,3,0]),(.exit 1,[3,0,2,8])],⟨[.int .i64,.int .i64,.int .i64,.adr 0 [],.bool,.str,.int .i64,.slp 1 .h .h,.slp 1 .h .h],[.var 221 (.agg [.sl 2,.int .i64,.int .i64]),.row y4 281,.row (.int .u8) 5]⟩,[(.exit 2,⟨[.slp 1 .h .h,.int .i64,.str,.int .i64,.bool,.adr 0 []],[.var 221 (.agg [.sl 2,.int .i64,.int .i64]),.row y4 281,.row (.int .u8) 5]⟩)]⟩
abbrev mP:Type:=Int×Int×Int×Bool×ByteArray×Int×Nat×Nat×Nat×Nat×Int×Int×(List (Int×(Int×(Int×Unit))))×(List Int)
abbrev mH:Type:=Nat×Nat×Int×ByteArray×Int×Bool×Int×Int×(List (Int×(Int×(Int×Unit))))×(List Int)
noncomputable def wz (N:Nat) (f:mP→Option mH):mP→Option mH
 | (x0,x1,x2,x3,x4,x5,x6,x7,x8,x9,x10,x11,x12,x13) =>
 ac (decide (x1<x2)) (
  ac (within x1 x9) (
   Option.bind (x12[x8+Int.toNat x1]?) fun y0 =>
   Option.bind (f (IntKind.wrap IntKind.i64 (x0+if (1:Int)>y0.2.1 then (1:Int) else y0.2.1),IntKind.wrap IntKind.i64 (x1+(1:Int)),x2,x3,x4,x5,x6,x7,x8,x9,x10,x11,x12,x13)) fun r=>some r) (
   none )) (
  some ((x6,x7,x5,x4,x0,x3,x10,x11,x12,x13)))
noncomputable def fD (N:Nat):Nat→mP→Option mH
 | 0,_=>none
 | k+1,x=>wz N (fD N k) x
noncomputable def jh (N:Nat) (k:Nat):Cut:=vR.cut (fD N k)
theorem gB (N:Nat) (k:Nat):al Tryz.prog false Tryz.f192 [0] 7322 (jh N k) :=
 vR.loopT ag ap (gE N) Tryz.f192 [0] (cuts:=[(7322,ik N N)]) ⟨eR N N,trivial⟩ (by decide +kernel) (by kernel_rfl) (wz N) (fD N) (fun _=>rfl) (fun _ _=>rfl) (fun f x=>by kernel_rfl) k
@[reducible] def fx:LD:=⟨14,[9,3,0,2,8],[(.exit 0,[])],⟨[.bool,.bool,.adr 0 [],.str,.slp 1 .h .h],[.var 221 (.agg [.sl 2,.int .i64,.int .i64]),.row y4 281,.row (.int .u8) 5]⟩,[(.exit 0,⟨[],[.var 221 (.agg [.sl 1,.int .i64,.int .i64]),.row (.int .u8) 5]⟩)]⟩
abbrev vE:Type:=Bool×Bool×ByteArray×Nat×Nat×Int×Int×(List (Int×(Int×(Int×Unit))))×(List Int)
abbrev uP:Type:=Int×Int×(List Int)
noncomputable def wA (N:Nat) (f:vE→Option uP):vE→Option uP
 | (x0,x1,x2,x3,x4,x5,x6,x7,x8) =>
 ac (x0) (
  ac (decide (((0:Int)≤if (8192:Int)<(↑x4:Int) then (8192:Int) else (↑x4:Int))∧(if (8192:Int)<(↑x4:Int) then (8192:Int) else (↑x4:Int))≤(↑x4:Int))) (
   Option.bind (fD N N ((0:Int),(0:Int),(↑(Int.toNat (if (8192:Int)<(↑x4:Int) then (8192:Int) else (↑x4:Int))-(0:Nat)):Int),x1,x2,if (8192:Int)<(↑x4:Int) then (8192:Int) else (↑x4:Int),x3,x4,x3+(0:Nat),Int.toNat (if (8192:Int)<(↑x4:Int) then (8192:Int) else (↑x4:Int))-(0:Nat),x5,x6,x7,x8)) fun(y0_0,y0_1,y0_2,y0_3,y0_4,y0_5,y0_6,y0_7,y0_8,y0_9) =>
   ac (decide ((0:Int)≤y0_2∧y0_2≤(↑y0_1:Int))) (
    ac (decide ((0:Int)≤y0_4∧y0_4≤(↑(ByteArray.size y0_3):Int))) (
     ac (y0_5) (
      Option.bind (wQ N (List.take (Int.toNat y0_2-(0:Nat)) (List.drop (y0_0+(0:Nat)) y0_8),ByteArray.extract y0_3 (0:Nat) (Int.toNat y0_4),y0_2==(↑y0_1:Int),y0_6,y0_7,y0_9)) fun y1 =>
      ac (decide ((0:Int)≤y0_2∧y0_2≤(↑y0_1:Int))) (
       ac (decide ((0:Int)≤y0_4∧y0_4≤(↑(ByteArray.size y0_3):Int))) (
        Option.bind (f (false,y0_5,ByteArray.extract y0_3 (Int.toNat y0_4) (ByteArray.size y0_3),y0_0+Int.toNat y0_2,y0_1-Int.toNat y0_2,y1.1,y1.2.1,y0_8,y1.2.2)) fun r=>some r) (
        none )) (
       none )) (
      Option.bind (wQ N (List.take (Int.toNat y0_2-(0:Nat)) (List.drop (y0_0+(0:Nat)) y0_8),ByteArray.extract y0_3 (0:Nat) (Int.toNat y0_4),false,y0_6,y0_7,y0_9)) fun y2 =>
      ac (decide ((0:Int)≤y0_2∧y0_2≤(↑y0_1:Int))) (
       ac (decide ((0:Int)≤y0_4∧y0_4≤(↑(ByteArray.size y0_3):Int))) (
        Option.bind (f (false,y0_5,ByteArray.extract y0_3 (Int.toNat y0_4) (ByteArray.size y0_3),y0_0+Int.toNat y0_2,y0_1-Int.toNat y0_2,y2.1,y2.2.1,y0_8,y2.2.2)) fun r=>some r) (
        none )) (
       none ))) (
     none )) (
    none )) (
   none )) (
  ac (decide ((↑x4:Int)>(0:Int))) (
   ac (decide (((0:Int)≤if (8192:Int)<(↑x4:Int) then (8192:Int) else (↑x4:Int))∧(if (8192:Int)<(↑x4:Int) then (8192:Int) else (↑x4:Int))≤(↑x4:Int))) (
    Option.bind (fD N N ((0:Int),(0:Int),(↑(Int.toNat (if (8192:Int)<(↑x4:Int) then (8192:Int) else (↑x4:Int))-(0:Nat)):Int),x1,x2,if (8192:Int)<(↑x4:Int) then (8192:Int) else (↑x4:Int),x3,x4,x3+(0:Nat),Int.toNat (if (8192:Int)<(↑x4:Int) then (8192:Int) else (↑x4:Int))-(0:Nat),x5,x6,x7,x8)) fun(y3_0,y3_1,y3_2,y3_3,y3_4,y3_5,y3_6,y3_7,y3_8,y3_9) =>
    ac (decide ((0:Int)≤y3_2∧y3_2≤(↑y3_1:Int))) (
     ac (decide ((0:Int)≤y3_4∧y3_4≤(↑(ByteArray.size y3_3):Int))) (
      ac (y3_5) (
       Option.bind (wQ N (List.take (Int.toNat y3_2-(0:Nat)) (List.drop (y3_0+(0:Nat)) y3_8),ByteArray.extract y3_3 (0:Nat) (Int.toNat y3_4),y3_2==(↑y3_1:Int),y3_6,y3_7,y3_9)) fun y4 =>
       ac (decide ((0:Int)≤y3_2∧y3_2≤(↑y3_1:Int))) (
        ac (decide ((0:Int)≤y3_4∧y3_4≤(↑(ByteArray.size y3_3):Int))) (
         Option.bind (f (false,y3_5,ByteArray.extract y3_3 (Int.toNat y3_4) (ByteArray.size y3_3),y3_0+Int.toNat y3_2,y3_1-Int.toNat y3_2,y4.1,y4.2.1,y3_8,y4.2.2)) fun r=>some r) (
         none )) (
        none )) (
       Option.bind (wQ N (List.take (Int.toNat y3_2-(0:Nat)) (List.drop (y3_0+(0:Nat)) y3_8),ByteArray.extract y3_3 (0:Nat) (Int.toNat y3_4),false,y3_6,y3_7,y3_9)) fun y5 =>
       ac (decide ((0:Int)≤y3_2∧y3_2≤(↑y3_1:Int))) (
        ac (decide ((0:Int)≤y3_4∧y3_4≤(↑(ByteArray.size y3_3):Int))) (
         Option.bind (f (false,y3_5,ByteArray.extract y3_3 (Int.toNat y3_4) (ByteArray.size y3_3),y3_0+Int.toNat y3_2,y3_1-Int.toNat y3_2,y5.1,y5.2.1,y3_8,y5.2.2)) fun r=>some r) (
         none )) (
        none ))) (
      none )) (
     none )) (
    none )) (
   some ((x5,x6,x8))))
noncomputable def kv (N:Nat):Nat→vE→Option uP
 | 0,_=>none
 | k+1,x=>wA N (kv N k) x
noncomputable def wo (N:Nat) (k:Nat):Cut:=fx.cut (kv N k)
theorem rj (N:Nat) (k:Nat):al Tryz.prog false Tryz.f192 [0] 14 (wo N k) :=
 fx.loopT ag ap (gE N) Tryz.f192 [0] (cuts:=[(7322,Dc gZ.s.I (ik N N) (jh N N))]) ⟨fun c' h=>cB (eR N N c' h) (gB N N c' h) rfl rfl,trivial⟩ (by decide +kernel) (by kernel_rfl) (wA N) (kv N) (fun _=>rfl) (fun _ _=>rfl) (fun f x=>by kernel_rfl) k
@[reducible] def Li:LD:=⟨14,fx.live,fx.out,⟨[.bool,.bool,.adr 0 [],.str,.sl 1],[.var 221 (.agg [.sl 2,.int .i64,.int .i64]),.row y4 281,.row (.int .u8) 5]⟩,fx.w⟩
noncomputable def MH (N:Nat) (f:(Bool×Bool×ByteArray×Nat×Nat×Int×Int×(List (Int×(Int×(Int×Unit))))×(List Int))→Option (Int×Int×(List Int))):(Bool×Bool×ByteArray×Int×Int×(List (Int×(Int×(Int×Unit))))×(List Int))→Option (Int×Int×(List Int))
 | (x0,x1,x2,x3,x4,x5,x6) =>
 ac (x0) (
  ac (decide (((0:Int)≤if (8192:Int)<(↑(List.length x5):Int) then (8192:Int) else (↑(List.length x5):Int))∧(if (8192:Int)<(↑(List.length x5):Int) then (8192:Int) else (↑(List.length x5):Int))≤(↑(List.length x5):Int))) (
   Option.bind (ib N N ((0:Int),(0:Int),(↑(Int.toNat (if (8192:Int)<(↑(List.length x5):Int) then (8192:Int) else (↑(List.length x5):Int))-(0:Nat)):Int),x1,x2,if (8192:Int)<(↑(List.length x5):Int) then (8192:Int) else (↑(List.length x5):Int),Int.toNat (if (8192:Int)<(↑(List.length x5):Int) then (8192:Int) else (↑(List.length x5):Int))-(0:Nat),x3,x4,x5,x6)) fun(y0_0,y0_1,y0_2,y0_3,y0_4,y0_5,y0_6,y0_7) =>
   ac (decide ((0:Int)≤y0_0∧y0_0≤(↑(List.length y0_6):Int))) (
    ac (decide ((0:Int)≤y0_2∧y0_2≤(↑(ByteArray.size y0_1):Int))) (
     ac (y0_3) (
      Option.bind (wQ N (List.take (Int.toNat y0_0-(0:Nat)) y0_6,ByteArray.extract y0_1 (0:Nat) (Int.toNat y0_2),y0_0==(↑(List.length y0_6):Int),y0_4,y0_5,y0_7)) fun y1 =>
      ac (decide ((0:Int)≤y0_0∧y0_0≤(↑(List.length y0_6):Int))) (
       ac (decide ((0:Int)≤y0_2∧y0_2≤(↑(ByteArray.size y0_1):Int))) (
        Option.bind (f (false,y0_3,ByteArray.extract y0_1 (Int.toNat y0_2) (ByteArray.size y0_1),Int.toNat y0_0,List.length y0_6-Int.toNat y0_0,y1.1,y1.2.1,y0_6,y1.2.2)) fun r=>some r) (
        none )) (
       none )) (
      Option.bind (wQ N (List.take (Int.toNat y0_0-(0:Nat)) y0_6,ByteArray.extract y0_1 (0:Nat) (Int.toNat y0_2),false,y0_4,y0_5,y0_7)) fun y2 =>
      ac (decide ((0:Int)≤y0_0∧y0_0≤(↑(List.length y0_6):Int))) (
       ac (decide ((0:Int)≤y0_2∧y0_2≤(↑(ByteArray.size y0_1):Int))) (
        Option.bind (f (false,y0_3,ByteArray.extract y0_1 (Int.toNat y0_2) (ByteArray.size y0_1),Int.toNat y0_0,List.length y0_6-Int.toNat y0_0,y2.1,y2.2.1,y0_6,y2.2.2)) fun r=>some r) (
        none )) (
       none ))) (
     none )) (
    none )) (
   none )) (
  ac (decide ((↑(List.length x5):Int)>(0:Int))) (
   ac (decide (((0:Int)≤if (8192:Int)<(↑(List.length x5):Int) then (8192:Int) else (↑(List.length x5):Int))∧(if (8192:Int)<(↑(List.length x5):Int) then (8192:Int) else (↑(List.length x5):Int))≤(↑(List.length x5):Int))) (
    Option.bind (ib N N ((0:Int),(0:Int),(↑(Int.toNat (if (8192:Int)<(↑(List.length x5):Int) then (8192:Int) else (↑(List.length x5):Int))-(0:Nat)):Int),x1,x2,if (8192:Int)<(↑(List.length x5):Int) then (8192:Int) else (↑(List.length x5):Int),Int.toNat (if (8192:Int)<(↑(List.length x5):Int) then (8192:Int) else (↑(List.length x5):Int))-(0:Nat),x3,x4,x5,x6)) fun(y3_0,y3_1,y3_2,y3_3,y3_4,y3_5,y3_6,y3_7) =>
    ac (decide ((0:Int)≤y3_0∧y3_0≤(↑(List.length y3_6):Int))) (
     ac (decide ((0:Int)≤y3_2∧y3_2≤(↑(ByteArray.size y3_1):Int))) (
      ac (y3_3) (
       Option.bind (wQ N (List.take (Int.toNat y3_0-(0:Nat)) y3_6,ByteArray.extract y3_1 (0:Nat) (Int.toNat y3_2),y3_0==(↑(List.length y3_6):Int),y3_4,y3_5,y3_7)) fun y4 =>
       ac (decide ((0:Int)≤y3_0∧y3_0≤(↑(List.length y3_6):Int))) (
        ac (decide ((0:Int)≤y3_2∧y3_2≤(↑(ByteArray.size y3_1):Int))) (
         Option.bind (f (false,y3_3,ByteArray.extract y3_1 (Int.toNat y3_2) (ByteArray.size y3_1),Int.toNat y3_0,List.length y3_6-Int.toNat y3_0,y4.1,y4.2.1,y3_6,y4.2.2)) fun r=>some r) (
         none )) (
        none )) (
       Option.bind (wQ N (List.take (Int.toNat y3_0-(0:Nat)) y3_6,ByteArray.extract y3_1 (0:Nat) (Int.toNat y3_2),false,y3_4,y3_5,y3_7)) fun y5 =>
       ac (decide ((0:Int)≤y3_0∧y3_0≤(↑(List.length y3_6):Int))) (
        ac (decide ((0:Int)≤y3_2∧y3_2≤(↑(ByteArray.size y3_1):Int))) (
         Option.bind (f (false,y3_3,ByteArray.extract y3_1 (Int.toNat y3_2) (ByteArray.size y3_1),Int.toNat y3_0,List.length y3_6-Int.toNat y3_0,y5.1,y5.2.1,y3_6,y5.2.2)) fun r=>some r) (
         none )) (
        none ))) (
      none )) (
     none )) (
    none )) (
   some ((x3,x4,x6))))
noncomputable def Ly (N:Nat) (k:Nat):(Bool×Bool×ByteArray×Int×Int×(List (Int×(Int×(Int×Unit))))×(List Int))→Option (Int×Int×(List Int)):=MH N (kv N k)
noncomputable def Md (N:Nat) (k:Nat):Cut:=Li.cut (Ly N k)
theorem Jk (N:Nat) (k:Nat):al Tryz.prog false Tryz.f192 [0] 14 (Md N k) :=
 Li.loop2T ag ap (gE N) fx.s Tryz.f192 [0] (cuts:=[(7322,Dc gZ.s.I (ik N N) (jh N N)),(14,wo N N)]) ⟨fun c' h=>cB (eR N N c' h) (gB N N c' h) rfl rfl,rj N N,trivial⟩ (by decide +kernel) (by kernel_rfl) (MH N) (wA N) (kv N) (fun _=>rfl) (fun _ _=>rfl) (fun f g x=>by kernel_rfl) (fun f g x=>by kernel_rfl) k
@[reducible] def w192:List SP:=[⟨[.tup []],[.var 221 (.agg [.sl 1,.int .i64,.int .i64]),.row (.int .u8) 5]⟩]
noncomputable def ap1 (N:Nat):(ByteArray×ByteArray×Bool×Int×Int×(List Int))→Option (Int×Int×(List Int))
 | (x0,x1,x2,x3,x4,x5) =>
 Option.bind (ao4 N (x0,x1)) fun y0 =>
 Option.bind (Ly N N (true,x2,x1,x3,x4,y0,x5)) fun y1 =>
 some ((y1.1,y1.2.1,y1.2.2))
noncomputable def aF1 (N:Nat):Pk→Tr Pk:=ah s192 w192 (ap1 N)
theorem Wo (N:Nat):aA Tryz.prog (192) (aF1 N) :=
 (af ag ap (gE N) Tryz.func192 s192 w192 [0] (cuts:=[(7322,Dc gZ.s.I (ik N N) (jh N N)),(14,Dc fx.s.I (wo N N) (Md N N))]) ⟨fun c' h=>cB (eR N N c' h) (gB N N c' h) rfl rfl,fun c' h=>cB (rj N N c' h) (Jk N N c' h) rfl rfl,trivial⟩ (fun _=>by kernel_rfl) (by decide +kernel) (ap1 N) (fun x=>by kernel_rfl))
@[reducible] def s162:SP:=⟨[.str,.str],[]⟩
noncomputable def ZY (N:Nat):List (Nat×(Pk→Tr Pk)):=[(192,aF1 N),(228,aj8 N),(193,ak2 N)]
theorem NX (N:Nat):ai Tryz.prog (ZY N):=⟨Wo N,KC N,KG N,trivial⟩
@[reducible] def w162:List SP:=[⟨[.str],[]⟩]
noncomputable def ap3 (N:Nat):(ByteArray×ByteArray)→Option (ByteArray)
 | (x0,x1) =>
 ac (!ByteArray.toList x1==[]) (
  Option.bind (ap1 N (x0,x1,false,(0:Int),(0:Int),[])) fun y0 =>
  Option.bind (S5 N (ByteArray.mk #[],false,y0.1,y0.2.1,y0.2.2)) fun y1 =>
  Option.bind (IL N (y1.2.2,y1.1,y1.2.1,())) fun y2 =>
  some (y2)) (
  Option.bind (S5 N (ByteArray.mk #[],false,(0:Int),(0:Int),[])) fun y3 =>
  Option.bind (IL N (y3.2.2,y3.1,y3.2.1,())) fun y4 =>
  some (y4))
noncomputable def aF6 (N:Nat):Pk→Tr Pk:=ah s162 w162 (ap3 N)
theorem Wt (N:Nat):aA Tryz.prog (162) (aF6 N) :=
 (af ag ap (NX N) Tryz.func162 s162 w162 [] (cuts:=[]) trivial (fun _=>by kernel_rfl) (by decide +kernel) (ap3 N) (fun x=>by kernel_rfl))
@[reducible] def s163:SP:=⟨[.adr 0 [.f 0 0],.str],[.var 64 (.agg [.agg [.bool,.str]])]⟩
noncomputable def ZX (N:Nat):List (Nat×(Pk→Tr Pk)):=[(229,OS N)]
theorem NW (N:Nat):ai Tryz.prog (ZX N):=⟨nS N,trivial⟩
@[reducible] def w163:List SP:=[⟨[.tup []],[.var 64 (.agg [.agg [.bool,.str]])]⟩]
noncomputable def Xs (N:Nat):(ByteArray×Bool×ByteArray)→Option (Bool×ByteArray)
 | (x0,x1,x2) =>
 ac (decide ((↑(ByteArray.size x2+ByteArray.size x0):Int)>(9223372036854775807:Int))) (
  none ) (
  Option.bind (IF N (x2++x0)) fun y0 =>
  some ((true,y0)))
noncomputable def aF5 (N:Nat):Pk→Tr Pk:=ah s163 w163 (Xs N)
theorem Ws (N:Nat):aA Tryz.prog (163) (aF5 N) :=
 (af ag ap (NW N) Tryz.func163 s163 w163 [0] (cuts:=[]) trivial (fun _=>by kernel_rfl) (by decide +kernel) (Xs N) (fun x=>by kernel_rfl))
@[reducible] def s99:SP:=⟨[.adr 0 [],.str],[.var 64 (.agg [.agg [.bool,.str]])]⟩
noncomputable def ar5 (N:Nat):List (Nat×(Pk→Tr Pk)):=[(162,aF6 N),(163,aF5 N)]
theorem Qc (N:Nat):ai Tryz.prog (ar5 N):=⟨Wt N,Ws N,trivial⟩
@[reducible] def w99:List SP:=[⟨[.str],[.var 64 (.agg [.agg [.bool,.str]])]⟩]
noncomputable def F99 (N:Nat):(ByteArray×Bool×ByteArray)→Option (ByteArray×Bool×ByteArray)
 | (x0,x1,x2) =>
 Option.bind (ap3 N (x2,x0)) fun y0 =>
 ac (!x1) (
  ac (decide ((↑((2:Nat)+ByteArray.size y0):Int)>(9223372036854775807:Int))) (
   none ) (
   Option.bind (Xs N (x0,x1,x2)) fun y1 =>
   some ((ByteArray.mk #[(120:UInt8),(156:UInt8)]++y0,y1.1,y1.2)))) (
  Option.bind (Xs N (x0,x1,x2)) fun y2 =>
  some ((y0,y2.1,y2.2)))
noncomputable def T99 (N:Nat):Pk→Tr Pk:=ah s99 w99 (F99 N)
theorem af6 (N:Nat):aA Tryz.prog (99) (T99 N) :=
 (af ag ap (Qc N) Tryz.func99 s99 w99 [0] (cuts:=[]) trivial (fun _=>by kernel_rfl) (by decide +kernel) (F99 N) (fun x=>by kernel_rfl))
@[reducible] def s164:SP:=⟨[.int .i64,.int .i64],[]⟩
noncomputable def ZW (N:Nat):List (Nat×(Pk→Tr Pk)):=[(230,aj7 N)]
theorem xG (N:Nat):ai Tryz.prog (ZW N):=⟨KB N,trivial⟩
@[reducible] def E2:LD:=⟨122,[25,24,6,1],[(.ret,[4,5]),(.exit 0,[6])],⟨[.int .i64,.int .i64,.sl 0,.int .i64],[.row (.int .u8) 5]⟩,[(.exit 0,⟨[.sl 0],[.row (.int .u8) 5]⟩)]⟩
abbrev vH:Type:=Int×Int×Int×(List Int)
abbrev uS:Type:=(List Int)
noncomputable def G0 (N:Nat) (f:vH→Option uS):vH→Option uS
 | (x0,x1,x2,x3) =>
 ac (decide (x0<x1)) (
  ac (decide (IntKind.wrap IntKind.i64 ((8:Int)*x0)<(0:Int))) (
   none ) (
   ac (within x0 (List.length x3)) (
    Option.bind (x3[Int.toNat x0]?) fun y0 =>
    Option.bind (f (IntKind.wrap IntKind.i64 (x0+(1:Int)),x1,x2,List.set x3 (Int.toNat x0) (IntKind.wrap IntKind.u8 (Int.fdiv x2 ((2:Int)^min (Int.toNat (IntKind.wrap IntKind.i64 ((8:Int)*x0))) (64:Nat)))))) fun r=>some r) (
    none ))) (
  some (x3))
noncomputable def oD (N:Nat):Nat→vH→Option uS
 | 0,_=>none
 | k+1,x=>G0 N (oD N k) x
noncomputable def Gv (N:Nat) (k:Nat):Cut:=E2.cut (oD N k)
theorem Gu (N:Nat) (k:Nat):al Tryz.prog false Tryz.f164 [] 122 (Gv N k) :=
 E2.loopT ag ap (xG N) Tryz.f164 [] (cuts:=[]) trivial (by decide +kernel) (by kernel_rfl) (G0 N) (oD N) (fun _=>rfl) (fun _ _=>rfl) (fun f x=>by kernel_rfl) k
@[reducible] def w164:List SP:=[⟨[.tup [.str,.int .i64]],[]⟩]
noncomputable def ap2 (N:Nat):(Int×Int)→Option (ByteArray×Int)
 | (x0,x1) =>
 Option.bind (S4 N x0) fun y0 =>
 ac (!y0) (
  some ((ByteArray.mk #[],(1:Int)))) (
  ac (decide (x1<(0:Int))) (
   some ((ByteArray.mk #[],(1:Int)))) (
   ac (decide (IntKind.wrap IntKind.i64 ((8:Int)*x0)<(0:Int))) (
    none ) (
    ac (Int.fdiv x1 ((2:Int)^min (Int.toNat (IntKind.wrap IntKind.i64 ((8:Int)*x0))) (64:Nat)) != (0:Int)) (
     some ((ByteArray.mk #[],(1:Int)))) (
     ac (decide ((0:Int)≤x0∧x0≤x0∧x0*(1:Int)≤(140737488355328:Int)∧x0≤(140737488355328:Int))) (
      Option.bind (oD N N ((0:Int),x0,x1,List.replicate (Int.toNat x0) (0:Int))) fun y1 =>
      some ((aE y1,(0:Int)))) (
      none )))))
noncomputable def aF4 (N:Nat):Pk→Tr Pk:=ah s164 w164 (ap2 N)
theorem Wr (N:Nat):aA Tryz.prog (164) (aF4 N) :=
 (af ag ap (xG N) Tryz.func164 s164 w164 [] (cuts:=[(122,Gv N N)]) ⟨Gu N N,trivial⟩ (fun _=>by kernel_rfl) (by decide +kernel) (ap2 N) (fun x=>by kernel_rfl))
@[reducible] def s100:SP:=⟨[.int .i64,.int .i64],[]⟩
noncomputable def ab2 (N:Nat):List (Nat×(Pk→Tr Pk)):=[(164,aF4 N),(165,ak3 N)]
theorem Od (N:Nat):ai Tryz.prog (ab2 N):=⟨Wr N,KH N,trivial⟩
@[reducible] def w100:List SP:=[⟨[.tup [.str,.int .i64]],[]⟩]
noncomputable def aq0 (N:Nat):(Int×Int)→Option (ByteArray×Int)
 | (x0,x1) =>
 Option.bind (ap2 N (x0,x1)) fun y0 =>
 Option.bind (wS N y0.1) fun y1 =>
 some ((y1,y0.2))
noncomputable def aH3 (N:Nat):Pk→Tr Pk:=ah s100 w100 (aq0 N)
theorem WO (N:Nat):aA Tryz.prog (100) (aH3 N) :=
 (af ag ap (Od N) Tryz.func100 s100 w100 [] (cuts:=[]) trivial (fun _=>by kernel_rfl) (by decide +kernel) (aq0 N) (fun x=>by kernel_rfl))
@[reducible] def s40:SP:=⟨[.adr 0 [],.agg [.int .i64,.int .i64,.bool,.bool,.int .i64,.int .i64,.int .i64,.int .i64,.int .i64,.int .i64],.int .i64,.int .i64,.ro (.int .i64)],[.var 64 (.agg [.agg [.bool,.str]])]⟩
noncomputable def au0 (N:Nat):List (Nat×(Pk→Tr Pk)):=[(34,T34 N),(99,T99 N),(100,aH3 N)]
theorem Qq (N:Nat):ai Tryz.prog (au0 N):=⟨RX N,af6 N,WO N,trivial⟩
@[reducible] def w40:List SP:=[⟨[.tup [.str,.int .i64]],[.var 64 (.agg [.agg [.bool,.str]])]⟩]
noncomputable def F40 (N:Nat):(Int×Int×Bool×Bool×Int×Int×Int×Int×Int×Int×Int×Int×(List Int)×Bool×ByteArray)→Option (ByteArray×Int×Bool×ByteArray)
 | (x0,x1,x2,x3,x4,x5,x6,x7,x8,x9,x10,x11,x12,x13,x14) =>
 Option.bind (X6 N (x0,x1,x2,x3,x4,x5,x6,x7,x8,x9,x10,x11,x12)) fun y0 =>
 ac (y0.2 != (0:Int)) (
  some ((ByteArray.mk #[],y0.2,x13,x14))) (
  Option.bind (F99 N (y0.1,x13,x14)) fun y1 =>
  Option.bind (aq0 N ((4:Int),(↑(ByteArray.size y1.1):Int))) fun y2 =>
  ac (decide ((↑(ByteArray.size y2.1+ByteArray.size y1.1):Int)>(9223372036854775807:Int))) (
   none ) (
   some ((y2.1++y1.1,(0:Int),y1.2.1,y1.2.2))))
noncomputable def T40 (N:Nat):Pk→Tr Pk:=ah s40 w40 (F40 N)
theorem ah0 (N:Nat):aA Tryz.prog (40) (T40 N) :=
 (af ag ap (Qq N) Tryz.func40 s40 w40 [0] (cuts:=[]) trivial (fun _=>by kernel_rfl) (by decide +kernel) (F40 N) (fun x=>by kernel_rfl))
@[reducible] def s32:SP:=⟨[.agg [.int .i64,.int .i64,.bool,.bool,.int .i64,.int .i64,.int .i64,.int .i64,.int .i64,.int .i64],.int .i64,.int .i64],[]⟩
noncomputable def au6 (N:Nat):List (Nat×(Pk→Tr Pk)):=[(35,T35 N),(37,T37 N),(82,T82 N)]
theorem Qt (N:Nat):ai Tryz.prog (au6 N):=⟨A0 N,AX N,H1 N,trivial⟩
@[reducible] def w32:List SP:=[⟨[.int .i64],[]⟩]
noncomputable def F32 (N:Nat):(Int×Int×Bool×Bool×Int×Int×Int×Int×Int×Int×Int×Int)→Option (Int)
 | (x0,x1,x2,x3,x4,x5,x6,x7,x8,x9,x10,x11) =>
 Option.bind (X5 N (x0,x1,x2,x3,x4,x5,x6,x7,x8,x9,x10,x11)) fun y0 =>
 ac (!y0) (
  some ((0:Int))) (
  Option.bind (Fg N (x0,x1,x2,x3,x4,x5,x6,x7,x8,x9)) fun y1 =>
  Option.bind (F82 N (x10,x11,(64:Int))) fun y2 =>
  some (IntKind.wrap IntKind.i64 (IntKind.wrap IntKind.i64 ((512:Int)*(↑(List.length y2):Int))+IntKind.wrap IntKind.i64 (IntKind.wrap IntKind.i64 (x10*x11)*IntKind.wrap IntKind.i64 (y1.1+(2:Int))))))
noncomputable def T32 (N:Nat):Pk→Tr Pk:=ah s32 w32 (F32 N)
theorem aj0 (N:Nat):aA Tryz.prog (32) (T32 N) :=
 (af ag ap (Qt N) Tryz.func32 s32 w32 [] (cuts:=[]) trivial (fun _=>by kernel_rfl) (by decide +kernel) (F32 N) (fun x=>by kernel_rfl))
@[reducible] def s246:SP:=⟨[.str],[]⟩
noncomputable def Zx (N:Nat):List (Nat×(Pk→Tr Pk)):=[(81,T81 N),(105,OU N),(84,T84 N)]
theorem NE (N:Nat):ai Tryz.prog (Zx N):=⟨H2 N,nU N,pI N,trivial⟩
@[reducible] def w246:List SP:=[⟨[.int .i64],[]⟩]
noncomputable def ao5 (N:Nat):(ByteArray)→Option (Int)
 | x0 =>
 Option.bind (F81 N x0) fun y0 =>
 Option.bind (v8 N ((1:Int),y0.1,y0.2.1,y0.2.2)) fun y1 =>
 Option.bind (v8 N ((1:Int),y1.2.1,y1.2.2.1,y1.2.2.2)) fun y2 =>
 Option.bind (TR N (y2.2.1,y2.2.2.1,y2.2.2.2,())) fun y3 =>
 ac (y3 != (0:Int)) (
  Option.bind (TR N (y2.2.1,y2.2.2.1,y2.2.2.2,())) fun y4 =>
  some (y4)) (
  ac (IntKind.wrap IntKind.i64 (↑(BitVec.toNat (BitVec.ofInt (64:Nat) y1.1 &&& BitVec.ofInt (64:Nat) (15:Int))):Int) != (8:Int)) (
   some ((100:Int))) (
   ac (decide (Int.fdiv y1.1 (16:Int)>(7:Int))) (
    some ((100:Int))) (
    ac (IntKind.wrap IntKind.i64 (↑(BitVec.toNat (BitVec.ofInt (64:Nat) y2.1 &&& BitVec.ofInt (64:Nat) (32:Int))):Int) != (0:Int)) (
     some ((100:Int))) (
     ac (Int.tmod (IntKind.wrap IntKind.i64 (↑(BitVec.toNat (BitVec.ofInt (64:Nat) (IntKind.wrap IntKind.i64 (y1.1*(256:Int))) ||| BitVec.ofInt (64:Nat) y2.1)):Int)) (31:Int) != (0:Int)) (
      some ((100:Int))) (
      some ((0:Int)))))))
noncomputable def aE0 (N:Nat):Pk→Tr Pk:=ah s246 w246 (ao5 N)
theorem Wa (N:Nat):aA Tryz.prog (246) (aE0 N) :=
 (af ag ap (NE N) Tryz.func246 s246 w246 [] (cuts:=[]) trivial (fun _=>by kernel_rfl) (by decide +kernel) (ao5 N) (fun x=>by kernel_rfl))
@[reducible] def s283:SP:=⟨[.str],[]⟩
noncomputable def Zm (N:Nat):List (Nat×(Pk→Tr Pk)):=[]
theorem Nz (N:Nat):ai Tryz.prog (Zm N):=trivial
@[reducible] def w283:List SP:=[⟨[.adr 0 []],[.var 345 (.agg [.str,.int .i64,.int .i64])]⟩]
noncomputable def ao3 (N:Nat):(ByteArray)→Option (ByteArray×Int×Int)
 | x0 =>
 some ((x0,(0:Int),(0:Int)))
noncomputable def aD2 (N:Nat):Pk→Tr Pk:=ah s283 w283 (ao3 N)
theorem V2 (N:Nat):aA Tryz.prog (283) (aD2 N) :=
 (af ag ap (Nz N) Tryz.func283 s283 w283 [] (cuts:=[]) trivial (fun _=>by kernel_rfl) (by decide +kernel) (ao3 N) (fun x=>by kernel_rfl))
@[reducible] def s305:SP:=⟨[.radr y2 [.i 0 3]],[]⟩
noncomputable def Zg (N:Nat):List (Nat×(Pk→Tr Pk)):=[]
theorem Nu (N:Nat):ai Tryz.prog (Zg N):=trivial
@[reducible] def w305:List SP:=[⟨[.int .i64],[]⟩]
noncomputable def O6 (N:Nat):((ByteArray×(Int×(Int×Unit))))→Option (Int)
 | x0 =>
 some (IntKind.wrap IntKind.i64 (IntKind.wrap IntKind.i64 ((8:Int)*(↑(ByteArray.size x0.1):Int))-x0.2.1))
noncomputable def VW (N:Nat):Pk→Tr Pk:=ah s305 w305 (O6 N)
theorem A4 (N:Nat):aA Tryz.prog (305) (VW N) :=
 (af ag ap (Nu N) Tryz.func305 s305 w305 [] (cuts:=[]) trivial (fun _=>by kernel_rfl) (by decide +kernel) (O6 N) (fun x=>by kernel_rfl))
@[reducible] def s344:SP:=⟨[.adr 0 [],.int .i64],[.var 345 (.agg [.str,.int .i64,.int .i64])]⟩
noncomputable def YV (N:Nat):List (Nat×(Pk→Tr Pk)):=[(305,VW N)]
theorem Ng (N:Nat):ai Tryz.prog (YV N):=⟨A4 N,trivial⟩
@[reducible] def w344:List SP:=[⟨[.bool],[.var 345 (.agg [.str,.int .i64,.int .i64])]⟩]
noncomputable def O2 (N:Nat):(Int×ByteArray×Int×Int)→Option (Bool×ByteArray×Int×Int)
 | (x0,x1,x2,x3) =>
 ac (x3==(0:Int)) (
  Option.bind (O6 N (x1,x2,x3,())) fun y0 =>
  ac (decide (x0>y0)) (
   some ((false,x1,x2,(2:Int)))) (
   some ((x3==(0:Int),x1,x2,x3)))) (
  some ((x3==(0:Int),x1,x2,x3)))
noncomputable def ai7 (N:Nat):Pk→Tr Pk:=ah s344 w344 (O2 N)
theorem Ks (N:Nat):aA Tryz.prog (344) (ai7 N) :=
 (af ag ap (Ng N) Tryz.func344 s344 w344 [0] (cuts:=[]) trivial (fun _=>by kernel_rfl) (by decide +kernel) (O2 N) (fun x=>by kernel_rfl))
@[reducible] def s329:SP:=⟨[.adr 0 [],.int .i64],[.var 345 (.agg [.str,.int .i64,.int .i64])]⟩
noncomputable def Y7 (N:Nat):List (Nat×(Pk→Tr Pk)):=[(310,VU N),(344,ai7 N)]
theorem xq (N:Nat):ai Tryz.prog (Y7 N):=⟨A3 N,Ks N,trivial⟩
@[reducible] def ET:LD:=⟨250,[5,15,14,1,0],[(.ret,[4]),(.exit 0,[0,1,5])],⟨[.int .i64,.int .i64,.int .i64,.int .i64,.adr 0 []],[.var 345 (.agg [.str,.int .i64,.int .i64])]⟩,[(.exit 0,⟨[.adr 0 [],.int .i64,.int .i64],[.var 345 (.agg [.str,.int .i64,.int .i64])]⟩)]⟩
abbrev vu:Type:=Int×Int×Int×Int×ByteArray×Int×Int
abbrev uH:Type:=Int×Int×ByteArray×Int×Int
noncomputable def GV (N:Nat) (f:vu→Option uH):vu→Option uH
 | (x0,x1,x2,x3,x4,x5,x6) =>
 ac (decide (x1<x2)) (
  ac (decide ((0:Int)≤IntKind.wrap IntKind.i64 (Int.tdiv (IntKind.wrap IntKind.i64 (x5+x1)) (8:Int)))) (
   Option.bind (x4[Int.toNat (IntKind.wrap IntKind.i64 (Int.tdiv (IntKind.wrap IntKind.i64 (x5+x1)) (8:Int)))]?) fun y0 =>
   ac (decide (Int.tmod (IntKind.wrap IntKind.i64 (x5+x1)) (8:Int)<(0:Int))) (
    none ) (
    ac (decide (x1<(0:Int))) (
     none ) (
     Option.bind (f (IntKind.wrap IntKind.i64 (↑(BitVec.toNat (BitVec.ofInt (64:Nat) x0 ||| BitVec.ofInt (64:Nat) (IntKind.wrap IntKind.i64 (IntKind.wrap IntKind.i64 (↑(BitVec.toNat (BitVec.ofInt (64:Nat) (Int.fdiv (IntKind.wrap IntKind.i64 (↑(UInt8.toNat y0):Int)) ((2:Int)^min (Int.toNat (Int.tmod (IntKind.wrap IntKind.i64 (x5+x1)) (8:Int))) (64:Nat))) &&& BitVec.ofInt (64:Nat) (1:Int))):Int)*(2:Int)^min (Int.toNat x1) (64:Nat))))):Int),IntKind.wrap IntKind.i64 (x1+(1:Int)),x2,x3,x4,x5,x6)) fun r=>some r))) (
   none )) (
  some ((x3,x0,x4,x5,x6)))
noncomputable def ox (N:Nat):Nat→vu→Option uH
 | 0,_=>none
 | k+1,x=>GV N (ox N k) x
noncomputable def Gg (N:Nat) (k:Nat):Cut:=ET.cut (ox N k)
theorem Gf (N:Nat) (k:Nat):al Tryz.prog false Tryz.f329 [0] 250 (Gg N k) :=
 ET.loopT ag ap (xq N) Tryz.f329 [0] (cuts:=[]) trivial (by decide +kernel) (by kernel_rfl) (GV N) (ox N) (fun _=>rfl) (fun _ _=>rfl) (fun f x=>by kernel_rfl) k
@[reducible] def w329:List SP:=[⟨[.int .i64],[.var 345 (.agg [.str,.int .i64,.int .i64])]⟩]
noncomputable def kt (N:Nat):(Int×ByteArray×Int×Int)→Option (Int×ByteArray×Int×Int)
 | (x0,x1,x2,x3) =>
 Option.bind (ID N x0) fun y0 =>
 Option.bind (O2 N (y0,x1,x2,x3)) fun y1 =>
 ac (!y1.1) (
  some (((0:Int),y1.2.1,y1.2.2.1,y1.2.2.2))) (
  Option.bind (ox N N ((0:Int),(0:Int),y0,y0,y1.2.1,y1.2.2.1,y1.2.2.2)) fun y2 =>
  some ((y2.2.1,y2.2.2.1,IntKind.wrap IntKind.i64 (y2.2.2.2.1+y2.1),y2.2.2.2.2)))
noncomputable def wP (N:Nat):Pk→Tr Pk:=ah s329 w329 (kt N)
theorem eD (N:Nat):aA Tryz.prog (329) (wP N) :=
 (af ag ap (xq N) Tryz.func329 s329 w329 [0] (cuts:=[(250,Gg N N)]) ⟨Gf N N,trivial⟩ (fun _=>by kernel_rfl) (by decide +kernel) (kt N) (fun x=>by kernel_rfl))
@[reducible] def s330:SP:=⟨[.radr y2 [.i 0 3]],[]⟩
noncomputable def Y6 (N:Nat):List (Nat×(Pk→Tr Pk)):=[]
theorem Nn (N:Nat):ai Tryz.prog (Y6 N):=trivial
@[reducible] def w330:List SP:=[⟨[.int .i64],[]⟩]
noncomputable def ow (N:Nat):((ByteArray×(Int×(Int×Unit))))→Option (Int)
 | x0 =>
 some x0.2.2.1
noncomputable def A2 (N:Nat):Pk→Tr Pk:=ah s330 w330 (ow N)
theorem fZ (N:Nat):aA Tryz.prog (330) (A2 N) :=
 (af ag ap (Nn N) Tryz.func330 s330 w330 [] (cuts:=[]) trivial (fun _=>by kernel_rfl) (by decide +kernel) (ow N) (fun x=>by kernel_rfl))
@[reducible] def s364:SP:=⟨[.radr y2 [.i 0 3]],[]⟩
noncomputable def YD (N:Nat):List (Nat×(Pk→Tr Pk)):=[]
theorem M6 (N:Nat):ai Tryz.prog (YD N):=trivial
@[reducible] def w364:List SP:=[⟨[.int .i64],[]⟩]
noncomputable def SK (N:Nat):((ByteArray×(Int×(Int×Unit))))→Option (Int)
 | x0 =>
 some (Int.tmod (IntKind.wrap IntKind.i64 ((8:Int)-Int.tmod x0.2.1 (8:Int))) (8:Int))
noncomputable def ai0 (N:Nat):Pk→Tr Pk:=ah s364 w364 (SK N)
theorem Kl (N:Nat):aA Tryz.prog (364) (ai0 N) :=
 (af ag ap (M6 N) Tryz.func364 s364 w364 [] (cuts:=[]) trivial (fun _=>by kernel_rfl) (by decide +kernel) (SK N) (fun x=>by kernel_rfl))
@[reducible] def s345:SP:=⟨[.adr 0 []],[.var 345 (.agg [.str,.int .i64,.int .i64])]⟩
noncomputable def YU (N:Nat):List (Nat×(Pk→Tr Pk)):=[(364,ai0 N),(329,wP N)]
theorem Nf (N:Nat):ai Tryz.prog (YU N):=⟨Kl N,eD N,trivial⟩
@[reducible] def w345:List SP:=[⟨[.int .i64],[.var 345 (.agg [.str,.int .i64,.int .i64])]⟩]
noncomputable def am9 (N:Nat):(ByteArray×Int×Int)→Option (Int×ByteArray×Int×Int)
 | (x0,x1,x2) =>
 Option.bind (SK N (x0,x1,x2,())) fun y0 =>
 Option.bind (kt N (y0,x0,x1,x2)) fun y1 =>
 some ((y1.1,y1.2.1,y1.2.2.1,y1.2.2.2))
noncomputable def aB4 (N:Nat):Pk→Tr Pk:=ah s345 w345 (am9 N)
theorem VI (N:Nat):aA Tryz.prog (345) (aB4 N) :=
 (af ag ap (Nf N) Tryz.func345 s345 w345 [0] (cuts:=[]) trivial (fun _=>by kernel_rfl) (by decide +kernel) (am9 N) (fun x=>by kernel_rfl))
@[reducible] def s346:SP:=⟨[.adr 0 [],.int .i64],[.var 345 (.agg [.str,.int .i64,.int .i64])]⟩
noncomputable def YT (N:Nat):List (Nat×(Pk→Tr Pk)):=[(305,VW N),(344,ai7 N),(364,ai0 N)]
theorem Nc (N:Nat):ai Tryz.prog (YT N):=⟨A4 N,Ks N,Kl N,trivial⟩
@[reducible] def w346:List SP:=[⟨[.str],[.var 345 (.agg [.str,.int .i64,.int .i64])]⟩]
noncomputable def am8 (N:Nat):(Int×ByteArray×Int×Int)→Option (ByteArray×ByteArray×Int×Int)
 | (x0,x1,x2,x3) =>
 ac (decide ((if (0:Int)>x0 then (0:Int) else x0)>(↑(ByteArray.size x1):Int))) (
  Option.bind (O6 N (x1,x2,x3,())) fun y0 =>
  Option.bind (O2 N (IntKind.wrap IntKind.i64 (y0+(1:Int)),x1,x2,x3)) fun y1 =>
  some ((ByteArray.mk #[],y1.2.1,y1.2.2.1,y1.2.2.2))) (
  Option.bind (SK N (x1,x2,x3,())) fun y2 =>
  Option.bind (O2 N (IntKind.wrap IntKind.i64 (y2+IntKind.wrap IntKind.i64 ((8:Int)*if (0:Int)>x0 then (0:Int) else x0)),x1,x2,x3)) fun y3 =>
  ac (!y3.1) (
   Option.bind (O6 N (y3.2.1,y3.2.2.1,y3.2.2.2,())) fun y4 =>
   Option.bind (O2 N (IntKind.wrap IntKind.i64 (y4+(1:Int)),y3.2.1,y3.2.2.1,y3.2.2.2)) fun y5 =>
   some ((ByteArray.mk #[],y5.2.1,y5.2.2.1,y5.2.2.2))) (
   Option.bind (SK N (y3.2.1,y3.2.2.1,y3.2.2.2,())) fun y6 =>
   ac (decide ((0:Int)≤IntKind.wrap IntKind.i64 (IntKind.wrap IntKind.i64 (Int.tdiv (IntKind.wrap IntKind.i64 (y3.2.2.1+y6)) (8:Int))+if (0:Int)>x0 then (0:Int) else x0)∧IntKind.wrap IntKind.i64 (IntKind.wrap IntKind.i64 (Int.tdiv (IntKind.wrap IntKind.i64 (y3.2.2.1+y6)) (8:Int))+if (0:Int)>x0 then (0:Int) else x0)≤(↑(ByteArray.size y3.2.1):Int))) (
    ac (decide ((0:Int)≤IntKind.wrap IntKind.i64 (Int.tdiv (IntKind.wrap IntKind.i64 (y3.2.2.1+y6)) (8:Int))∧IntKind.wrap IntKind.i64 (Int.tdiv (IntKind.wrap IntKind.i64 (y3.2.2.1+y6)) (8:Int))≤(↑(Int.toNat (IntKind.wrap IntKind.i64 (IntKind.wrap IntKind.i64 (Int.tdiv (IntKind.wrap IntKind.i64 (y3.2.2.1+y6)) (8:Int))+if (0:Int)>x0 then (0:Int) else x0))):Int))) (
     some ((ByteArray.extract y3.2.1 (Int.toNat (IntKind.wrap IntKind.i64 (Int.tdiv (IntKind.wrap IntKind.i64 (y3.2.2.1+y6)) (8:Int)))) (Int.toNat (IntKind.wrap IntKind.i64 (IntKind.wrap IntKind.i64 (Int.tdiv (IntKind.wrap IntKind.i64 (y3.2.2.1+y6)) (8:Int))+if (0:Int)>x0 then (0:Int) else x0))),y3.2.1,IntKind.wrap IntKind.i64 ((8:Int)*IntKind.wrap IntKind.i64 (IntKind.wrap IntKind.i64 (Int.tdiv (IntKind.wrap IntKind.i64 (y3.2.2.1+y6)) (8:Int))+if (0:Int)>x0 then (0:Int) else x0)),y3.2.2.2))) (
     none )) (
    none )))
noncomputable def aB3 (N:Nat):Pk→Tr Pk:=ah s346 w346 (am8 N)
theorem VH (N:Nat):aA Tryz.prog (346) (aB3 N) :=
 (af ag ap (Nc N) Tryz.func346 s346 w346 [0] (cuts:=[]) trivial (fun _=>by kernel_rfl) (by decide +kernel) (am8 N) (fun x=>by kernel_rfl))
@[reducible] def s331:SP:=⟨[.adr 0 [],.int .i64],[.var 345 (.agg [.str,.int .i64,.int .i64])]⟩
noncomputable def Y5 (N:Nat):List (Nat×(Pk→Tr Pk)):=[(345,aB4 N),(329,wP N),(330,A2 N),(346,aB3 N)]
theorem Nm (N:Nat):ai Tryz.prog (Y5 N):=⟨VI N,eD N,fZ N,VH N,trivial⟩
@[reducible] def w331:List SP:=[⟨[.tup [.str,.int .i64]],[.var 345 (.agg [.str,.int .i64,.int .i64])]⟩]
noncomputable def an2 (N:Nat):(Int×ByteArray×Int×Int)→Option (ByteArray×Int×ByteArray×Int×Int)
 | (x0,x1,x2,x3) =>
 Option.bind (am9 N (x1,x2,x3)) fun y0 =>
 Option.bind (kt N ((16:Int),y0.2.1,y0.2.2.1,y0.2.2.2)) fun y1 =>
 Option.bind (kt N ((16:Int),y1.2.1,y1.2.2.1,y1.2.2.2)) fun y2 =>
 Option.bind (ow N (y2.2.1,y2.2.2.1,y2.2.2.2,())) fun y3 =>
 ac (y3 != (0:Int)) (
  some ((ByteArray.mk #[],y3,y2.2.1,y2.2.2.1,y2.2.2.2))) (
  ac (IntKind.wrap IntKind.i64 (↑(BitVec.toNat (BitVec.ofInt (64:Nat) y1.1 ^^^ BitVec.ofInt (64:Nat) y2.1)):Int) != (65535:Int)) (
   some ((ByteArray.mk #[],(80:Int),y2.2.1,y2.2.2.1,y2.2.2.2))) (
   ac (decide (y1.1>x0)) (
    some ((ByteArray.mk #[],(4:Int),y2.2.1,y2.2.2.1,y2.2.2.2))) (
    Option.bind (am8 N (y1.1,y2.2.1,y2.2.2.1,y2.2.2.2)) fun y4 =>
    Option.bind (ow N (y4.2.1,y4.2.2.1,y4.2.2.2,())) fun y5 =>
    some ((y4.1,y5,y4.2.1,y4.2.2.1,y4.2.2.2)))))
noncomputable def aC1 (N:Nat):Pk→Tr Pk:=ah s331 w331 (an2 N)
theorem VP (N:Nat):aA Tryz.prog (331) (aC1 N) :=
 (af ag ap (Nm N) Tryz.func331 s331 w331 [0] (cuts:=[]) trivial (fun _=>by kernel_rfl) (by decide +kernel) (an2 N) (fun x=>by kernel_rfl))
@[reducible] def s368:SP:=⟨[.ro (.int .i64)],[]⟩
noncomputable def Yz (N:Nat):List (Nat×(Pk→Tr Pk)):=[(370,ah7 N),(371,Vs N)]
theorem oW (N:Nat):ai Tryz.prog (Yz N):=⟨Ki N,AY N,trivial⟩
@[reducible] def vM:LD:=⟨16018,[34,33,0,32,6,7],[(.ret,[2,3]),(.exit 2,[7,0,6]),(.exit 1,[7,0,6]),(.exit 0,[6])],⟨[.int .i64,.int .i64,.ro (.int .i64),.ro (.int .i64),.adr 0 [],.int .i64],[.var 397 (.agg [.arr (.int .i64) 16,.sl 1,.int .i64]),.row (.int .i64) 3]⟩,[(.exit 2,⟨[.int .i64,.ro (.int .i64),.adr 0 []],[.var 397 (.agg [.arr (.int .i64) 16,.sl 1,.int .i64]),.row (.int .i64) 3]⟩)]⟩
abbrev mL:Type:=Int×Int×(List Int)×(List Int)×Int×(List Int)×Int×(List Int)
abbrev mD:Type:=Int×(List Int)×(List Int)×Int×(List Int)
noncomputable def wv (N:Nat) (f:mL→Option mD):mL→Option mD
 | (x0,x1,x2,x3,x4,x5,x6,x7) =>
 ac (decide (x0<x1)) (
  ac (within x0 (List.length x3)) (
   Option.bind (x3[Int.toNat x0]?) fun y0 =>
   ac (y0==x4) (
    ac (decide ((List.length x7+List.length [x0])*(8:Nat)≤(140737488355328:Nat)∧List.length x7+List.length [x0]≤(140737488355328:Nat))) (
     Option.bind (f (IntKind.wrap IntKind.i64 (x0+(1:Int)),x1,x2,x3,x4,x5,x4,x7++[x0])) fun r=>some r) (
     none )) (
    Option.bind (f (IntKind.wrap IntKind.i64 (x0+(1:Int)),x1,x2,x3,x4,x5,x6,x7)) fun r=>some r)) (
   none )) (
  some ((x4,x2,x5,x6,x7)))
noncomputable def iZ (N:Nat):Nat→mL→Option mD
 | 0,_=>none
 | k+1,x=>wv N (iZ N k) x
noncomputable def mY (N:Nat) (k:Nat):Cut:=vM.cut (iZ N k)
theorem l7 (N:Nat) (k:Nat):al Tryz.prog false Tryz.f368 [] 16018 (mY N k) :=
 vM.loopT ag ap (oW N) Tryz.f368 [] (cuts:=[]) trivial (by decide +kernel) (by kernel_rfl) (wv N) (iZ N) (fun _=>rfl) (fun _ _=>rfl) (fun f x=>by kernel_rfl) k
@[reducible] def EL:LD:=⟨250,[0,6,7],[(.ret,[2,3]),(.exit 0,[6])],⟨[.ro (.int .i64),.adr 0 [],.int .i64],[.var 397 (.agg [.arr (.int .i64) 16,.sl 1,.int .i64]),.row (.int .i64) 3]⟩,[(.exit 0,⟨[.adr 0 []],[.var 397 (.agg [.arr (.int .i64) 16,.sl 1,.int .i64]),.row (.int .i64) 3]⟩)]⟩
abbrev vf:Type:=(List Int)×Int×(List Int)×Int×(List Int)
abbrev ux:Type:=(List Int)×Int×(List Int)
noncomputable def GK (N:Nat) (f:vf→Option ux):vf→Option ux
 | (x0,x1,x2,x3,x4) =>
 ac (decide (x1≤(15:Int))) (
  Option.bind (iZ N N ((0:Int),(↑(List.length x0):Int),x0,x0,x1,x2,x3,x4)) fun y0 =>
  Option.bind (f (y0.2.1,IntKind.wrap IntKind.i64 (y0.1+(1:Int)),y0.2.2.1,y0.2.2.2.1,y0.2.2.2.2)) fun r=>some r) (
  some ((x2,x3,x4)))
noncomputable def oi (N:Nat):Nat→vf→Option ux
 | 0,_=>none
 | k+1,x=>GK N (oi N k) x
noncomputable def FT (N:Nat) (k:Nat):Cut:=EL.cut (oi N k)
theorem FS (N:Nat) (k:Nat):al Tryz.prog false Tryz.f368 [] 250 (FT N k) :=
 EL.loopT ag ap (oW N) Tryz.f368 [] (cuts:=[(16018,mY N N)]) ⟨l7 N N,trivial⟩ (by decide +kernel) (by kernel_rfl) (GK N) (oi N) (fun _=>rfl) (fun _ _=>rfl) (fun f x=>by kernel_rfl) k
@[reducible] def w368:List SP:=[⟨[.tup [.nilp,.int .i64]],[]⟩,⟨[.tup [.adr 0 [],.int .i64]],[.var 397 (.agg [.arr (.int .i64) 16,.sl 1,.int .i64]),.row (.int .i64) 3]⟩]
noncomputable def OZ (N:Nat):((List Int))→Option (((Int)⊕(Int×(List Int)×Int×(List Int))))
 | x0 =>
 Option.bind (W2 N x0) fun y0 =>
 ac (y0.2 != (0:Int)) (
  some (.inl y0.2)) (
  Option.bind (SI N x0) fun y1 =>
  Option.bind (oi N N (x0,(1:Int),y1.1,(0:Int),[])) fun y2 =>
  some (.inr (((0:Int),y2.1,y2.2.1,y2.2.2))))
noncomputable def ah9 (N:Nat):Pk→Tr Pk:=ah s368 w368 (OZ N)
theorem Kj (N:Nat):aA Tryz.prog (368) (ah9 N) :=
 (af ag ap (oW N) Tryz.func368 s368 w368 [] (cuts:=[(16018,mY N N),(250,FT N N)]) ⟨l7 N N,FS N N,trivial⟩ (fun _=>by kernel_rfl) (by decide +kernel) (OZ N) (fun x=>by kernel_rfl))
@[reducible] def s349:SP:=⟨[.int .i64],[]⟩
noncomputable def YQ (N:Nat):List (Nat×(Pk→Tr Pk)):=[]
theorem Nb (N:Nat):ai Tryz.prog (YQ N):=trivial
@[reducible] def w349:List SP:=[⟨[.int .i64],[]⟩]
noncomputable def Fi (N:Nat):(Int)→Option (Int)
 | x0 =>
 ac (x0==(50:Int)) (
  some ((80:Int))) (
  ac (x0==(3:Int)) (
   some ((80:Int))) (
   some (x0)))
noncomputable def VE (N:Nat):Pk→Tr Pk:=ah s349 w349 (Fi N)
theorem A1 (N:Nat):aA Tryz.prog (349) (VE N) :=
 (af ag ap (Nb N) Tryz.func349 s349 w349 [] (cuts:=[]) trivial (fun _=>by kernel_rfl) (by decide +kernel) (Fi N) (fun x=>by kernel_rfl))
@[reducible] def s365:SP:=⟨[.adr 0 [],.int .i64],[.var 345 (.agg [.str,.int .i64,.int .i64])]⟩
noncomputable def YC (N:Nat):List (Nat×(Pk→Tr Pk)):=[(362,ai1 N),(329,wP N),(330,A2 N),(368,ah9 N),(349,VE N)]
theorem xk (N:Nat):ai Tryz.prog (YC N):=⟨Km N,eD N,fZ N,Kj N,A1 N,trivial⟩
@[reducible] def KY:LD:=⟨58,[17,16,15,6,0],[(.ret,[4,5]),(.exit 0,[0,6])],⟨[.int .i64,.int .i64,.slp 1 (.c 0) .h,.sl 2,.adr 0 []],[.var 345 (.agg [.str,.int .i64,.int .i64]),.row (.int .i64) 3,.row (.int .i64) 3]⟩,[(.exit 0,⟨[.adr 0 [],.sl 1],[.var 345 (.agg [.str,.int .i64,.int .i64]),.row (.int .i64) 3]⟩)]⟩
abbrev Ci:Type:=Int×Int×Nat×ByteArray×Int×Int×(List Int)×(List Int)
abbrev Bq:Type:=ByteArray×Int×Int×(List Int)
noncomputable def Mx (N:Nat) (f:Ci→Option Bq):Ci→Option Bq
 | (x0,x1,x2,x3,x4,x5,x6,x7) =>
 ac (decide (x0<x1)) (
  ac (within x0 x2) (
   Option.bind (x6[(0:Nat)+Int.toNat x0]?) fun y0 =>
   Option.bind (kt N ((3:Int),x3,x4,x5)) fun y1 =>
   ac (within y0 (List.length x7)) (
    Option.bind (x7[Int.toNat y0]?) fun y2 =>
    Option.bind (f (IntKind.wrap IntKind.i64 (x0+(1:Int)),x1,x2,y1.2.1,y1.2.2.1,y1.2.2.2,x6,List.set x7 (Int.toNat y0) y1.1)) fun r=>some r) (
    none )) (
   none )) (
  some ((x3,x4,x5,x7)))
noncomputable def sk (N:Nat):Nat→Ci→Option Bq
 | 0,_=>none
 | k+1,x=>Mx N (sk N k) x
noncomputable def LN (N:Nat) (k:Nat):Cut:=KY.cut (sk N k)
theorem I5 (N:Nat) (k:Nat):al Tryz.prog false Tryz.f365 [0] 58 (LN N k) :=
 KY.loopT ag ap (xk N) Tryz.f365 [0] (cuts:=[]) trivial (by decide +kernel) (by kernel_rfl) (Mx N) (sk N) (fun _=>rfl) (fun _ _=>rfl) (fun f x=>by kernel_rfl) k
@[reducible] def w365:List SP:=[⟨[.tup [.nilp,.int .i64]],[.var 345 (.agg [.str,.int .i64,.int .i64])]⟩,⟨[.tup [.adr 1 [],.int .i64]],[.var 345 (.agg [.str,.int .i64,.int .i64]),.var 397 (.agg [.arr (.int .i64) 16,.sl 2,.int .i64]),.row (.int .i64) 3]⟩]
noncomputable def am4 (N:Nat):(Int×ByteArray×Int×Int)→Option (((Int×ByteArray×Int×Int)⊕(Int×ByteArray×Int×Int×(List Int)×Int×(List Int))))
 | (x0,x1,x2,x3) =>
 Option.bind (W4 N ()) fun y0 =>
 ac (decide ((0:Int)≤x0∧x0≤(↑(List.length y0):Int))) (
  Option.bind (sk N N ((0:Int),(↑(Int.toNat x0-(0:Nat)):Int),Int.toNat x0-(0:Nat),x1,x2,x3,y0,List.replicate (19:Nat) (0:Int))) fun y1 =>
  Option.bind (ow N (y1.1,y1.2.1,y1.2.2.1,())) fun y2 =>
  ac (y2 != (0:Int)) (
   some (.inl ((y2,y1.1,y1.2.1,y1.2.2.1)))) (
   Option.bind (OZ N y1.2.2.2) fun y3 =>
   match y3 with
   | .inl y4 =>
    Option.bind (Fi N y4) fun y5 =>
    some (.inl ((y5,y1.1,y1.2.1,y1.2.2.1)))
   | .inr y4 =>
    Option.bind (Fi N y4.1) fun y6 =>
    some (.inr ((y6,y1.1,y1.2.1,y1.2.2.1,y4.2.1,y4.2.2.1,y4.2.2.2))))) (
  none )
noncomputable def aA3 (N:Nat):Pk→Tr Pk:=ah s365 w365 (am4 N)
theorem Vx (N:Nat):aA Tryz.prog (365) (aA3 N) :=
 (af ag ap (xk N) Tryz.func365 s365 w365 [0] (cuts:=[(58,LN N N)]) ⟨I5 N N,trivial⟩ (fun _=>by kernel_rfl) (by decide +kernel) (am4 N) (fun x=>by kernel_rfl))
@[reducible] def s366:SP:=⟨[.nilp,.adr 0 []],[.var 345 (.agg [.str,.int .i64,.int .i64])]⟩
noncomputable def YB (N:Nat):List (Nat×(Pk→Tr Pk)):=[]
theorem xj (N:Nat):ai Tryz.prog (YB N):=trivial
@[reducible] def KX:LD:=⟨58,[8,0,7,1,9,6],[(.ret,[4,5])],⟨[.int .i64,.nilp,.int .i64,.adr 0 [],.int .i64,.int .i64],[.var 345 (.agg [.str,.int .i64,.int .i64])]⟩,[]⟩
abbrev Ch:Type:=Int×Int×Int×Int×ByteArray×Int×Int
abbrev Bp:Type:=Unit
noncomputable def Mw (N:Nat) (f:Ch→Option Bp):Ch→Option Bp
 | (x0,x1,x2,x3,x4,x5,x6) =>
 none 
noncomputable def sj (N:Nat):Nat→Ch→Option Bp
 | 0,_=>none
 | k+1,x=>Mw N (sj N k) x
noncomputable def LM (N:Nat) (k:Nat):Cut:=KX.cut (sj N k)
theorem I4 (N:Nat) (k:Nat):al Tryz.prog false Tryz.f366 [0] 58 (LM N k) :=
 KX.loopT ag ap (xj N) Tryz.f366 [0] (cuts:=[]) trivial (by decide +kernel) (by kernel_rfl) (Mw N) (sj N) (fun _=>rfl) (fun _ _=>rfl) (fun f x=>by kernel_rfl) k
@[reducible] def w366:List SP:=[]
noncomputable def O0 (N:Nat):(ByteArray×Int×Int)→Option (Unit)
 | (x0,x1,x2) =>
 Option.bind (sj N N ((0:Int),(0:Int),(1:Int),(0:Int),x0,x1,x2)) fun y0 =>
 none
noncomputable def Vw (N:Nat):Pk→Tr Pk:=ah s366 w366 (O0 N)
theorem AZ (N:Nat):aA Tryz.prog (366) (Vw N) :=
 (af ag ap (xj N) Tryz.func366 s366 w366 [0] (cuts:=[(58,LM N N)]) ⟨I4 N N,trivial⟩ (fun _=>by kernel_rfl) (by decide +kernel) (O0 N) (fun x=>by kernel_rfl))
@[reducible] def s380:SP:=⟨[.adr 0 [],.int .i64],[.var 397 (.agg [.arr (.int .i64) 16,.sl 1,.int .i64]),.row (.int .i64) 3]⟩
noncomputable def Yn (N:Nat):List (Nat×(Pk→Tr Pk)):=[]
theorem xc (N:Nat):ai Tryz.prog (Yn N):=trivial
@[reducible] def KR:LD:=⟨58,[5,6,1,0],[(.ret,[4]),(.exit 0,[5])],⟨[.int .i64,.int .i64,.int .i64,.adr 0 []],[.var 397 (.agg [.arr (.int .i64) 16,.sl 1,.int .i64]),.row (.int .i64) 3]⟩,[(.exit 0,⟨[.int .i64],[.var 397 (.agg [.arr (.int .i64) 16,.sl 1,.int .i64]),.row (.int .i64) 3]⟩)]⟩
abbrev Cb:Type:=Int×Int×Int×(List Int)×Int×(List Int)
abbrev Bi:Type:=Int×(List Int)×Int×(List Int)
noncomputable def Mr (N:Nat) (f:Cb→Option Bi):Cb→Option Bi
 | (x0,x1,x2,x3,x4,x5) =>
 ac (decide (x1>x2)) (
  ac (within x1 (16:Nat)) (
   Option.bind (x3[Int.toNat x1]?) fun y0 =>
   Option.bind (f (IntKind.wrap IntKind.i64 (Int.tdiv (IntKind.wrap IntKind.i64 (IntKind.wrap IntKind.i64 (x0+y0)+(1:Int))) (2:Int)),IntKind.wrap IntKind.i64 (x1-(1:Int)),x2,x3,x4,x5)) fun r=>some r) (
   none )) (
  some ((x0,x3,x4,x5)))
noncomputable def r9 (N:Nat):Nat→Cb→Option Bi
 | 0,_=>none
 | k+1,x=>Mr N (r9 N k) x
noncomputable def LG (N:Nat) (k:Nat):Cut:=KR.cut (r9 N k)
theorem IY (N:Nat) (k:Nat):al Tryz.prog false Tryz.f380 [0] 58 (LG N k) :=
 KR.loopT ag ap (xc N) Tryz.f380 [0] (cuts:=[]) trivial (by decide +kernel) (by kernel_rfl) (Mr N) (r9 N) (fun _=>rfl) (fun _ _=>rfl) (fun f x=>by kernel_rfl) k
@[reducible] def w380:List SP:=[⟨[.int .i64],[.var 397 (.agg [.arr (.int .i64) 16,.sl 1,.int .i64]),.row (.int .i64) 3]⟩]
noncomputable def al6 (N:Nat):(Int×(List Int)×Int×(List Int))→Option (Int×(List Int)×Int×(List Int))
 | (x0,x1,x2,x3) =>
 Option.bind (r9 N N ((0:Int),x2,x0,x1,x2,x3)) fun y0 =>
 some ((y0.1,y0.2.1,y0.2.2.1,y0.2.2.2))
noncomputable def az4 (N:Nat):Pk→Tr Pk:=ah s380 w380 (al6 N)
theorem Vm (N:Nat):aA Tryz.prog (380) (az4 N) :=
 (af ag ap (xc N) Tryz.func380 s380 w380 [0] (cuts:=[(58,LG N N)]) ⟨IY N N,trivial⟩ (fun _=>by kernel_rfl) (by decide +kernel) (al6 N) (fun x=>by kernel_rfl))
@[reducible] def s366a:SP:=⟨[.adr 0 [],.adr 1 []],[.var 397 (.agg [.arr (.int .i64) 16,.sl 2,.int .i64]),.var 345 (.agg [.str,.int .i64,.int .i64]),.row (.int .i64) 3]⟩
noncomputable def TZ (N:Nat):List (Nat×(Pk→Tr Pk)):=[(329,wP N),(330,A2 N),(380,az4 N)]
theorem sN (N:Nat):ai Tryz.prog (TZ N):=⟨eD N,fZ N,Vm N,trivial⟩
@[reducible] def EM:LD:=⟨58,[8,0,7,1,9,6],[(.ret,[4,5]),(.exit 0,[])],⟨[.int .i64,.adr 0 [],.int .i64,.adr 1 [],.int .i64,.int .i64],[.var 397 (.agg [.arr (.int .i64) 16,.sl 2,.int .i64]),.var 345 (.agg [.str,.int .i64,.int .i64]),.row (.int .i64) 3]⟩,[(.ret,⟨[.int .i64,.int .i64],[.var 397 (.agg [.arr (.int .i64) 16,.sl 2,.int .i64]),.var 345 (.agg [.str,.int .i64,.int .i64]),.row (.int .i64) 3]⟩),(.exit 0,⟨[],[.var 397 (.agg [.arr (.int .i64) 16,.sl 2,.int .i64]),.var 345 (.agg [.str,.int .i64,.int .i64]),.row (.int .i64) 3]⟩)]⟩
abbrev vg:Type:=Int×Int×Int×Int×(List Int)×Int×ByteArray×Int×Int×(List Int)
abbrev uy:Type:=((Int×Int×(List Int)×Int×ByteArray×Int×Int×(List Int))⊕((List Int)×Int×ByteArray×Int×Int×(List Int)))
noncomputable def GL (N:Nat) (f:vg→Option uy):vg→Option uy
 | (x0,x1,x2,x3,x4,x5,x6,x7,x8,x9) =>
 ac (decide (x2≤x5)) (
  Option.bind (kt N ((1:Int),x6,x7,x8)) fun y0 =>
  Option.bind (ow N (y0.2.1,y0.2.2.1,y0.2.2.2,())) fun y1 =>
  ac (y1 != (0:Int)) (
   some (.inl (((0:Int),y1,x4,x5,y0.2.1,y0.2.2.1,y0.2.2.2,x9)))) (
   ac (within x2 (16:Nat)) (
    Option.bind (x4[Int.toNat x2]?) fun y2 =>
    ac (decide (IntKind.wrap IntKind.i64 (IntKind.wrap IntKind.i64 (↑(BitVec.toNat (BitVec.ofInt (64:Nat) x3 ||| BitVec.ofInt (64:Nat) y0.1)):Int)-x1)<y2)) (
     ac (within (IntKind.wrap IntKind.i64 (x0+IntKind.wrap IntKind.i64 (IntKind.wrap IntKind.i64 (↑(BitVec.toNat (BitVec.ofInt (64:Nat) x3 ||| BitVec.ofInt (64:Nat) y0.1)):Int)-x1))) (List.length x9)) (
      Option.bind (x9[Int.toNat (IntKind.wrap IntKind.i64 (x0+IntKind.wrap IntKind.i64 (IntKind.wrap IntKind.i64 (↑(BitVec.toNat (BitVec.ofInt (64:Nat) x3 ||| BitVec.ofInt (64:Nat) y0.1)):Int)-x1)))]?) fun y3 =>
      some (.inl ((y3,(0:Int),x4,x5,y0.2.1,y0.2.2.1,y0.2.2.2,x9)))) (
      none )) (
     ac (within x2 (16:Nat)) (
      Option.bind (x4[Int.toNat x2]?) fun y4 =>
      ac (within x2 (16:Nat)) (
       Option.bind (x4[Int.toNat x2]?) fun y5 =>
       Option.bind (al6 N (x2,x4,x5,x9)) fun y6 =>
       ac (decide (IntKind.wrap IntKind.i64 (Int.fdiv (IntKind.wrap IntKind.i64 (IntKind.wrap IntKind.i64 (↑(BitVec.toNat (BitVec.ofInt (64:Nat) x3 ||| BitVec.ofInt (64:Nat) y0.1)):Int)*(2:Int))) (2:Int)-Int.fdiv (IntKind.wrap IntKind.i64 (IntKind.wrap IntKind.i64 (x1+y5)*(2:Int))) (2:Int))≥y6.1)) (
        some (.inl (((0:Int),(3:Int),y6.2.1,y6.2.2.1,y0.2.1,y0.2.2.1,y0.2.2.2,y6.2.2.2)))) (
        Option.bind (f (IntKind.wrap IntKind.i64 (x0+y4),IntKind.wrap IntKind.i64 (IntKind.wrap IntKind.i64 (x1+y5)*(2:Int)),IntKind.wrap IntKind.i64 (x2+(1:Int)),IntKind.wrap IntKind.i64 (IntKind.wrap IntKind.i64 (↑(BitVec.toNat (BitVec.ofInt (64:Nat) x3 ||| BitVec.ofInt (64:Nat) y0.1)):Int)*(2:Int)),y6.2.1,y6.2.2.1,y0.2.1,y0.2.2.1,y0.2.2.2,y6.2.2.2)) fun r=>match r with|.inl y=>some (.inl y)|.inr y=>some (.inr y))) (
       none )) (
      none ))) (
    none ))) (
  some (.inr ((x4,x5,x6,x7,x8,x9))))
noncomputable def ol (N:Nat):Nat→vg→Option uy
 | 0,_=>none
 | k+1,x=>GL N (ol N k) x
noncomputable def FV (N:Nat) (k:Nat):Cut:=EM.cut (ol N k)
theorem FU (N:Nat) (k:Nat):al Tryz.prog false Tryz.f366 [0,1] 58 (FV N k) :=
 EM.loopT ag ap (sN N) Tryz.f366 [0,1] (cuts:=[]) trivial (by decide +kernel) (by kernel_rfl) (GL N) (ol N) (fun _=>rfl) (fun _ _=>rfl) (fun f x=>by kernel_rfl) k
@[reducible] def w366a:List SP:=[⟨[.tup [.int .i64,.int .i64]],[.var 397 (.agg [.arr (.int .i64) 16,.sl 2,.int .i64]),.var 345 (.agg [.str,.int .i64,.int .i64]),.row (.int .i64) 3]⟩]
noncomputable def yS (N:Nat):((List Int)×Int×ByteArray×Int×Int×(List Int))→Option (Int×Int×(List Int)×Int×ByteArray×Int×Int×(List Int))
 | (x0,x1,x2,x3,x4,x5) =>
 Option.bind (ol N N ((0:Int),(0:Int),(1:Int),(0:Int),x0,x1,x2,x3,x4,x5)) fun y0 =>
 match y0 with
 | .inl (y1_0,y1_1,y1_2,y1_3,y1_4,y1_5,y1_6,y1_7) =>
  some ((y1_0,y1_1,y1_2,y1_3,y1_4,y1_5,y1_6,y1_7))
 | .inr (y1_0,y1_1,y1_2,y1_3,y1_4,y1_5) =>
  some (((0:Int),(3:Int),y1_0,y1_1,y1_2,y1_3,y1_4,y1_5))
noncomputable def Kk (N:Nat):Pk→Tr Pk:=ah s366a w366a (yS N)
theorem ui (N:Nat):aA Tryz.prog (366) (Kk N) :=
 (af ag ap (sN N) Tryz.func366 s366a w366a [0,1] (cuts:=[(58,FV N N)]) ⟨FU N N,trivial⟩ (fun _=>by kernel_rfl) (by decide +kernel) (yS N) (fun x=>by kernel_rfl))
@[reducible] def s367:SP:=⟨[.adr 0 [],.int .i64,.ro (.int .i64)],[.var 345 (.agg [.str,.int .i64,.int .i64])]⟩
noncomputable def YA (N:Nat):List (Nat×(Pk→Tr Pk)):=[(329,wP N),(330,A2 N)]
theorem M5 (N:Nat):ai Tryz.prog (YA N):=⟨eD N,fZ N,trivial⟩
@[reducible] def w367:List SP:=[⟨[.tup [.int .i64,.int .i64,.int .i64]],[.var 345 (.agg [.str,.int .i64,.int .i64])]⟩]
noncomputable def am3 (N:Nat):(Int×(List Int)×ByteArray×Int×Int)→Option (Int×Int×Int×ByteArray×Int×Int)
 | (x0,x1,x2,x3,x4) =>
 ac (x0==(16:Int)) (
  ac ((↑(List.length x1):Int)==(0:Int)) (
   some (((0:Int),(0:Int),(80:Int),x2,x3,x4))) (
   ac (within (IntKind.wrap IntKind.i64 ((↑(List.length x1):Int)-(1:Int))) (List.length x1)) (
    Option.bind (x1[Int.toNat (IntKind.wrap IntKind.i64 ((↑(List.length x1):Int)-(1:Int)))]?) fun y0 =>
    Option.bind (kt N ((2:Int),x2,x3,x4)) fun y1 =>
    Option.bind (ow N (y1.2.1,y1.2.2.1,y1.2.2.2,())) fun y2 =>
    some ((y0,IntKind.wrap IntKind.i64 ((3:Int)+y1.1),y2,y1.2.1,y1.2.2.1,y1.2.2.2))) (
    none ))) (
  ac (x0==(17:Int)) (
   Option.bind (kt N ((3:Int),x2,x3,x4)) fun y3 =>
   Option.bind (ow N (y3.2.1,y3.2.2.1,y3.2.2.2,())) fun y4 =>
   some (((0:Int),IntKind.wrap IntKind.i64 ((3:Int)+y3.1),y4,y3.2.1,y3.2.2.1,y3.2.2.2))) (
   ac (x0==(18:Int)) (
    Option.bind (kt N ((7:Int),x2,x3,x4)) fun y5 =>
    Option.bind (ow N (y5.2.1,y5.2.2.1,y5.2.2.2,())) fun y6 =>
    some (((0:Int),IntKind.wrap IntKind.i64 ((11:Int)+y5.1),y6,y5.2.1,y5.2.2.1,y5.2.2.2))) (
    Option.bind (ow N (x2,x3,x4,())) fun y7 =>
    some ((x0,(1:Int),y7,x2,x3,x4)))))
noncomputable def aA2 (N:Nat):Pk→Tr Pk:=ah s367 w367 (am3 N)
theorem Vv (N:Nat):aA Tryz.prog (367) (aA2 N) :=
 (af ag ap (M5 N) Tryz.func367 s367 w367 [0] (cuts:=[]) trivial (fun _=>by kernel_rfl) (by decide +kernel) (am3 N) (fun x=>by kernel_rfl))
@[reducible] def s347:SP:=⟨[.adr 0 []],[.var 345 (.agg [.str,.int .i64,.int .i64])]⟩
noncomputable def YS (N:Nat):List (Nat×(Pk→Tr Pk)):=[(329,wP N),(330,A2 N),(365,aA3 N),(366,Uq s366.I (Vw N) (Kk N)),(349,VE N),(367,aA2 N)]
theorem kT (N:Nat):ai Tryz.prog (YS N):=⟨eD N,fZ N,Vx N,mj (AZ N) (ui N),A1 N,Vv N,trivial⟩
@[reducible] def vP:LD:=⟨508,[9,5,6,0,10],[(.ret,[2,3,4]),(.exit 1,[10,5])],⟨[.nilp,.int .i64,.int .i64,.adr 0 [],.sl 1],[.var 345 (.agg [.str,.int .i64,.int .i64]),.row (.int .i64) 3]⟩,[(.exit 1,⟨[.sl 1,.int .i64],[.var 345 (.agg [.str,.int .i64,.int .i64]),.row (.int .i64) 3]⟩)]⟩
abbrev vp:Type:=Int×Int×ByteArray×Int×Int×(List Int)
abbrev uE:Type:=Int×ByteArray×Int×Int×(List Int)
noncomputable def GQ (N:Nat) (f:vp→Option uE):vp→Option uE
 | (x0,x1,x2,x3,x4,x5) =>
 ac (decide ((↑(List.length x5):Int)<IntKind.wrap IntKind.i64 (x0+x1))) (
  Option.bind (O0 N (x2,x3,x4)) fun y0 =>
  none) (
  some ((x0,x2,x3,x4,x5)))
noncomputable def ot (N:Nat):Nat→vp→Option uE
 | 0,_=>none
 | k+1,x=>GQ N (ot N k) x
noncomputable def oJ (N:Nat) (k:Nat):Cut:=vP.cut (ot N k)
theorem kD (N:Nat) (k:Nat):al Tryz.prog false Tryz.f347 [0] 508 (oJ N k) :=
 vP.loopT ag ap (kT N) Tryz.f347 [0] (cuts:=[]) trivial (by decide +kernel) (by kernel_rfl) (GQ N) (ot N) (fun _=>rfl) (fun _ _=>rfl) (fun f x=>by kernel_rfl) k
@[reducible] def q4:LD:=⟨260286,[10,84,83,0,6,5,9,13],[(.ret,[2,3,4]),(.exit 4,[9,5,6,0,10]),(.exit 2,[9,5,6,0,10]),(.exit 1,[10,5])],⟨[.sl 1,.int .i64,.int .i64,.adr 0 [],.int .i64,.int .i64,.adr 2 [],.int .i64],[.var 345 (.agg [.str,.int .i64,.int .i64]),.row (.int .i64) 3,.var 397 (.agg [.arr (.int .i64) 16,.sl 3,.int .i64]),.row (.int .i64) 3]⟩,[(.exit 4,⟨[.adr 1 [],.int .i64,.int .i64,.adr 0 [],.sl 2],[.var 345 (.agg [.str,.int .i64,.int .i64]),.var 397 (.agg [.arr (.int .i64) 16,.sl 3,.int .i64]),.row (.int .i64) 3,.row (.int .i64) 3]⟩)]⟩
abbrev kh:Type:=Int×Int×Int×Int×Int×ByteArray×Int×Int×(List Int)×(List Int)×Int×(List Int)
abbrev j0:Type:=Int×Int×ByteArray×Int×Int×(List Int)×Int×(List Int)×(List Int)
noncomputable def rl (N:Nat) (f:kh→Option j0):kh→Option j0
 | (x0,x1,x2,x3,x4,x5,x6,x7,x8,x9,x10,x11) =>
 ac (decide (x0<x1)) (
  ac (decide ((List.length x8+List.length [x4])*(8:Nat)≤(140737488355328:Nat)∧List.length x8+List.length [x4]≤(140737488355328:Nat))) (
   Option.bind (f (IntKind.wrap IntKind.i64 (x0+(1:Int)),x1,x2,x3,x4,x5,x6,x7,x8++[x4],x9,x10,x11)) fun r=>some r) (
   none )) (
  some ((x3,x2,x5,x6,x7,x9,x10,x8,x11)))
noncomputable def ga (N:Nat):Nat→kh→Option j0
 | 0,_=>none
 | k+1,x=>rl N (ga N k) x
noncomputable def kF (N:Nat) (k:Nat):Cut:=q4.cut (ga N k)
theorem kE (N:Nat) (k:Nat):al Tryz.prog false Tryz.f347 [0] 260286 (kF N k) :=
 q4.loopT ag ap (kT N) Tryz.f347 [0] (cuts:=[(508,oJ N N)]) ⟨kD N N,trivial⟩ (by decide +kernel) (by kernel_rfl) (rl N) (ga N) (fun _=>rfl) (fun _ _=>rfl) (fun f x=>by kernel_rfl) k
@[reducible] def yK:LD:=⟨508,[9,5,6,0,10],[(.ret,[2,3,4]),(.exit 1,[10,5])],⟨[.adr 1 [],.int .i64,.int .i64,.adr 0 [],.sl 2],[.var 345 (.agg [.str,.int .i64,.int .i64]),.var 397 (.agg [.arr (.int .i64) 16,.sl 3,.int .i64]),.row (.int .i64) 3,.row (.int .i64) 3]⟩,[(.ret,⟨[.sl 1,.sl 2,.int .i64],[.var 345 (.agg [.str,.int .i64,.int .i64]),.row (.int .i64) 3,.row (.int .i64) 3]⟩),(.exit 1,⟨[.sl 1,.int .i64],[.var 345 (.agg [.str,.int .i64,.int .i64]),.row (.int .i64) 3]⟩)]⟩
abbrev qj:Type:=Int×Int×ByteArray×Int×Int×(List Int)×Int×(List Int)×(List Int)
abbrev pV:Type:=((Int×ByteArray×Int×Int×(List Int)×(List Int))⊕(Int×ByteArray×Int×Int×(List Int)))
noncomputable def zF (N:Nat) (f:qj→Option pV):qj→Option pV
 | (x0,x1,x2,x3,x4,x5,x6,x7,x8) =>
 ac (decide ((↑(List.length x7):Int)<IntKind.wrap IntKind.i64 (x0+x1))) (
  Option.bind (yS N (x5,x6,x2,x3,x4,x8)) fun(y0_0,y0_1,y0_2,y0_3,y0_4,y0_5,y0_6,y0_7) =>
  ac (y0_1 != (0:Int)) (
   Option.bind (Fi N y0_1) fun y1 =>
   some (.inl ((y1,y0_4,y0_5,y0_6,[],[])))) (
   Option.bind (am3 N (y0_0,x7,y0_4,y0_5,y0_6)) fun(y2_0,y2_1,y2_2,y2_3,y2_4,y2_5) =>
   ac (y2_2 != (0:Int)) (
    some (.inl ((y2_2,y2_3,y2_4,y2_5,[],[])))) (
    ac (decide (IntKind.wrap IntKind.i64 ((↑(List.length x7):Int)+y2_1)>IntKind.wrap IntKind.i64 (x0+x1))) (
     some (.inl (((80:Int),y2_3,y2_4,y2_5,[],[])))) (
     Option.bind (ga N N ((0:Int),y2_1,x1,x0,y2_0,y2_3,y2_4,y2_5,x7,y0_2,y0_3,y0_7)) fun(y3_0,y3_1,y3_2,y3_3,y3_4,y3_5,y3_6,y3_7,y3_8) =>
     Option.bind (f (y3_0,y3_1,y3_2,y3_3,y3_4,y3_5,y3_6,y3_7,y3_8)) fun r=>match r with|.inl y=>some (.inl y)|.inr y=>some (.inr y))))) (
  some (.inr ((x0,x2,x3,x4,x7))))
noncomputable def lD (N:Nat):Nat→qj→Option pV
 | 0,_=>none
 | k+1,x=>zF N (lD N k) x
noncomputable def zv (N:Nat) (k:Nat):Cut:=yK.cut (lD N k)
theorem Da (N:Nat) (k:Nat):al Tryz.prog false Tryz.f347 [0] 508 (zv N k) :=
 yK.loopT ag ap (kT N) Tryz.f347 [0] (cuts:=[(508,oJ N N),(260286,kF N N)]) ⟨kD N N,kE N N,trivial⟩ (by decide +kernel) (by kernel_rfl) (zF N) (lD N) (fun _=>rfl) (fun _ _=>rfl) (fun f x=>by kernel_rfl) k
@[reducible] def w347:List SP:=[⟨[.tup [.sl 1,.sl 2,.int .i64]],[.var 345 (.agg [.str,.int .i64,.int .i64]),.row (.int .i64) 3,.row (.int .i64) 3]⟩,⟨[.tup [.slp 1 (.c 0) .h,.slp 1 .h .h,.int .i64]],[.var 345 (.agg [.str,.int .i64,.int .i64]),.row (.int .i64) 3]⟩]
noncomputable def am7 (N:Nat):(ByteArray×Int×Int)→Option (((Int×ByteArray×Int×Int×(List Int)×(List Int))⊕(Nat×Nat×Nat×Int×ByteArray×Int×Int×(List Int))))
 | (x0,x1,x2) =>
 Option.bind (kt N ((5:Int),x0,x1,x2)) fun y0 =>
 Option.bind (kt N ((5:Int),y0.2.1,y0.2.2.1,y0.2.2.2)) fun y1 =>
 Option.bind (kt N ((4:Int),y1.2.1,y1.2.2.1,y1.2.2.2)) fun y2 =>
 Option.bind (ow N (y2.2.1,y2.2.2.1,y2.2.2.2,())) fun y3 =>
 ac (y3 != (0:Int)) (
  some (.inl ((y3,y2.2.1,y2.2.2.1,y2.2.2.2,[],[])))) (
  ac (decide (IntKind.wrap IntKind.i64 (y0.1+(257:Int))>(286:Int))) (
   some (.inl (((80:Int),y2.2.1,y2.2.2.1,y2.2.2.2,[],[])))) (
   ac (decide (IntKind.wrap IntKind.i64 (y1.1+(1:Int))>(30:Int))) (
    some (.inl (((80:Int),y2.2.1,y2.2.2.1,y2.2.2.2,[],[])))) (
    Option.bind (am4 N (IntKind.wrap IntKind.i64 (y2.1+(4:Int)),y2.2.1,y2.2.2.1,y2.2.2.2)) fun y4 =>
    match y4 with
    | .inl y5 =>
     ac (y5.1 != (0:Int)) (
      some (.inl ((y5.1,y5.2.1,y5.2.2.1,y5.2.2.2,[],[])))) (
      Option.bind (ot N N (IntKind.wrap IntKind.i64 (y0.1+(257:Int)),IntKind.wrap IntKind.i64 (y1.1+(1:Int)),y5.2.1,y5.2.2.1,y5.2.2.2,[])) fun y6 =>
      ac (decide ((0:Int)≤y6.1∧y6.1≤y6.1∧y6.1≤(↑(List.length y6.2.2.2.2):Int))) (
       ac (decide ((0:Int)≤y6.1∧y6.1≤(↑(List.length y6.2.2.2.2):Int))) (
        some (.inr ((Int.toNat y6.1,Int.toNat y6.1,List.length y6.2.2.2.2-Int.toNat y6.1,(0:Int),y6.2.1,y6.2.2.1,y6.2.2.2.1,y6.2.2.2.2)))) (
        none )) (
       none ))
    | .inr (y5_0,y5_1,y5_2,y5_3,y5_4,y5_5,y5_6) =>
     ac (y5_0 != (0:Int)) (
      some (.inl ((y5_0,y5_1,y5_2,y5_3,[],[])))) (
      Option.bind (lD N N (IntKind.wrap IntKind.i64 (y0.1+(257:Int)),IntKind.wrap IntKind.i64 (y1.1+(1:Int)),y5_1,y5_2,y5_3,y5_4,y5_5,[],y5_6)) fun y7 =>
      match y7 with
      | .inl (y8_0,y8_1,y8_2,y8_3,y8_4,y8_5) =>
       some (.inl ((y8_0,y8_1,y8_2,y8_3,y8_4,y8_5)))
      | .inr y8 =>
       ac (decide ((0:Int)≤y8.1∧y8.1≤y8.1∧y8.1≤(↑(List.length y8.2.2.2.2):Int))) (
        ac (decide ((0:Int)≤y8.1∧y8.1≤(↑(List.length y8.2.2.2.2):Int))) (
         some (.inr ((Int.toNat y8.1,Int.toNat y8.1,List.length y8.2.2.2.2-Int.toNat y8.1,(0:Int),y8.2.1,y8.2.2.1,y8.2.2.2.1,y8.2.2.2.2)))) (
         none )) (
        none )))))
noncomputable def aB2 (N:Nat):Pk→Tr Pk:=ah s347 w347 (am7 N)
theorem VG (N:Nat):aA Tryz.prog (347) (aB2 N) :=
 (af ag ap (kT N) Tryz.func347 s347 w347 [0] (cuts:=[(508,Dc vP.s.I (oJ N N) (zv N N)),(260286,kF N N)]) ⟨fun c' h=>cB (kD N N c' h) (Da N N c' h) rfl rfl,kE N N,trivial⟩ (fun _=>by kernel_rfl) (by decide +kernel) (am7 N) (fun x=>by kernel_rfl))
@[reducible] def s381:SP:=⟨[.adr 0 [],.int .i64,.fn 373],[.var 345 (.agg [.str,.int .i64,.int .i64])]⟩
noncomputable def Ym (N:Nat):List (Nat×(Pk→Tr Pk)):=[(373,ah6 N),(329,wP N),(330,A2 N)]
theorem MZ (N:Nat):ai Tryz.prog (Ym N):=⟨Kh N,eD N,fZ N,trivial⟩
@[reducible] def w381:List SP:=[⟨[.tup [.int .i64,.int .i64]],[.var 345 (.agg [.str,.int .i64,.int .i64])]⟩]
noncomputable def WY (N:Nat):(Int×ByteArray×Int×Int)→Option (Int×Int×ByteArray×Int×Int)
 | (x0,x1,x2,x3) =>
 Option.bind (W1 N x0) fun y0 =>
 Option.bind (kt N (y0.2,x1,x2,x3)) fun y1 =>
 Option.bind (ow N (y1.2.1,y1.2.2.1,y1.2.2.2,())) fun y2 =>
 some ((IntKind.wrap IntKind.i64 (y0.1+y1.1),y2,y1.2.1,y1.2.2.1,y1.2.2.2))
noncomputable def ah3 (N:Nat):Pk→Tr Pk:=ah s381 w381 (WY N)
theorem Ke (N:Nat):aA Tryz.prog (381) (ah3 N) :=
 (af ag ap (MZ N) Tryz.func381 s381 w381 [0] (cuts:=[]) trivial (fun _=>by kernel_rfl) (by decide +kernel) (WY N) (fun x=>by kernel_rfl))
@[reducible] def s369:SP:=⟨[.adr 0 [],.int .i64,.nilp],[.var 345 (.agg [.str,.int .i64,.int .i64])]⟩
noncomputable def Yy (N:Nat):List (Nat×(Pk→Tr Pk)):=[(381,ah3 N),(366,Vw N)]
theorem M4 (N:Nat):ai Tryz.prog (Yy N):=⟨Ke N,AZ N,trivial⟩
@[reducible] def w369:List SP:=[⟨[.tup [.agg [.int .i64,.int .i64,.int .i64],.int .i64]],[.var 345 (.agg [.str,.int .i64,.int .i64])]⟩]
noncomputable def am2 (N:Nat):(Int×ByteArray×Int×Int)→Option (Int×Int×Int×Int×ByteArray×Int×Int)
 | (x0,x1,x2,x3) =>
 ac (decide (x0>(285:Int))) (
  some (((0:Int),(0:Int),(0:Int),(3:Int),x1,x2,x3))) (
  Option.bind (WY N (x0,x1,x2,x3)) fun y0 =>
  ac (y0.2.1 != (0:Int)) (
   some (((0:Int),(0:Int),(0:Int),y0.2.1,y0.2.2.1,y0.2.2.2.1,y0.2.2.2.2))) (
   Option.bind (O0 N (y0.2.2.1,y0.2.2.2.1,y0.2.2.2.2)) fun y1 =>
   none))
noncomputable def aA1 (N:Nat):Pk→Tr Pk:=ah s369 w369 (am2 N)
theorem Vu (N:Nat):aA Tryz.prog (369) (aA1 N) :=
 (af ag ap (M4 N) Tryz.func369 s369 w369 [0] (cuts:=[]) trivial (fun _=>by kernel_rfl) (by decide +kernel) (am2 N) (fun x=>by kernel_rfl))
@[reducible] def s381a:SP:=⟨[.adr 0 [],.int .i64,.fn 374],[.var 345 (.agg [.str,.int .i64,.int .i64])]⟩
noncomputable def TW (N:Nat):List (Nat×(Pk→Tr Pk)):=[(374,ah5 N),(329,wP N),(330,A2 N)]
theorem Hd (N:Nat):ai Tryz.prog (TW N):=⟨Kg N,eD N,fZ N,trivial⟩
@[reducible] def w381a:List SP:=[⟨[.tup [.int .i64,.int .i64]],[.var 345 (.agg [.str,.int .i64,.int .i64])]⟩]
noncomputable def SG (N:Nat):(Int×ByteArray×Int×Int)→Option (Int×Int×ByteArray×Int×Int)
 | (x0,x1,x2,x3) =>
 Option.bind (W0 N x0) fun y0 =>
 Option.bind (kt N (y0.2,x1,x2,x3)) fun y1 =>
 Option.bind (ow N (y1.2.1,y1.2.2.1,y1.2.2.2,())) fun y2 =>
 some ((IntKind.wrap IntKind.i64 (y0.1+y1.1),y2,y1.2.1,y1.2.2.1,y1.2.2.2))
noncomputable def XV (N:Nat):Pk→Tr Pk:=ah s381a w381a (SG N)
theorem RS (N:Nat):aA Tryz.prog (381) (XV N) :=
 (af ag ap (Hd N) Tryz.func381 s381a w381a [0] (cuts:=[]) trivial (fun _=>by kernel_rfl) (by decide +kernel) (SG N) (fun x=>by kernel_rfl))
@[reducible] def s369a:SP:=⟨[.adr 0 [],.int .i64,.adr 1 []],[.var 345 (.agg [.str,.int .i64,.int .i64]),.var 397 (.agg [.arr (.int .i64) 16,.sl 2,.int .i64]),.row (.int .i64) 3]⟩
noncomputable def TY (N:Nat):List (Nat×(Pk→Tr Pk)):=[(381,Uq s381.I (ah3 N) (XV N)),(366,Kk N)]
theorem He (N:Nat):ai Tryz.prog (TY N):=⟨mj (Ke N) (RS N),ui N,trivial⟩
@[reducible] def w369a:List SP:=[⟨[.tup [.agg [.int .i64,.int .i64,.int .i64],.int .i64]],[.var 345 (.agg [.str,.int .i64,.int .i64]),.var 397 (.agg [.arr (.int .i64) 16,.sl 2,.int .i64]),.row (.int .i64) 3]⟩]
noncomputable def SJ (N:Nat):(Int×ByteArray×Int×Int×(List Int)×Int×(List Int))→Option (Int×Int×Int×Int×ByteArray×Int×Int×(List Int)×Int×(List Int))
 | (x0,x1,x2,x3,x4,x5,x6) =>
 ac (decide (x0>(285:Int))) (
  some (((0:Int),(0:Int),(0:Int),(3:Int),x1,x2,x3,x4,x5,x6))) (
  Option.bind (WY N (x0,x1,x2,x3)) fun y0 =>
  ac (y0.2.1 != (0:Int)) (
   some (((0:Int),(0:Int),(0:Int),y0.2.1,y0.2.2.1,y0.2.2.2.1,y0.2.2.2.2,x4,x5,x6))) (
   Option.bind (yS N (x4,x5,y0.2.2.1,y0.2.2.2.1,y0.2.2.2.2,x6)) fun(y1_0,y1_1,y1_2,y1_3,y1_4,y1_5,y1_6,y1_7) =>
   ac (y1_1 != (0:Int)) (
    some (((0:Int),(0:Int),(0:Int),y1_1,y1_4,y1_5,y1_6,y1_2,y1_3,y1_7))) (
    ac (decide (y1_0≥(30:Int))) (
     some (((0:Int),(0:Int),(0:Int),(3:Int),y1_4,y1_5,y1_6,y1_2,y1_3,y1_7))) (
     Option.bind (SG N (y1_0,y1_4,y1_5,y1_6)) fun y2 =>
     some (((0:Int),y0.1,y2.1,y2.2.1,y2.2.2.1,y2.2.2.2.1,y2.2.2.2.2,y1_2,y1_3,y1_7))))))
noncomputable def XX (N:Nat):Pk→Tr Pk:=ah s369a w369a (SJ N)
theorem RV (N:Nat):aA Tryz.prog (369) (XX N) :=
 (af ag ap (He N) Tryz.func369 s369a w369a [0,1] (cuts:=[]) trivial (fun _=>by kernel_rfl) (by decide +kernel) (SJ N) (fun x=>by kernel_rfl))
@[reducible] def s348:SP:=⟨[.adr 0 [],.ro (.int .i64),.ro (.int .i64),.int .i64],[.var 345 (.agg [.str,.int .i64,.int .i64])]⟩
noncomputable def YR (N:Nat):List (Nat×(Pk→Tr Pk)):=[(368,ah9 N),(366,Uq s366.I (Vw N) (Kk N)),(369,Uq s369.I (aA1 N) (XX N))]
theorem gD (N:Nat):ai Tryz.prog (YR N):=⟨Kj N,mj (AZ N) (ui N),mj (Vu N) (RV N),trivial⟩
@[reducible] def ko:LD:=⟨254,[14,10,0,12,3,15],[(.ret,[8,9]),(.exit 0,[8,9])],⟨[.sl 1,.nilp,.adr 0 [],.nilp,.int .i64,.int .i64],[.var 345 (.agg [.str,.int .i64,.int .i64]),.row y4 281]⟩,[]⟩
abbrev vo:Type:=Int×Int×ByteArray×Int×Int×(List (Int×(Int×(Int×Unit))))
abbrev uD:Type:=Unit
noncomputable def GP (N:Nat) (f:vo→Option uD):vo→Option uD
 | (x0,x1,x2,x3,x4,x5) =>
 Option.bind (O0 N (x2,x3,x4)) fun y0 =>
 none
noncomputable def oq (N:Nat):Nat→vo→Option uD
 | 0,_=>none
 | k+1,x=>GP N (oq N k) x
noncomputable def kC (N:Nat) (k:Nat):Cut:=ko.cut (oq N k)
theorem gi (N:Nat) (k:Nat):al Tryz.prog false Tryz.f348 [0] 254 (kC N k) :=
 ko.loopT ag ap (gD N) Tryz.f348 [0] (cuts:=[]) trivial (by decide +kernel) (by kernel_rfl) (GP N) (oq N) (fun _=>rfl) (fun _ _=>rfl) (fun f x=>by kernel_rfl) k
@[reducible] def lr:LD:=⟨254,[14,10,0,12,3,15],[(.ret,[8,9]),(.exit 0,[8,9])],⟨[.sl 1,.nilp,.adr 0 [],.adr 2 [],.int .i64,.int .i64],[.var 345 (.agg [.str,.int .i64,.int .i64]),.row y4 281,.var 397 (.agg [.arr (.int .i64) 16,.sl 3,.int .i64]),.row (.int .i64) 3]⟩,[]⟩
abbrev qi:Type:=Int×Int×ByteArray×Int×Int×(List (Int×(Int×(Int×Unit))))×(List Int)×Int×(List Int)
abbrev pU:Type:=Unit
noncomputable def zE (N:Nat) (f:qi→Option pU):qi→Option pU
 | (x0,x1,x2,x3,x4,x5,x6,x7,x8) =>
 Option.bind (O0 N (x2,x3,x4)) fun y0 =>
 none
noncomputable def lC (N:Nat):Nat→qi→Option pU
 | 0,_=>none
 | k+1,x=>zE N (lC N k) x
noncomputable def lJ (N:Nat) (k:Nat):Cut:=lr.cut (lC N k)
theorem jg (N:Nat) (k:Nat):al Tryz.prog false Tryz.f348 [0] 254 (lJ N k) :=
 lr.loopT ag ap (gD N) Tryz.f348 [0] (cuts:=[(254,kC N N)]) ⟨gi N N,trivial⟩ (by decide +kernel) (by kernel_rfl) (zE N) (lC N) (fun _=>rfl) (fun _ _=>rfl) (fun f x=>by kernel_rfl) k
@[reducible] def qo:LD:=⟨254,[14,10,0,12,3,15],[(.ret,[8,9]),(.exit 0,[8,9])],⟨[.sl 1,.adr 2 [],.adr 0 [],.nilp,.int .i64,.int .i64],[.var 345 (.agg [.str,.int .i64,.int .i64]),.row y4 281,.var 397 (.agg [.arr (.int .i64) 16,.sl 3,.int .i64]),.row (.int .i64) 3]⟩,[(.ret,⟨[.sl 1,.int .i64],[.var 345 (.agg [.str,.int .i64,.int .i64]),.row y4 281]⟩)]⟩
abbrev qh:Type:=Int×Int×ByteArray×Int×Int×(List (Int×(Int×(Int×Unit))))×(List Int)×Int×(List Int)
abbrev pT:Type:=Int×ByteArray×Int×Int×(List (Int×(Int×(Int×Unit))))
noncomputable def zD (N:Nat) (f:qh→Option pT):qh→Option pT
 | (x0,x1,x2,x3,x4,x5,x6,x7,x8) =>
 Option.bind (yS N (x6,x7,x2,x3,x4,x8)) fun(y0_0,y0_1,y0_2,y0_3,y0_4,y0_5,y0_6,y0_7) =>
 ac (y0_1 != (0:Int)) (
  some ((y0_1,y0_4,y0_5,y0_6,[]))) (
  ac (y0_0==(256:Int)) (
   some (((0:Int),y0_4,y0_5,y0_6,x5))) (
   ac (decide (y0_0>(256:Int))) (
    Option.bind (am2 N (y0_0,y0_4,y0_5,y0_6)) fun(y1_0,y1_1,y1_2,y1_3,y1_4,y1_5,y1_6) =>
    ac (y1_3 != (0:Int)) (
     some ((y1_3,y1_4,y1_5,y1_6,[]))) (
     ac (decide (IntKind.wrap IntKind.i64 (x1+if (1:Int)>y1_1 then (1:Int) else y1_1)>x0)) (
      some (((4:Int),y1_4,y1_5,y1_6,[]))) (
      ac (decide ((List.length x5+List.length [(y1_0,y1_1,y1_2,())])*(24:Nat)≤(140737488355328:Nat)∧List.length x5+List.length [(y1_0,y1_1,y1_2,())]≤(140737488355328:Nat))) (
       Option.bind (f (x0,IntKind.wrap IntKind.i64 (x1+if (1:Int)>y1_1 then (1:Int) else y1_1),y1_4,y1_5,y1_6,x5++[(y1_0,y1_1,y1_2,())],y0_2,y0_3,y0_7)) fun r=>some r) (
       none )))) (
    ac (decide (IntKind.wrap IntKind.i64 (x1+(1:Int))>x0)) (
     some (((4:Int),y0_4,y0_5,y0_6,[]))) (
     ac (decide ((List.length x5+List.length [(y0_0,(0:Int),(0:Int),())])*(24:Nat)≤(140737488355328:Nat)∧List.length x5+List.length [(y0_0,(0:Int),(0:Int),())]≤(140737488355328:Nat))) (
      Option.bind (f (x0,IntKind.wrap IntKind.i64 (x1+(1:Int)),y0_4,y0_5,y0_6,x5++[(y0_0,(0:Int),(0:Int),())],y0_2,y0_3,y0_7)) fun r=>some r) (
      none )))))
noncomputable def lB (N:Nat):Nat→qh→Option pT
 | 0,_=>none
 | k+1,x=>zD N (lB N k) x
noncomputable def qz (N:Nat) (k:Nat):Cut:=qo.cut (lB N k)
theorem oI (N:Nat) (k:Nat):al Tryz.prog false Tryz.f348 [0] 254 (qz N k) :=
 qo.loopT ag ap (gD N) Tryz.f348 [0] (cuts:=[(254,Dc ko.s.I (kC N N) (lJ N N))]) ⟨fun c' h=>cB (gi N N c' h) (jg N N c' h) rfl rfl,trivial⟩ (by decide +kernel) (by kernel_rfl) (zD N) (lB N) (fun _=>rfl) (fun _ _=>rfl) (fun f x=>by kernel_rfl) k
@[reducible] def yJ:LD:=⟨254,[14,10,0,12,3,15],[(.ret,[8,9]),(.exit 0,[8,9])],⟨[.sl 1,.adr 2 [],.adr 0 [],.adr 3 [],.int .i64,.int .i64],[.var 345 (.agg [.str,.int .i64,.int .i64]),.row y4 281,.var 397 (.agg [.arr (.int .i64) 16,.sl 4,.int .i64]),.var 397 (.agg [.arr (.int .i64) 16,.sl 5,.int .i64]),.row (.int .i64) 3,.row (.int .i64) 3]⟩,[(.ret,⟨[.sl 1,.int .i64],[.var 345 (.agg [.str,.int .i64,.int .i64]),.row y4 281]⟩)]⟩
abbrev qg:Type:=Int×Int×ByteArray×Int×Int×(List (Int×(Int×(Int×Unit))))×(List Int)×Int×(List Int)×Int×(List Int)×(List Int)
abbrev pS:Type:=Int×ByteArray×Int×Int×(List (Int×(Int×(Int×Unit))))
noncomputable def zC (N:Nat) (f:qg→Option pS):qg→Option pS
 | (x0,x1,x2,x3,x4,x5,x6,x7,x8,x9,x10,x11) =>
 Option.bind (yS N (x6,x7,x2,x3,x4,x10)) fun(y0_0,y0_1,y0_2,y0_3,y0_4,y0_5,y0_6,y0_7) =>
 ac (y0_1 != (0:Int)) (
  some ((y0_1,y0_4,y0_5,y0_6,[]))) (
  ac (y0_0==(256:Int)) (
   some (((0:Int),y0_4,y0_5,y0_6,x5))) (
   ac (decide (y0_0>(256:Int))) (
    Option.bind (SJ N (y0_0,y0_4,y0_5,y0_6,x8,x9,x11)) fun(y1_0,y1_1,y1_2,y1_3,y1_4,y1_5,y1_6,y1_7,y1_8,y1_9) =>
    ac (y1_3 != (0:Int)) (
     some ((y1_3,y1_4,y1_5,y1_6,[]))) (
     ac (decide (IntKind.wrap IntKind.i64 (x1+if (1:Int)>y1_1 then (1:Int) else y1_1)>x0)) (
      some (((4:Int),y1_4,y1_5,y1_6,[]))) (
      ac (decide ((List.length x5+List.length [(y1_0,y1_1,y1_2,())])*(24:Nat)≤(140737488355328:Nat)∧List.length x5+List.length [(y1_0,y1_1,y1_2,())]≤(140737488355328:Nat))) (
       Option.bind (f (x0,IntKind.wrap IntKind.i64 (x1+if (1:Int)>y1_1 then (1:Int) else y1_1),y1_4,y1_5,y1_6,x5++[(y1_0,y1_1,y1_2,())],y0_2,y0_3,y1_7,y1_8,y0_7,y1_9)) fun r=>some r) (
       none )))) (
    ac (decide (IntKind.wrap IntKind.i64 (x1+(1:Int))>x0)) (
     some (((4:Int),y0_4,y0_5,y0_6,[]))) (
     ac (decide ((List.length x5+List.length [(y0_0,(0:Int),(0:Int),())])*(24:Nat)≤(140737488355328:Nat)∧List.length x5+List.length [(y0_0,(0:Int),(0:Int),())]≤(140737488355328:Nat))) (
      Option.bind (f (x0,IntKind.wrap IntKind.i64 (x1+(1:Int)),y0_4,y0_5,y0_6,x5++[(y0_0,(0:Int),(0:Int),())],y0_2,y0_3,x8,x9,y0_7,x11)) fun r=>some r) (
      none )))))
noncomputable def lA (N:Nat):Nat→qg→Option pS
 | 0,_=>none
 | k+1,x=>zC N (lA N k) x
noncomputable def zu (N:Nat) (k:Nat):Cut:=yJ.cut (lA N k)
theorem C9 (N:Nat) (k:Nat):al Tryz.prog false Tryz.f348 [0] 254 (zu N k) :=
 yJ.loopT ag ap (gD N) Tryz.f348 [0] (cuts:=[(254,Dc ko.s.I (kC N N) (Dc lr.s.I (lJ N N) (qz N N)))]) ⟨fun c' h=>cB (gi N N c' h) (cB (jg N N c' h) (oI N N c' h) rfl rfl) rfl rfl,trivial⟩ (by decide +kernel) (by kernel_rfl) (zC N) (lA N) (fun _=>rfl) (fun _ _=>rfl) (fun f x=>by kernel_rfl) k
@[reducible] def w348:List SP:=[⟨[.tup [.sl 1,.int .i64]],[.var 345 (.agg [.str,.int .i64,.int .i64]),.row y4 281]⟩]
noncomputable def SR (N:Nat):((List Int)×(List Int)×Int×ByteArray×Int×Int)→Option (Int×ByteArray×Int×Int×(List (Int×(Int×(Int×Unit)))))
 | (x0,x1,x2,x3,x4,x5) =>
 Option.bind (OZ N x0) fun y0 =>
 match y0 with
 | .inl y1 =>
  Option.bind (OZ N x1) fun y2 =>
  match y2 with
  | .inl y3 =>
   ac (y1 != (0:Int)) (
    some (((50:Int),x3,x4,x5,[]))) (
    ac (y3 != (0:Int)) (
     some (((50:Int),x3,x4,x5,[]))) (
     Option.bind (oq N N (x2,(0:Int),x3,x4,x5,[])) fun y4 =>
     none))
  | .inr y3 =>
   ac (y1 != (0:Int)) (
    some (((50:Int),x3,x4,x5,[]))) (
    ac (y3.1 != (0:Int)) (
     some (((50:Int),x3,x4,x5,[]))) (
     Option.bind (lC N N (x2,(0:Int),x3,x4,x5,[],y3.2.1,y3.2.2.1,y3.2.2.2)) fun y5 =>
     none))
 | .inr y1 =>
  Option.bind (OZ N x1) fun y6 =>
  match y6 with
  | .inl y7 =>
   ac (y1.1 != (0:Int)) (
    some (((50:Int),x3,x4,x5,[]))) (
    ac (y7 != (0:Int)) (
     some (((50:Int),x3,x4,x5,[]))) (
     Option.bind (lB N N (x2,(0:Int),x3,x4,x5,[],y1.2.1,y1.2.2.1,y1.2.2.2)) fun y8 =>
     some ((y8.1,y8.2.1,y8.2.2.1,y8.2.2.2.1,y8.2.2.2.2))))
  | .inr y7 =>
   ac (y1.1 != (0:Int)) (
    some (((50:Int),x3,x4,x5,[]))) (
    ac (y7.1 != (0:Int)) (
     some (((50:Int),x3,x4,x5,[]))) (
     Option.bind (lA N N (x2,(0:Int),x3,x4,x5,[],y1.2.1,y1.2.2.1,y7.2.1,y7.2.2.1,y1.2.2.2,y7.2.2.2)) fun y9 =>
     some ((y9.1,y9.2.1,y9.2.2.1,y9.2.2.2.1,y9.2.2.2.2))))
noncomputable def aB1 (N:Nat):Pk→Tr Pk:=ah s348 w348 (SR N)
theorem VF (N:Nat):aA Tryz.prog (348) (aB1 N) :=
 (af ag ap (gD N) Tryz.func348 s348 w348 [0] (cuts:=[(254,Dc ko.s.I (kC N N) (Dc lr.s.I (lJ N N) (Dc qo.s.I (qz N N) (zu N N))))]) ⟨fun c' h=>cB (gi N N c' h) (cB (jg N N c' h) (cB (oI N N c' h) (C9 N N c' h) rfl rfl) rfl rfl) rfl rfl,trivial⟩ (fun _=>by kernel_rfl) (by decide +kernel) (SR N) (fun x=>by kernel_rfl))
@[reducible] def s350:SP:=⟨[.str,.ro y4],[]⟩
noncomputable def YP (N:Nat):List (Nat×(Pk→Tr Pk)):=[(229,OS N),(335,RY N)]
theorem oZ (N:Nat):ai Tryz.prog (YP N):=⟨nS N,rU N,trivial⟩
@[reducible] def vO:LD:=⟨62670,[6,43,42,15,7,16,17,9],[(.ret,[4,5]),(.exit 3,[17,16,7,15,6]),(.exit 1,[17,16,7,15,6]),(.exit 0,[6,7])],⟨[.sl 0,.int .i64,.int .i64,.ro y4,.int .i64,.int .i64,.int .i64,.adr 1 []],[.row (.int .u8) 5,.var 281 (.agg [.int .i64,.int .i64,.int .i64])]⟩,[(.exit 3,⟨[.int .i64,.int .i64,.int .i64,.ro y4,.sl 0],[.row (.int .u8) 5]⟩)]⟩
abbrev mM:Type:=Int×Int×(List (Int×(Int×(Int×Unit))))×Int×Int×Int×(List Int)×Int×Int×Int
abbrev mE:Type:=Int×Int×Int×(List (Int×(Int×(Int×Unit))))×(List Int)
noncomputable def ww (N:Nat) (f:mM→Option mE):mM→Option mE
 | (x0,x1,x2,x3,x4,x5,x6,x7,x8,x9) =>
 ac (decide (x0<x1)) (
  ac (within (IntKind.wrap IntKind.i64 ((↑(List.length x6):Int)-x9)) (List.length x6)) (
   Option.bind (x6[Int.toNat (IntKind.wrap IntKind.i64 ((↑(List.length x6):Int)-x9))]?) fun y0 =>
   ac (decide ((List.length x6+List.length [y0])*(1:Nat)≤(140737488355328:Nat)∧List.length x6+List.length [y0]≤(140737488355328:Nat))) (
    Option.bind (f (IntKind.wrap IntKind.i64 (x0+(1:Int)),x1,x2,x3,x4,x5,x6++[y0],x7,x8,x9)) fun r=>some r) (
    none )) (
   none )) (
  some ((x5,x4,x3,x2,x6)))
noncomputable def fC (N:Nat):Nat→mM→Option mE
 | 0,_=>none
 | k+1,x=>ww N (fC N k) x
noncomputable def mZ (N:Nat) (k:Nat):Cut:=vO.cut (fC N k)
theorem l8 (N:Nat) (k:Nat):al Tryz.prog false Tryz.f350 [] 62670 (mZ N k) :=
 vO.loopT ag ap (oZ N) Tryz.f350 [] (cuts:=[]) trivial (by decide +kernel) (by kernel_rfl) (ww N) (fC N) (fun _=>rfl) (fun _ _=>rfl) (fun f x=>by kernel_rfl) k
@[reducible] def EP:LD:=⟨122,[17,16,7,15,6],[(.ret,[4,5]),(.exit 0,[6,7])],⟨[.int .i64,.int .i64,.int .i64,.ro y4,.sl 0],[.row (.int .u8) 5]⟩,[(.ret,⟨[.str,.int .i64],[]⟩),(.exit 0,⟨[.sl 0,.int .i64],[.row (.int .u8) 5]⟩)]⟩
abbrev vk:Type:=Int×Int×Int×(List (Int×(Int×(Int×Unit))))×(List Int)
abbrev uB:Type:=((ByteArray×Int)⊕(Int×(List Int)))
noncomputable def GO (N:Nat) (f:vk→Option uB):vk→Option uB
 | (x0,x1,x2,x3,x4) =>
 ac (decide (x0<x1)) (
  ac (within x0 (List.length x3)) (
   Option.bind (x3[Int.toNat x0]?) fun y0 =>
   Option.bind (O3 N (y0.1,y0.2.1,y0.2.2.1)) fun y1 =>
   ac (!y1) (
    some (.inl ((ByteArray.mk #[],(1:Int))))) (
    ac (y0.2.1==(0:Int)) (
     ac (decide ((List.length x4+List.length [IntKind.wrap IntKind.u8 y0.1])*(1:Nat)≤(140737488355328:Nat)∧List.length x4+List.length [IntKind.wrap IntKind.u8 y0.1]≤(140737488355328:Nat))) (
      Option.bind (fC N N ((0:Int),y0.2.1,x3,x2,x1,x0,x4++[IntKind.wrap IntKind.u8 y0.1],y0.1,y0.2.1,y0.2.2.1)) fun y2 =>
      Option.bind (f (IntKind.wrap IntKind.i64 (y2.1+(1:Int)),y2.2.1,y2.2.2.1,y2.2.2.2.1,y2.2.2.2.2)) fun r=>match r with|.inl y=>some (.inl y)|.inr y=>some (.inr y)) (
      none )) (
     ac (decide (y0.2.2.1>(↑(List.length x4):Int))) (
      some (.inl ((ByteArray.mk #[],(60:Int))))) (
      Option.bind (fC N N ((0:Int),y0.2.1,x3,x2,x1,x0,x4,y0.1,y0.2.1,y0.2.2.1)) fun y3 =>
      Option.bind (f (IntKind.wrap IntKind.i64 (y3.1+(1:Int)),y3.2.1,y3.2.2.1,y3.2.2.2.1,y3.2.2.2.2)) fun r=>match r with|.inl y=>some (.inl y)|.inr y=>some (.inr y))))) (
   none )) (
  some (.inr ((x2,x4))))
noncomputable def oo (N:Nat):Nat→vk→Option uB
 | 0,_=>none
 | k+1,x=>GO N (oo N k) x
noncomputable def FZ (N:Nat) (k:Nat):Cut:=EP.cut (oo N k)
theorem FY (N:Nat) (k:Nat):al Tryz.prog false Tryz.f350 [] 122 (FZ N k) :=
 EP.loopT ag ap (oZ N) Tryz.f350 [] (cuts:=[(62670,mZ N N)]) ⟨l8 N N,trivial⟩ (by decide +kernel) (by kernel_rfl) (GO N) (oo N) (fun _=>rfl) (fun _ _=>rfl) (fun f x=>by kernel_rfl) k
@[reducible] def w350:List SP:=[⟨[.tup [.str,.int .i64]],[]⟩]
noncomputable def SQ (N:Nat):(ByteArray×(List (Int×(Int×(Int×Unit)))))→Option (ByteArray×Int)
 | (x0,x1) =>
 Option.bind (IF N x0) fun y0 =>
 ac (decide (ByteArray.size y0≤(140737488355328:Nat))) (
  Option.bind (oo N N ((0:Int),(↑(List.length x1):Int),(↑(List.length (bytesOf y0)):Int),x1,bytesOf y0)) fun y1 =>
  match y1 with
  | .inl y2 =>
   some ((y2.1,y2.2))
  | .inr y2 =>
   ac (decide ((0:Int)≤y2.1∧y2.1≤(↑(List.length y2.2):Int))) (
    some ((aE (List.take (List.length y2.2-Int.toNat y2.1) (List.drop (Int.toNat y2.1) y2.2)),(0:Int)))) (
    none )) (
  none )
noncomputable def aA9 (N:Nat):Pk→Tr Pk:=ah s350 w350 (SQ N)
theorem VD (N:Nat):aA Tryz.prog (350) (aA9 N) :=
 (af ag ap (oZ N) Tryz.func350 s350 w350 [] (cuts:=[(62670,mZ N N),(122,FZ N N)]) ⟨l8 N N,FY N N,trivial⟩ (fun _=>by kernel_rfl) (by decide +kernel) (SQ N) (fun x=>by kernel_rfl))
@[reducible] def s332:SP:=⟨[.adr 0 [],.int .i64,.str,.int .i64],[.var 345 (.agg [.str,.int .i64,.int .i64])]⟩
noncomputable def Y4 (N:Nat):List (Nat×(Pk→Tr Pk)):=[(336,ai9 N),(347,aB2 N),(348,aB1 N),(349,VE N),(350,aA9 N)]
theorem Nl (N:Nat):ai Tryz.prog (Y4 N):=⟨Kv N,VG N,VF N,A1 N,VD N,trivial⟩
@[reducible] def w332:List SP:=[⟨[.tup [.str,.int .i64]],[.var 345 (.agg [.str,.int .i64,.int .i64])]⟩]
noncomputable def Xf (N:Nat):(Int×ByteArray×Int×ByteArray×Int×Int)→Option (ByteArray×Int×ByteArray×Int×Int)
 | (x0,x1,x2,x3,x4,x5) =>
 Option.bind (Xe N ()) fun y0 =>
 ac (x0==(2:Int)) (
  Option.bind (am7 N (x3,x4,x5)) fun y1 =>
  match y1 with
  | .inl (y2_0,y2_1,y2_2,y2_3,y2_4,y2_5) =>
   ac (y2_0 != (0:Int)) (
    some ((ByteArray.mk #[],y2_0,y2_1,y2_2,y2_3))) (
    Option.bind (SR N (y2_4,y2_5,x2,y2_1,y2_2,y2_3)) fun y3 =>
    ac (y3.1 != (0:Int)) (
     Option.bind (Fi N y3.1) fun y4 =>
     some ((ByteArray.mk #[],y4,y3.2.1,y3.2.2.1,y3.2.2.2.1))) (
     Option.bind (SQ N (x1,y3.2.2.2.2)) fun y5 =>
     some ((y5.1,y5.2,y3.2.1,y3.2.2.1,y3.2.2.2.1))))
  | .inr (y2_0,y2_1,y2_2,y2_3,y2_4,y2_5,y2_6,y2_7) =>
   ac (y2_3 != (0:Int)) (
    some ((ByteArray.mk #[],y2_3,y2_4,y2_5,y2_6))) (
    Option.bind (SR N (List.take y2_0 y2_7,List.take y2_2 (List.drop y2_1 y2_7),x2,y2_4,y2_5,y2_6)) fun y6 =>
    ac (y6.1 != (0:Int)) (
     Option.bind (Fi N y6.1) fun y7 =>
     some ((ByteArray.mk #[],y7,y6.2.1,y6.2.2.1,y6.2.2.2.1))) (
     Option.bind (SQ N (x1,y6.2.2.2.2)) fun y8 =>
     some ((y8.1,y8.2,y6.2.1,y6.2.2.1,y6.2.2.2.1))))) (
  Option.bind (SR N (y0.1,y0.2,x2,x3,x4,x5)) fun y9 =>
  ac (y9.1 != (0:Int)) (
   Option.bind (Fi N y9.1) fun y10 =>
   some ((ByteArray.mk #[],y10,y9.2.1,y9.2.2.1,y9.2.2.2.1))) (
   Option.bind (SQ N (x1,y9.2.2.2.2)) fun y11 =>
   some ((y11.1,y11.2,y9.2.1,y9.2.2.1,y9.2.2.2.1))))
noncomputable def aC0 (N:Nat):Pk→Tr Pk:=ah s332 w332 (Xf N)
theorem VO (N:Nat):aA Tryz.prog (332) (aC0 N) :=
 (af ag ap (Nl N) Tryz.func332 s332 w332 [0] (cuts:=[]) trivial (fun _=>by kernel_rfl) (by decide +kernel) (Xf N) (fun x=>by kernel_rfl))
@[reducible] def s306:SP:=⟨[.adr 0 [],.str,.int .i64],[.var 345 (.agg [.str,.int .i64,.int .i64])]⟩
noncomputable def Zf (N:Nat):List (Nat×(Pk→Tr Pk)):=[(329,wP N),(330,A2 N),(331,aC1 N),(332,aC0 N)]
theorem Nt (N:Nat):ai Tryz.prog (Zf N):=⟨eD N,fZ N,VP N,VO N,trivial⟩
@[reducible] def w306:List SP:=[⟨[.tup [.str,.bool,.int .i64,.int .i64]],[.var 345 (.agg [.str,.int .i64,.int .i64])]⟩]
noncomputable def ao0 (N:Nat):(ByteArray×Int×ByteArray×Int×Int)→Option (ByteArray×Bool×Int×Int×ByteArray×Int×Int)
 | (x0,x1,x2,x3,x4) =>
 Option.bind (kt N ((1:Int),x2,x3,x4)) fun y0 =>
 Option.bind (kt N ((2:Int),y0.2.1,y0.2.2.1,y0.2.2.2)) fun y1 =>
 Option.bind (ow N (y1.2.1,y1.2.2.1,y1.2.2.2,())) fun y2 =>
 ac (y2 != (0:Int)) (
  some ((ByteArray.mk #[],false,(0:Int),y2,y1.2.1,y1.2.2.1,y1.2.2.2))) (
  ac (y1.1==(0:Int)) (
   Option.bind (an2 N (x1,y1.2.1,y1.2.2.1,y1.2.2.2)) fun y3 =>
   ac (y3.2.1 != (0:Int)) (
    some ((ByteArray.mk #[],false,(0:Int),y3.2.1,y3.2.2.1,y3.2.2.2.1,y3.2.2.2.2))) (
    some ((y3.1,y0.1==(1:Int),y1.1,(0:Int),y3.2.2.1,y3.2.2.2.1,y3.2.2.2.2)))) (
   ac (y1.1==(1:Int)) (
    Option.bind (Xf N (y1.1,x0,x1,y1.2.1,y1.2.2.1,y1.2.2.2)) fun y4 =>
    ac (y4.2.1 != (0:Int)) (
     some ((ByteArray.mk #[],false,(0:Int),y4.2.1,y4.2.2.1,y4.2.2.2.1,y4.2.2.2.2))) (
     some ((y4.1,y0.1==(1:Int),y1.1,(0:Int),y4.2.2.1,y4.2.2.2.1,y4.2.2.2.2)))) (
    ac (y1.1==(2:Int)) (
     Option.bind (Xf N (y1.1,x0,x1,y1.2.1,y1.2.2.1,y1.2.2.2)) fun y5 =>
     ac (y5.2.1 != (0:Int)) (
      some ((ByteArray.mk #[],false,(0:Int),y5.2.1,y5.2.2.1,y5.2.2.2.1,y5.2.2.2.2))) (
      some ((y5.1,y0.1==(1:Int),y1.1,(0:Int),y5.2.2.1,y5.2.2.2.1,y5.2.2.2.2)))) (
     some ((ByteArray.mk #[],false,(0:Int),(80:Int),y1.2.1,y1.2.2.1,y1.2.2.2))))))
noncomputable def aC6 (N:Nat):Pk→Tr Pk:=ah s306 w306 (ao0 N)
theorem VV (N:Nat):aA Tryz.prog (306) (aC6 N) :=
 (af ag ap (Nt N) Tryz.func306 s306 w306 [0] (cuts:=[]) trivial (fun _=>by kernel_rfl) (by decide +kernel) (ao0 N) (fun x=>by kernel_rfl))
@[reducible] def s263:SP:=⟨[.str,.str,.int .i64],[]⟩
noncomputable def Zu (N:Nat):List (Nat×(Pk→Tr Pk)):=[(283,aD2 N),(305,VW N),(229,OS N),(306,aC6 N)]
theorem xy (N:Nat):ai Tryz.prog (Zu N):=⟨V2 N,A4 N,nS N,VV N,trivial⟩
@[reducible] def EW:LD:=⟨124,[10,9,8,0,2],[(.ret,[6,7]),(.exit 0,[10,9])],⟨[.bool,.str,.adr 0 [],.str,.int .i64],[.var 345 (.agg [.str,.int .i64,.int .i64])]⟩,[(.ret,⟨[.str,.int .i64],[]⟩),(.exit 0,⟨[.bool,.str],[]⟩)]⟩
abbrev vA:Type:=Bool×ByteArray×ByteArray×Int×ByteArray×Int×Int
abbrev uL:Type:=((ByteArray×Int)⊕(Bool×ByteArray))
noncomputable def GX (N:Nat) (f:vA→Option uL):vA→Option uL
 | (x0,x1,x2,x3,x4,x5,x6) =>
 Option.bind (O6 N (x4,x5,x6,())) fun y0 =>
 ac (decide (y0>(0:Int))) (
  ac (decide ((↑(ByteArray.size x2+ByteArray.size x1):Int)>(9223372036854775807:Int))) (
   none ) (
   Option.bind (IF N (x2++x1)) fun y1 =>
   Option.bind (ao0 N (y1,IntKind.wrap IntKind.i64 (x3-(↑(ByteArray.size x1):Int)),x4,x5,x6)) fun(y2_0,y2_1,y2_2,y2_3,y2_4,y2_5,y2_6) =>
   ac (y2_3 != (0:Int)) (
    some (.inl ((ByteArray.mk #[],y2_3)))) (
    ac (y2_1) (
     some (.inl ((ByteArray.mk #[],(81:Int))))) (
     ac (decide ((↑(ByteArray.size x1+ByteArray.size y2_0):Int)>(9223372036854775807:Int))) (
      none ) (
      ac (y2_2==(0:Int)) (
       Option.bind (f (ByteArray.toList y2_0==[],x1++y2_0,x2,x3,y2_4,y2_5,y2_6)) fun r=>match r with|.inl y=>some (.inl y)|.inr y=>some (.inr y)) (
       Option.bind (f (false,x1++y2_0,x2,x3,y2_4,y2_5,y2_6)) fun r=>match r with|.inl y=>some (.inl y)|.inr y=>some (.inr y))))))) (
  some (.inr ((x0,x1))))
noncomputable def oz (N:Nat):Nat→vA→Option uL
 | 0,_=>none
 | k+1,x=>GX N (oz N k) x
noncomputable def Gm (N:Nat) (k:Nat):Cut:=EW.cut (oz N k)
theorem Gl (N:Nat) (k:Nat):al Tryz.prog false Tryz.f263 [] 124 (Gm N k) :=
 EW.loopT ag ap (xy N) Tryz.f263 [] (cuts:=[]) trivial (by decide +kernel) (by kernel_rfl) (GX N) (oz N) (fun _=>rfl) (fun _ _=>rfl) (fun f x=>by kernel_rfl) k
@[reducible] def w263:List SP:=[⟨[.tup [.str,.int .i64]],[]⟩]
noncomputable def Xm (N:Nat):(ByteArray×ByteArray×Int)→Option (ByteArray×Int)
 | (x0,x1,x2) =>
 Option.bind (ao3 N x1) fun y0 =>
 Option.bind (oz N N (false,ByteArray.mk #[],x0,x2,y0.1,y0.2.1,y0.2.2)) fun y1 =>
 match y1 with
 | .inl y2 =>
  some ((y2.1,y2.2))
 | .inr y2 =>
  ac (!y2.1) (
   some ((ByteArray.mk #[],(81:Int)))) (
   some ((y2.2,(0:Int))))
noncomputable def aD7 (N:Nat):Pk→Tr Pk:=ah s263 w263 (Xm N)
theorem V7 (N:Nat):aA Tryz.prog (263) (aD7 N) :=
 (af ag ap (xy N) Tryz.func263 s263 w263 [] (cuts:=[(124,Gm N N)]) ⟨Gl N N,trivial⟩ (fun _=>by kernel_rfl) (by decide +kernel) (Xm N) (fun x=>by kernel_rfl))
@[reducible] def s207:SP:=⟨[.adr 0 [],.str,.int .i64],[.var 119 (.agg [.agg [.bool,.str],.int .i64])]⟩
noncomputable def ZP (N:Nat):List (Nat×(Pk→Tr Pk)):=[(246,aE0 N),(263,aD7 N)]
theorem NS (N:Nat):ai Tryz.prog (ZP N):=⟨Wa N,V7 N,trivial⟩
@[reducible] def w207:List SP:=[⟨[.tup [.str,.int .i64]],[.var 119 (.agg [.agg [.bool,.str],.int .i64])]⟩]
noncomputable def ap0 (N:Nat):(ByteArray×Int×Bool×ByteArray×Int)→Option (ByteArray×Int×Bool×ByteArray×Int)
 | (x0,x1,x2,x3,x4) =>
 ac (!x2) (
  Option.bind (ao5 N x0) fun y0 =>
  ac (y0 != (0:Int)) (
   some ((ByteArray.mk #[],y0,x2,x3,x4))) (
   ac (decide ((0:Int)≤(2:Int)∧(2:Int)≤(↑(ByteArray.size x0):Int))) (
    Option.bind (Xm N (x3,ByteArray.extract x0 (2:Nat) (ByteArray.size x0),x1)) fun y1 =>
    some ((y1.1,y1.2,x2,x3,x4))) (
    none ))) (
  Option.bind (Xm N (x3,x0,x1)) fun y2 =>
  some ((y2.1,y2.2,x2,x3,x4)))
noncomputable def aF0 (N:Nat):Pk→Tr Pk:=ah s207 w207 (ap0 N)
theorem Wn (N:Nat):aA Tryz.prog (207) (aF0 N) :=
 (af ag ap (NS N) Tryz.func207 s207 w207 [0] (cuts:=[]) trivial (fun _=>by kernel_rfl) (by decide +kernel) (ap0 N) (fun x=>by kernel_rfl))
@[reducible] def s163a:SP:=⟨[.adr 0 [.f 0 0],.str],[.var 119 (.agg [.agg [.bool,.str],.int .i64])]⟩
noncomputable def Ub (N:Nat):List (Nat×(Pk→Tr Pk)):=[(229,OS N)]
theorem Hg (N:Nat):ai Tryz.prog (Ub N):=⟨nS N,trivial⟩
@[reducible] def w163a:List SP:=[⟨[.tup []],[.var 119 (.agg [.agg [.bool,.str],.int .i64])]⟩]
noncomputable def Tf (N:Nat):(ByteArray×Bool×ByteArray×Int)→Option (Bool×ByteArray×Int)
 | (x0,x1,x2,x3) =>
 ac (decide ((↑(ByteArray.size x2+ByteArray.size x0):Int)>(9223372036854775807:Int))) (
  none ) (
  Option.bind (IF N (x2++x0)) fun y0 =>
  some ((true,y0,x3)))
noncomputable def XZ (N:Nat):Pk→Tr Pk:=ah s163a w163a (Tf N)
theorem Sb (N:Nat):aA Tryz.prog (163) (XZ N) :=
 (af ag ap (Hg N) Tryz.func163 s163a w163a [0] (cuts:=[]) trivial (fun _=>by kernel_rfl) (by decide +kernel) (Tf N) (fun x=>by kernel_rfl))
@[reducible] def s136:SP:=⟨[.adr 0 [],.str,.int .i64],[.var 119 (.agg [.agg [.bool,.str],.int .i64])]⟩
noncomputable def aa6 (N:Nat):List (Nat×(Pk→Tr Pk)):=[(207,aF0 N),(163,XZ N)]
theorem N7 (N:Nat):ai Tryz.prog (aa6 N):=⟨Wn N,Sb N,trivial⟩
@[reducible] def w136:List SP:=[⟨[.tup [.str,.int .i64]],[.var 119 (.agg [.agg [.bool,.str],.int .i64])]⟩]
noncomputable def ap6 (N:Nat):(ByteArray×Int×Bool×ByteArray×Int)→Option (ByteArray×Int×Bool×ByteArray×Int)
 | (x0,x1,x2,x3,x4) =>
 ac (x4 != (0:Int)) (
  some ((ByteArray.mk #[],x4,x2,x3,x4))) (
  Option.bind (ap0 N (x0,x1,x2,x3,x4)) fun y0 =>
  Option.bind (Tf N (y0.1,y0.2.2.1,y0.2.2.2.1,y0.2.1)) fun y1 =>
  some ((y0.1,y0.2.1,y1.1,y1.2.1,y1.2.2)))
noncomputable def aG9 (N:Nat):Pk→Tr Pk:=ah s136 w136 (ap6 N)
theorem WK (N:Nat):aA Tryz.prog (136) (aG9 N) :=
 (af ag ap (N7 N) Tryz.func136 s136 w136 [0] (cuts:=[]) trivial (fun _=>by kernel_rfl) (by decide +kernel) (ap6 N) (fun x=>by kernel_rfl))
@[reducible] def s106:SP:=⟨[.radr y2 [.i 0 3]],[]⟩
noncomputable def ab0 (N:Nat):List (Nat×(Pk→Tr Pk)):=[]
theorem Oa (N:Nat):ai Tryz.prog (ab0 N):=trivial
@[reducible] def w106:List SP:=[⟨[.int .i64],[]⟩]
noncomputable def ap9 (N:Nat):((ByteArray×(Int×(Int×Unit))))→Option (Int)
 | x0 =>
 some x0.2.1
noncomputable def aH2 (N:Nat):Pk→Tr Pk:=ah s106 w106 (ap9 N)
theorem WN (N:Nat):aA Tryz.prog (106) (aH2 N) :=
 (af ag ap (Oa N) Tryz.func106 s106 w106 [] (cuts:=[]) trivial (fun _=>by kernel_rfl) (by decide +kernel) (ap9 N) (fun x=>by kernel_rfl))
@[reducible] def s79:SP:=⟨[.adr 0 [],.agg [.int .i64,.int .i64,.bool,.bool,.int .i64,.int .i64,.int .i64,.int .i64,.int .i64,.int .i64],.int .i64,.int .i64,.str],[.var 119 (.agg [.agg [.bool,.str],.int .i64])]⟩
noncomputable def at1 (N:Nat):List (Nat×(Pk→Tr Pk)):=[(35,T35 N),(32,T32 N),(81,T81 N),(105,OU N),(135,Sd N),(84,T84 N),(136,aG9 N),(29,T29 N),(106,aH2 N)]
theorem Qm (N:Nat):ai Tryz.prog (at1 N):=⟨A0 N,aj0 N,H2 N,nU N,rW N,pI N,WK N,H3 N,WN N,trivial⟩
@[reducible] def w79:List SP:=[⟨[.tup [.sl 1,.int .i64,.int .i64]],[.var 119 (.agg [.agg [.bool,.str],.int .i64]),.row (.int .i64) 3]⟩]
noncomputable def F79 (N:Nat):(Int×Int×Bool×Bool×Int×Int×Int×Int×Int×Int×Int×Int×ByteArray×Bool×ByteArray×Int)→Option (Int×Int×Bool×ByteArray×Int×(List Int))
 | (x0,x1,x2,x3,x4,x5,x6,x7,x8,x9,x10,x11,x12,x13,x14,x15) =>
 Option.bind (X5 N (x0,x1,x2,x3,x4,x5,x6,x7,x8,x9,x10,x11)) fun y0 =>
 ac (!y0) (
  some (((0:Int),(1:Int),x13,x14,x15,[]))) (
  Option.bind (F32 N (x0,x1,x2,x3,x4,x5,x6,x7,x8,x9,x10,x11)) fun y1 =>
  Option.bind (F81 N x12) fun y2 =>
  Option.bind (v8 N ((4:Int),y2.1,y2.2.1,y2.2.2)) fun y3 =>
  ac (decide (y3.1>IntKind.wrap IntKind.i64 (y1+(1000:Int)))) (
   some (((0:Int),(4:Int),x13,x14,x15,[]))) (
   Option.bind (mW N (y3.1,y3.2.1,y3.2.2.1,y3.2.2.2)) fun y4 =>
   Option.bind (TR N (y4.2.1,y4.2.2.1,y4.2.2.2,())) fun y5 =>
   ac (y5 != (0:Int)) (
    some (((0:Int),y5,x13,x14,x15,[]))) (
    Option.bind (ap6 N (y4.1,y1,x13,x14,x15)) fun y6 =>
    ac (y6.2.1 != (0:Int)) (
     some (((0:Int),y6.2.1,y6.2.2.1,y6.2.2.2.1,y6.2.2.2.2,[]))) (
     Option.bind (Xh N (x0,x1,x2,x3,x4,x5,x6,x7,x8,x9,x10,x11,y6.1)) fun y7 =>
     ac (y7.1 != (0:Int)) (
      some (((0:Int),y7.1,y6.2.2.1,y6.2.2.2.1,y6.2.2.2.2,[]))) (
      Option.bind (ap9 N (y4.2.1,y4.2.2.1,y4.2.2.2,())) fun y8 =>
      some ((y8,(0:Int),y6.2.2.1,y6.2.2.2.1,y6.2.2.2.2,y7.2)))))))
noncomputable def T79 (N:Nat):Pk→Tr Pk:=ah s79 w79 (F79 N)
theorem ag6 (N:Nat):aA Tryz.prog (79) (T79 N) :=
 (af ag ap (Qm N) Tryz.func79 s79 w79 [0] (cuts:=[]) trivial (fun _=>by kernel_rfl) (by decide +kernel) (F79 N) (fun x=>by kernel_rfl))
@[reducible] def s26:SP:=⟨[],[]⟩
noncomputable def au9 (N:Nat):List (Nat×(Pk→Tr Pk)):=[(78,T78 N),(29,T29 N),(31,T31 N),(40,T40 N),(79,T79 N)]
theorem Qu (N:Nat):ai Tryz.prog (au9 N):=⟨ag7 N,H3 N,RZ N,ah0 N,ag6 N,trivial⟩
@[reducible] def w26:List SP:=[⟨[.bool],[]⟩]
noncomputable def F26 (N:Nat):(Unit)→Option (Bool)
 | () =>
 Option.bind (X4 N ()) fun(y0_0,y0_1,y0_2,y0_3,y0_4,y0_5,y0_6,y0_7,y0_8,y0_9) =>
 Option.bind (Xh N (y0_0,y0_1,y0_2,y0_3,y0_4,y0_5,y0_6,y0_7,y0_8,y0_9,(3:Int),(1:Int),ByteArray.mk #[(2:UInt8),(0:UInt8),(255:UInt8),(64:UInt8)])) fun y1 =>
 Option.bind (SX N (y1.2,[(0:Int),(16777215:Int),(0:Int)])) fun y2 =>
 Option.bind (X4 N ()) fun(y3_0,y3_1,y3_2,y3_3,y3_4,y3_5,y3_6,y3_7,y3_8,y3_9) =>
 Option.bind (F40 N (y3_0,y3_1,y3_2,y3_3,y3_4,y3_5,y3_6,y3_7,y3_8,y3_9,(2:Int),(1:Int),[(0:Int),(16711680:Int)],false,ByteArray.mk #[])) fun y4 =>
 Option.bind (X4 N ()) fun(y5_0,y5_1,y5_2,y5_3,y5_4,y5_5,y5_6,y5_7,y5_8,y5_9) =>
 Option.bind (F40 N (y5_0,y5_1,y5_2,y5_3,y5_4,y5_5,y5_6,y5_7,y5_8,y5_9,(1:Int),(1:Int),[(16711680:Int)],y4.2.2.1,y4.2.2.2)) fun y6 =>
 Option.bind (X4 N ()) fun(y7_0,y7_1,y7_2,y7_3,y7_4,y7_5,y7_6,y7_7,y7_8,y7_9) =>
 ac (decide ((↑(ByteArray.size y4.1+ByteArray.size y6.1):Int)>(9223372036854775807:Int))) (
  none ) (
  Option.bind (F79 N (y7_0,y7_1,y7_2,y7_3,y7_4,y7_5,y7_6,y7_7,y7_8,y7_9,(2:Int),(1:Int),y4.1++y6.1,false,ByteArray.mk #[],(0:Int))) fun(y8_0,y8_1,y8_2,y8_3,y8_4,y8_5) =>
  Option.bind (SX N (y8_5,[(0:Int),(16711680:Int)])) fun y9 =>
  ac (y8_0 != (↑(ByteArray.size y4.1):Int)) (
   some (false)) (
   Option.bind (X4 N ()) fun(y10_0,y10_1,y10_2,y10_3,y10_4,y10_5,y10_6,y10_7,y10_8,y10_9) =>
   Option.bind (F79 N (y10_0,y10_1,y10_2,y10_3,y10_4,y10_5,y10_6,y10_7,y10_8,y10_9,(1:Int),(1:Int),y6.1,y8_2,y8_3,y8_4)) fun(y11_0,y11_1,y11_2,y11_3,y11_4,y11_5) =>
   Option.bind (SX N (y11_5,[(16711680:Int)])) fun y12 =>
   ac (y1.1==(0:Int)) (
    ac (y2) (
     ac (y4.2.1==(0:Int)) (
      ac (y6.2.1==(0:Int)) (
       ac (y9) (
        ac (y8_1==(0:Int)) (
         ac (y12) (
          ac (y11_0==(↑(ByteArray.size y6.1):Int)) (
           some (y11_1==(0:Int))) (
           some (false))) (
          some (false))) (
         some (false))) (
        some (false))) (
       some (false))) (
      some (false))) (
     some (false))) (
    some (false))))
noncomputable def T26 (N:Nat):Pk→Tr Pk:=ah s26 w26 (F26 N)
theorem aj5 (N:Nat):aA Tryz.prog (26) (T26 N) :=
 (af ag ap (Qu N) Tryz.func26 s26 w26 [] (cuts:=[]) trivial (fun _=>by kernel_rfl) (by decide +kernel) (F26 N) (fun x=>by kernel_rfl))
abbrev CC:Type:=Int×Int×Int
abbrev BJ:Type:=((Int)⊕(Unit))
noncomputable def oQ (N:Nat) (f:CC→Option BJ):CC→Option BJ
 | (x0,x1,x2) =>
 ac (decide (x2≤(16:Int))) (
  ac (x1==IntKind.wrap IntKind.i64 (IntKind.wrap IntKind.i64 (x0*(2:Int))-(1:Int))) (
   some (.inl (x2))) (
   Option.bind (f (IntKind.wrap IntKind.i64 (x0*(2:Int)),x1,IntKind.wrap IntKind.i64 (x2+(1:Int)))) fun r=>match r with|.inl y=>some (.inl y)|.inr y=>some (.inr y))) (
  some (.inr (())))
noncomputable def lH (N:Nat):Nat→CC→Option BJ
 | 0,_=>none
 | k+1,x=>oQ N (lH N k) x
noncomputable def ao9 (N:Nat):(Int)→Option (Int)
 | x0 =>
 Option.bind (lH N N ((1:Int),x0,(1:Int))) fun y0 =>
 match y0 with
 | .inl y1 =>
  some (y1)
 | .inr y1 =>
  some ((0:Int))
noncomputable def Tt (N:Nat):(Int×Int×Int)→Option (Bool)
 | (x0,x1,x2) =>
 Option.bind (ao9 N x1) fun y0 =>
 ac (decide (y0>(0:Int))) (
  ac (decide (x2≥(0:Int))) (
   ac (decide (x2≤(32:Int))) (
    some (decide (IntKind.wrap IntKind.i64 (x2+y0)≤x0))) (
    some (false))) (
   some (false))) (
  some (false))
noncomputable def FF (N:Nat):(Int×Int)→Option (Int)
 | (x0,x1) =>
 ac (decide (x1<(0:Int))) (
  none ) (
  some (IntKind.wrap IntKind.i64 (x0*(2:Int)^min (Int.toNat x1) (64:Nat))))
noncomputable def SD (N:Nat):(Int×Int×Bool×Bool×Int×Int×Int×Int×Int×Int)→Option (Bool)
 | (x0,x1,x2,x3,x4,x5,x6,x7,x8,x9) =>
 Option.bind (FF N (x4,x7)) fun y0 =>
 Option.bind (FF N (x5,x8)) fun y1 =>
 Option.bind (FF N (x6,x9)) fun y2 =>
 ac (IntKind.wrap IntKind.i64 (↑(BitVec.toNat (BitVec.ofInt (64:Nat) y0 &&& BitVec.ofInt (64:Nat) y1)):Int)==(0:Int)) (
  ac (IntKind.wrap IntKind.i64 (↑(BitVec.toNat (BitVec.ofInt (64:Nat) y0 &&& BitVec.ofInt (64:Nat) y2)):Int)==(0:Int)) (
   some (IntKind.wrap IntKind.i64 (↑(BitVec.toNat (BitVec.ofInt (64:Nat) y1 &&& BitVec.ofInt (64:Nat) y2)):Int)==(0:Int))) (
   some (false))) (
  some (false))
noncomputable def Fe (N:Nat):(Int×Int×Bool×Bool×Int×Int×Int×Int×Int×Int)→Option (Bool)
 | (x0,x1,x2,x3,x4,x5,x6,x7,x8,x9) =>
 Option.bind (Tt N (x0,x4,x7)) fun y0 =>
 ac (!y0) (
  some (false)) (
  Option.bind (Tt N (x0,x5,x8)) fun y1 =>
  ac (!y1) (
   some (false)) (
   Option.bind (Tt N (x0,x6,x9)) fun y2 =>
   ac (!y2) (
    some (false)) (
    Option.bind (SD N (x0,x1,x2,x3,x4,x5,x6,x7,x8,x9)) fun y3 =>
    some (y3))))
noncomputable def F80 (N:Nat):(Int×Int×Bool×Bool×Int×Int×Int×Int×Int×Int)→Option (Bool)
 | (x0,x1,x2,x3,x4,x5,x6,x7,x8,x9) =>
 ac (x0 != (8:Int)) (
  ac (x0 != (16:Int)) (
   ac (x0 != (32:Int)) (
    some (false)) (
    ac (decide (x1<(1:Int))) (
     some (false)) (
     ac (decide (x1>x0)) (
      some (false)) (
      ac (!x3) (
       some (false)) (
       Option.bind (Fe N (x0,x1,x2,x3,x4,x5,x6,x7,x8,x9)) fun y0 =>
       some (y0)))))) (
   ac (decide (x1<(1:Int))) (
    some (false)) (
    ac (decide (x1>x0)) (
     some (false)) (
     ac (!x3) (
      some (false)) (
      Option.bind (Fe N (x0,x1,x2,x3,x4,x5,x6,x7,x8,x9)) fun y1 =>
      some (y1)))))) (
  ac (decide (x1<(1:Int))) (
   some (false)) (
   ac (decide (x1>x0)) (
    some (false)) (
    ac (!x3) (
     some (false)) (
     Option.bind (Fe N (x0,x1,x2,x3,x4,x5,x6,x7,x8,x9)) fun y2 =>
     some (y2)))))
noncomputable def F27 (N:Nat):(Int×Int×Bool×Bool×Int×Int×Int×Int×Int×Int×Int×Int)→Option (Bool)
 | (x0,x1,x2,x3,x4,x5,x6,x7,x8,x9,x10,x11) =>
 Option.bind (F80 N (x0,x1,x2,x3,x4,x5,x6,x7,x8,x9)) fun y0 =>
 ac (y0) (
  ac (decide (x10≥(0:Int))) (
   ac (decide (x10≤(4096:Int))) (
    ac (decide (x11≥(0:Int))) (
     some (decide (x11≤(4096:Int)))) (
     some (false))) (
    some (false))) (
   some (false))) (
  some (false))
noncomputable def CP (N:Nat):(Int×Int×Int×Bool×Bool×Int×Int×Int×Int×Int×Int)→Option (Int×Int)
 | (x0,x1,x2,x3,x4,x5,x6,x7,x8,x9,x10) =>
 ac (x1==(32:Int)) (
  ac (decide (x2≤(24:Int))) (
   ac (IntKind.wrap IntKind.i64 (↑(BitVec.toNat (BitVec.ofInt (64:Nat) x0 &&& BitVec.ofInt (64:Nat) (255:Int))):Int)==(0:Int)) (
    some (((3:Int),(8:Int)))) (
    some ((IntKind.wrap IntKind.i64 (Int.tdiv x1 (8:Int)),(0:Int))))) (
   some ((IntKind.wrap IntKind.i64 (Int.tdiv x1 (8:Int)),(0:Int))))) (
  some ((IntKind.wrap IntKind.i64 (Int.tdiv x1 (8:Int)),(0:Int))))
noncomputable def TQ (N:Nat):(Int×Int×Bool×Bool×Int×Int×Int×Int×Int×Int)→Option (Int×Int)
 | (x0,x1,x2,x3,x4,x5,x6,x7,x8,x9) =>
 Option.bind (FF N (x4,x7)) fun y0 =>
 Option.bind (FF N (x5,x8)) fun y1 =>
 Option.bind (FF N (x6,x9)) fun y2 =>
 ac (x0==(32:Int)) (
  ac (decide (x1≤(24:Int))) (
   ac (decide (IntKind.wrap IntKind.i64 (↑(BitVec.toNat (BitVec.ofInt (64:Nat) (IntKind.wrap IntKind.i64 (↑(BitVec.toNat (BitVec.ofInt (64:Nat) y0 ||| BitVec.ofInt (64:Nat) y1)):Int)) ||| BitVec.ofInt (64:Nat) y2)):Int)<(16777216:Int))) (
    some (((3:Int),(0:Int)))) (
    Option.bind (CP N (IntKind.wrap IntKind.i64 (↑(BitVec.toNat (BitVec.ofInt (64:Nat) (IntKind.wrap IntKind.i64 (↑(BitVec.toNat (BitVec.ofInt (64:Nat) y0 ||| BitVec.ofInt (64:Nat) y1)):Int)) ||| BitVec.ofInt (64:Nat) y2)):Int),x0,x1,x2,x3,x4,x5,x6,x7,x8,x9)) fun y3 =>
    some ((y3.1,y3.2)))) (
   Option.bind (CP N (IntKind.wrap IntKind.i64 (↑(BitVec.toNat (BitVec.ofInt (64:Nat) (IntKind.wrap IntKind.i64 (↑(BitVec.toNat (BitVec.ofInt (64:Nat) y0 ||| BitVec.ofInt (64:Nat) y1)):Int)) ||| BitVec.ofInt (64:Nat) y2)):Int),x0,x1,x2,x3,x4,x5,x6,x7,x8,x9)) fun y4 =>
   some ((y4.1,y4.2)))) (
  Option.bind (CP N (IntKind.wrap IntKind.i64 (↑(BitVec.toNat (BitVec.ofInt (64:Nat) (IntKind.wrap IntKind.i64 (↑(BitVec.toNat (BitVec.ofInt (64:Nat) y0 ||| BitVec.ofInt (64:Nat) y1)):Int)) ||| BitVec.ofInt (64:Nat) y2)):Int),x0,x1,x2,x3,x4,x5,x6,x7,x8,x9)) fun y5 =>
  some ((y5.1,y5.2)))
abbrev u7:Type:=Int×Int×Int×Int×Int×(List (Int×(Int×(Int×(Int×Unit)))))
abbrev uq:Type:=Int×Int×Int×Int×(List (Int×(Int×(Int×(Int×Unit)))))
noncomputable def im (N:Nat) (f:u7→Option uq):u7→Option uq
 | (x0,x1,x2,x3,x4,x5) =>
 ac (decide (x0<x1)) (
  ac (decide ((List.length x5+List.length [(x0,x3,if IntKind.wrap IntKind.i64 (x1-x0)<x4 then IntKind.wrap IntKind.i64 (x1-x0) else x4,if IntKind.wrap IntKind.i64 (x2-x3)<x4 then IntKind.wrap IntKind.i64 (x2-x3) else x4,())])*(32:Nat)≤(140737488355328:Nat)∧List.length x5+List.length [(x0,x3,if IntKind.wrap IntKind.i64 (x1-x0)<x4 then IntKind.wrap IntKind.i64 (x1-x0) else x4,if IntKind.wrap IntKind.i64 (x2-x3)<x4 then IntKind.wrap IntKind.i64 (x2-x3) else x4,())]≤(140737488355328:Nat))) (
   Option.bind (f (IntKind.wrap IntKind.i64 (x0+if (4096:Int)<x4 then (4096:Int) else x4),x1,x2,x3,x4,x5++[(x0,x3,if IntKind.wrap IntKind.i64 (x1-x0)<x4 then IntKind.wrap IntKind.i64 (x1-x0) else x4,if IntKind.wrap IntKind.i64 (x2-x3)<x4 then IntKind.wrap IntKind.i64 (x2-x3) else x4,())])) fun r=>some r) (
   none )) (
  some ((x3,x1,x2,x4,x5)))
noncomputable def ia (N:Nat):Nat→u7→Option uq
 | 0,_=>none
 | k+1,x=>im N (ia N k) x
abbrev BV:Type:=Int×Int×Int×Int×(List (Int×(Int×(Int×(Int×Unit)))))
abbrev Bd:Type:=(List (Int×(Int×(Int×(Int×Unit)))))
noncomputable def lM (N:Nat) (f:BV→Option Bd):BV→Option Bd
 | (x0,x1,x2,x3,x4) =>
 ac (decide (x2<x1)) (
  Option.bind (ia N N ((0:Int),x0,x1,x2,x3,x4)) fun y0 =>
  Option.bind (f (y0.2.1,y0.2.2.1,IntKind.wrap IntKind.i64 (y0.1+if (4096:Int)<y0.2.2.2.1 then (4096:Int) else y0.2.2.2.1),y0.2.2.2.1,y0.2.2.2.2)) fun r=>some r) (
  some (x4))
noncomputable def iY (N:Nat):Nat→BV→Option Bd
 | 0,_=>none
 | k+1,x=>lM N (iY N k) x
noncomputable def F38 (N:Nat):(Int×Int×Int)→Option ((List (Int×(Int×(Int×(Int×Unit))))))
 | (x0,x1,x2) =>
 ac (decide (x0<(1:Int))) (
  some ([])) (
  ac (decide (x1<(1:Int))) (
   some ([])) (
   ac (decide (x0>(4096:Int))) (
    some ([])) (
    ac (decide (x1>(4096:Int))) (
     some ([])) (
     ac (decide (x2<(1:Int))) (
      some ([])) (
      Option.bind (iY N N (x0,x1,(0:Int),x2,[])) fun y0 =>
      some (y0))))))
noncomputable def aI3 (N:Nat):(Int)→Option (Bool)
 | x0 =>
 ac (x0==(1:Int)) (
  some (true)) (
  ac (x0==(2:Int)) (
   some (true)) (
   some (x0==(4:Int))))
noncomputable def Fv (N:Nat):(Int×ByteArray×Int×Int)→Option (ByteArray×ByteArray×Int×Int)
 | (x0,x1,x2,x3) =>
 ac (x3 != (0:Int)) (
  some ((ByteArray.mk #[],x1,x2,x3))) (
  ac (decide (x0<(0:Int))) (
   some ((ByteArray.mk #[],x1,x2,(1:Int)))) (
   ac (decide (x0>IntKind.wrap IntKind.i64 ((↑(ByteArray.size x1):Int)-x2))) (
    some ((ByteArray.mk #[],x1,x2,(2:Int)))) (
    ac (decide ((0:Int)≤IntKind.wrap IntKind.i64 (x2+x0)∧IntKind.wrap IntKind.i64 (x2+x0)≤(↑(ByteArray.size x1):Int))) (
     ac (decide ((0:Int)≤x2∧x2≤(↑(Int.toNat (IntKind.wrap IntKind.i64 (x2+x0))):Int))) (
      some ((ByteArray.extract x1 (Int.toNat x2) (Int.toNat (IntKind.wrap IntKind.i64 (x2+x0))),x1,IntKind.wrap IntKind.i64 (x2+x0),x3))) (
      none )) (
     none ))))
abbrev Iq:Type:=Int×Int×ByteArray
abbrev Ib:Type:=Int
noncomputable def wu (N:Nat) (f:Iq→Option Ib):Iq→Option Ib
 | (x0,x1,x2) =>
 ac (decide (x1<(↑(ByteArray.size x2):Int))) (
  ac (decide ((0:Int)≤x1)) (
   Option.bind (x2[Int.toNat x1]?) fun y0 =>
   Option.bind (f (IntKind.wrap IntKind.i64 (IntKind.wrap IntKind.i64 (x0*(256:Int))+IntKind.wrap IntKind.i64 (↑(UInt8.toNat y0):Int)),IntKind.wrap IntKind.i64 (x1+(1:Int)),x2)) fun r=>some r) (
   none )) (
  some (x0))
noncomputable def mU (N:Nat):Nat→Iq→Option Ib
 | 0,_=>none
 | k+1,x=>wu N (mU N k) x
noncomputable def F56 (N:Nat):(ByteArray)→Option (Int)
 | x0 =>
 Option.bind (mU N N ((0:Int),(0:Int),x0)) fun y0 =>
 some (y0)
noncomputable def To (N:Nat):(Int×ByteArray×Int×Int)→Option (Int×ByteArray×Int×Int)
 | (x0,x1,x2,x3) =>
 ac (x3==(0:Int)) (
  Option.bind (aI3 N x0) fun y0 =>
  ac (!y0) (
   Option.bind (Fv N (x0,x1,x2,(1:Int))) fun y1 =>
   Option.bind (F56 N y1.1) fun y2 =>
   some ((y2,y1.2.1,y1.2.2.1,y1.2.2.2))) (
   Option.bind (Fv N (x0,x1,x2,x3)) fun y3 =>
   Option.bind (F56 N y3.1) fun y4 =>
   some ((y4,y3.2.1,y3.2.2.1,y3.2.2.2)))) (
  Option.bind (Fv N (x0,x1,x2,x3)) fun y5 =>
  Option.bind (F56 N y5.1) fun y6 =>
  some ((y6,y5.2.1,y5.2.2.1,y5.2.2.2)))
abbrev Cs:Type:=ByteArray×Int×ByteArray
abbrev BB:Type:=ByteArray
noncomputable def oP (N:Nat) (f:Cs→Option BB):Cs→Option BB
 | (x0,x1,x2) =>
 ac (decide (x1<(↑(ByteArray.size x2):Int))) (
  ac (decide ((0:Int)≤IntKind.wrap IntKind.i64 (x1+(1:Int))∧IntKind.wrap IntKind.i64 (x1+(1:Int))≤(↑(ByteArray.size x2):Int))) (
   ac (decide ((0:Int)≤x1∧x1≤(↑(Int.toNat (IntKind.wrap IntKind.i64 (x1+(1:Int)))):Int))) (
    ac (decide ((↑(ByteArray.size (ByteArray.extract x2 (Int.toNat x1) (Int.toNat (IntKind.wrap IntKind.i64 (x1+(1:Int)))))+ByteArray.size x0):Int)>(9223372036854775807:Int))) (
     none ) (
     Option.bind (f (ByteArray.extract x2 (Int.toNat x1) (Int.toNat (IntKind.wrap IntKind.i64 (x1+(1:Int))))++x0,IntKind.wrap IntKind.i64 (x1+(1:Int)),x2)) fun r=>some r)) (
    none )) (
   none )) (
  some (x0))
noncomputable def i7 (N:Nat):Nat→Cs→Option BB
 | 0,_=>none
 | k+1,x=>oP N (i7 N k) x
noncomputable def an9 (N:Nat):(ByteArray)→Option (ByteArray)
 | x0 =>
 Option.bind (i7 N N (ByteArray.mk #[],(0:Int),x0)) fun y0 =>
 some (y0)
noncomputable def aI2 (N:Nat):(Bool×Int×ByteArray)→Option (Int×Int)
 | (x0,x1,x2) =>
 ac (decide ((↑(ByteArray.size x2):Int)<x1)) (
  some (((0:Int),(2:Int)))) (
  ac (x0) (
   ac (decide ((0:Int)≤x1∧x1≤(↑(ByteArray.size x2):Int))) (
    Option.bind (F56 N (ByteArray.extract x2 (0:Nat) (Int.toNat x1))) fun y0 =>
    some ((y0,(0:Int)))) (
    none )) (
   ac (decide ((0:Int)≤x1∧x1≤(↑(ByteArray.size x2):Int))) (
    Option.bind (an9 N (ByteArray.extract x2 (0:Nat) (Int.toNat x1))) fun y1 =>
    Option.bind (F56 N y1) fun y2 =>
    some ((y2,(0:Int)))) (
    none )))
noncomputable def ao8 (N:Nat):(Int×Int×Bool×Bool×Int×Int×Int×Int×Int×Int×ByteArray)→Option (Int×Int)
 | (x0,x1,x2,x3,x4,x5,x6,x7,x8,x9,x10) =>
 Option.bind (TQ N (x0,x1,x2,x3,x4,x5,x6,x7,x8,x9)) fun y0 =>
 Option.bind (aI2 N (x2,y0.1,x10)) fun y1 =>
 ac (decide (y0.2<(0:Int))) (
  none ) (
  some ((IntKind.wrap IntKind.i64 (y1.1*(2:Int)^min (Int.toNat y0.2) (64:Nat)),y1.2)))
noncomputable def Tm (N:Nat):(Int×Int×Bool×Bool×Int×Int×Int×Int×Int×Int×Int×ByteArray×Int×Int)→Option (Int×Int×Int×Bool×Bool×Int×Int×Int×Int×Int×Int×Int×ByteArray×Int×Int)
 | (x0,x1,x2,x3,x4,x5,x6,x7,x8,x9,x10,x11,x12,x13) =>
 Option.bind (Fv N (x10,x11,x12,x13)) fun y0 =>
 Option.bind (ao8 N (x0,x1,x2,x3,x4,x5,x6,x7,x8,x9,y0.1)) fun y1 =>
 some ((y1.1,x0,x1,x2,x3,x4,x5,x6,x7,x8,x9,x10,y0.2.1,y0.2.2.1,y0.2.2.2))
abbrev CI:Type:=Int×Int×Int×Int×Bool×Bool×Int×Int×Int×Int×Int×Int×Int×ByteArray×Int×Int×(List Int)
abbrev BN:Type:=Int×Int×Bool×Bool×Int×Int×Int×Int×Int×Int×Int×ByteArray×Int×Int×(List Int)
noncomputable def oR (N:Nat) (f:CI→Option BN):CI→Option BN
 | (x0,x1,x2,x3,x4,x5,x6,x7,x8,x9,x10,x11,x12,x13,x14,x15,x16) =>
 ac (decide (x0<x1)) (
  Option.bind (Tm N (x2,x3,x4,x5,x6,x7,x8,x9,x10,x11,x12,x13,x14,x15)) fun(y0_0,y0_1,y0_2,y0_3,y0_4,y0_5,y0_6,y0_7,y0_8,y0_9,y0_10,y0_11,y0_12,y0_13,y0_14) =>
  ac (decide ((List.length x16+List.length [y0_0])*(8:Nat)≤(140737488355328:Nat)∧List.length x16+List.length [y0_0]≤(140737488355328:Nat))) (
   Option.bind (f (IntKind.wrap IntKind.i64 (x0+(1:Int)),x1,y0_1,y0_2,y0_3,y0_4,y0_5,y0_6,y0_7,y0_8,y0_9,y0_10,y0_11,y0_12,y0_13,y0_14,x16++[y0_0])) fun r=>some r) (
   none )) (
  some ((x2,x3,x4,x5,x6,x7,x8,x9,x10,x11,x12,x13,x14,x15,x16)))
noncomputable def jc (N:Nat):Nat→CI→Option BN
 | 0,_=>none
 | k+1,x=>oR N (jc N k) x
noncomputable def Tn (N:Nat):(Int×Int×Int×Bool×Bool×Int×Int×Int×Int×Int×Int×Int×ByteArray×Int×Int)→Option (Int×Int×Bool×Bool×Int×Int×Int×Int×Int×Int×Int×ByteArray×Int×Int×(List Int))
 | (x0,x1,x2,x3,x4,x5,x6,x7,x8,x9,x10,x11,x12,x13,x14) =>
 Option.bind (jc N N ((0:Int),x0,x1,x2,x3,x4,x5,x6,x7,x8,x9,x10,x11,x12,x13,x14,[])) fun(y0_0,y0_1,y0_2,y0_3,y0_4,y0_5,y0_6,y0_7,y0_8,y0_9,y0_10,y0_11,y0_12,y0_13,y0_14) =>
 some ((y0_0,y0_1,y0_2,y0_3,y0_4,y0_5,y0_6,y0_7,y0_8,y0_9,y0_10,y0_11,y0_12,y0_13,y0_14))
noncomputable def ao7 (N:Nat):(Int)→Option (Int)
 | x0 =>
 ac (decide (x0≤(2:Int))) (
  some ((1:Int))) (
  ac (decide (x0≤(4:Int))) (
   some ((2:Int))) (
   some ((4:Int))))
abbrev CB:Type:=Int×Int×Int
abbrev BI:Type:=Int
noncomputable def Xw (N:Nat) (f:CB→Option BI):CB→Option BI
 | (x0,x1,x2) =>
 ac (decide (x1<x2)) (
  Option.bind (f (IntKind.wrap IntKind.i64 (x0*(2:Int)),IntKind.wrap IntKind.i64 (x1+(1:Int)),x2)) fun r=>some r) (
  some (x0))
noncomputable def Lx (N:Nat):Nat→CB→Option BI
 | 0,_=>none
 | k+1,x=>Xw N (Lx N k) x
noncomputable def S8 (N:Nat):(Int)→Option (Int)
 | x0 =>
 Option.bind (Lx N N ((1:Int),(0:Int),x0)) fun y0 =>
 some (y0)
abbrev mS:Type:=Int×Int×Int×ByteArray×Int×Int×Int×Int×Int×Bool×Bool×Int×Int×Int×Int×Int×Int×Int×ByteArray×Int×Int×(List Int)×(List Int)
abbrev mK:Type:=((Bool×Int×Int×Bool×Bool×Int×Int×Int×Int×Int×Int×Int×ByteArray×Int×Int×(List Int))⊕(Int×Int×Int×Int×Int×Int×Int×Bool×Bool×Int×Int×Int×Int×Int×Int×Int×ByteArray×Int×Int×(List Int)×(List Int)))
noncomputable def fO (N:Nat) (f:mS→Option mK):mS→Option mK
 | (x0,x1,x2,x3,x4,x5,x6,x7,x8,x9,x10,x11,x12,x13,x14,x15,x16,x17,x18,x19,x20,x21,x22) =>
 ac (decide (x6<x0)) (
  ac (decide ((0:Int)≤IntKind.wrap IntKind.i64 (Int.tdiv (IntKind.wrap IntKind.i64 (x6*x4)) (8:Int)))) (
   Option.bind (x3[Int.toNat (IntKind.wrap IntKind.i64 (Int.tdiv (IntKind.wrap IntKind.i64 (x6*x4)) (8:Int)))]?) fun y0 =>
   Option.bind (S8 N (IntKind.wrap IntKind.i64 (IntKind.wrap IntKind.i64 ((8:Int)-x4)-Int.tmod (IntKind.wrap IntKind.i64 (x6*x4)) (8:Int)))) fun y1 =>
   ac (decide (y1=(0:Int))) (
    none ) (
    Option.bind (S8 N x4) fun y2 =>
    ac (decide (y2=(0:Int))) (
     none ) (
     ac (decide (Int.tmod (IntKind.wrap IntKind.i64 (Int.tdiv (IntKind.wrap IntKind.i64 (↑(UInt8.toNat y0):Int)) y1)) y2≥x5)) (
      some (.inl ((false,x7,x8,x9,x10,x11,x12,x13,x14,x15,x16,x17,x18,x19,x20,[])))) (
      ac (within (Int.tmod (IntKind.wrap IntKind.i64 (Int.tdiv (IntKind.wrap IntKind.i64 (↑(UInt8.toNat y0):Int)) y1)) y2) (List.length x21)) (
       Option.bind (x21[Int.toNat (Int.tmod (IntKind.wrap IntKind.i64 (Int.tdiv (IntKind.wrap IntKind.i64 (↑(UInt8.toNat y0):Int)) y1)) y2)]?) fun y3 =>
       ac (decide ((List.length x22+List.length [y3])*(8:Nat)≤(140737488355328:Nat)∧List.length x22+List.length [y3]≤(140737488355328:Nat))) (
        Option.bind (f (x0,x1,x2,x3,x4,x5,IntKind.wrap IntKind.i64 (x6+(1:Int)),x7,x8,x9,x10,x11,x12,x13,x14,x15,x16,x17,x18,x19,x20,x21,x22++[y3])) fun r=>match r with|.inl y=>some (.inl y)|.inr y=>some (.inr y)) (
        none )) (
       none ))))) (
   none )) (
  some (.inr ((x2,x5,x4,x1,x0,x7,x8,x9,x10,x11,x12,x13,x14,x15,x16,x17,x18,x19,x20,x22,x21))))
noncomputable def bH (N:Nat):Nat→mS→Option mK
 | 0,_=>none
 | k+1,x=>fO N (bH N k) x
abbrev vK:Type:=Int×Int×Int×Int×Int×Int×Int×Bool×Bool×Int×Int×Int×Int×Int×Int×Int×ByteArray×Int×Int×(List Int)×(List Int)
abbrev uV:Type:=((Bool×Int×Int×Bool×Bool×Int×Int×Int×Int×Int×Int×Int×ByteArray×Int×Int×(List Int))⊕(Int×Int×Bool×Bool×Int×Int×Int×Int×Int×Int×Int×ByteArray×Int×Int×(List Int)))
noncomputable def kO (N:Nat) (f:vK→Option uV):vK→Option uV
 | (x0,x1,x2,x3,x4,x5,x6,x7,x8,x9,x10,x11,x12,x13,x14,x15,x16,x17,x18,x19,x20) =>
 ac (decide (x2<x3)) (
  Option.bind (Fv N (IntKind.wrap IntKind.i64 (Int.tdiv (IntKind.wrap IntKind.i64 (IntKind.wrap IntKind.i64 (x4*x1)+(7:Int))) (8:Int)),x16,x17,x18)) fun y0 =>
  ac (y0.2.2.2 != (0:Int)) (
   some (.inl ((false,x5,x6,x7,x8,x9,x10,x11,x12,x13,x14,x15,y0.2.1,y0.2.2.1,y0.2.2.2,[])))) (
   Option.bind (bH N N (x4,x3,x2,y0.1,x1,x0,(0:Int),x5,x6,x7,x8,x9,x10,x11,x12,x13,x14,x15,y0.2.1,y0.2.2.1,y0.2.2.2,x20,x19)) fun y1 =>
   match y1 with
   | .inl (y2_0,y2_1,y2_2,y2_3,y2_4,y2_5,y2_6,y2_7,y2_8,y2_9,y2_10,y2_11,y2_12,y2_13,y2_14,y2_15) =>
    some (.inl ((y2_0,y2_1,y2_2,y2_3,y2_4,y2_5,y2_6,y2_7,y2_8,y2_9,y2_10,y2_11,y2_12,y2_13,y2_14,y2_15)))
   | .inr (y2_0,y2_1,y2_2,y2_3,y2_4,y2_5,y2_6,y2_7,y2_8,y2_9,y2_10,y2_11,y2_12,y2_13,y2_14,y2_15,y2_16,y2_17,y2_18,y2_19,y2_20) =>
    Option.bind (f (y2_1,y2_2,IntKind.wrap IntKind.i64 (y2_0+(1:Int)),y2_3,y2_4,y2_5,y2_6,y2_7,y2_8,y2_9,y2_10,y2_11,y2_12,y2_13,y2_14,y2_15,y2_16,y2_17,y2_18,y2_19,y2_20)) fun r=>match r with|.inl y=>some (.inl y)|.inr y=>some (.inr y))) (
  some (.inr ((x5,x6,x7,x8,x9,x10,x11,x12,x13,x14,x15,x16,x17,x18,x19))))
noncomputable def cr (N:Nat):Nat→vK→Option uV
 | 0,_=>none
 | k+1,x=>kO N (cr N k) x
noncomputable def ap5 (N:Nat):(Int×Int×Int×Int×Int×Bool×Bool×Int×Int×Int×Int×Int×Int×Int×ByteArray×Int×Int)→Option (Bool×Int×Int×Bool×Bool×Int×Int×Int×Int×Int×Int×Int×ByteArray×Int×Int×(List Int))
 | (x0,x1,x2,x3,x4,x5,x6,x7,x8,x9,x10,x11,x12,x13,x14,x15,x16) =>
 Option.bind (Tn N (x0,x3,x4,x5,x6,x7,x8,x9,x10,x11,x12,x13,x14,x15,x16)) fun(y0_0,y0_1,y0_2,y0_3,y0_4,y0_5,y0_6,y0_7,y0_8,y0_9,y0_10,y0_11,y0_12,y0_13,y0_14) =>
 Option.bind (ao7 N x0) fun y1 =>
 Option.bind (cr N N (x0,y1,(0:Int),x2,x1,y0_0,y0_1,y0_2,y0_3,y0_4,y0_5,y0_6,y0_7,y0_8,y0_9,y0_10,y0_11,y0_12,y0_13,[],y0_14)) fun y2 =>
 match y2 with
 | .inl (y3_0,y3_1,y3_2,y3_3,y3_4,y3_5,y3_6,y3_7,y3_8,y3_9,y3_10,y3_11,y3_12,y3_13,y3_14,y3_15) =>
  some ((y3_0,y3_1,y3_2,y3_3,y3_4,y3_5,y3_6,y3_7,y3_8,y3_9,y3_10,y3_11,y3_12,y3_13,y3_14,y3_15))
 | .inr (y3_0,y3_1,y3_2,y3_3,y3_4,y3_5,y3_6,y3_7,y3_8,y3_9,y3_10,y3_11,y3_12,y3_13,y3_14) =>
  some ((true,y3_0,y3_1,y3_2,y3_3,y3_4,y3_5,y3_6,y3_7,y3_8,y3_9,y3_10,y3_11,y3_12,y3_13,y3_14))
abbrev Cz:Type:=Int×Int×Int×Bool×Bool×Int×Int×Int×Int×Int×Int×Int×ByteArray×Int×Int
abbrev BH:Type:=Int×Int×Int×Bool×Bool×Int×Int×Int×Int×Int×Int×Int×ByteArray×Int×Int
noncomputable def Db (N:Nat) (f:Cz→Option BH):Cz→Option BH
 | (x0,x1,x2,x3,x4,x5,x6,x7,x8,x9,x10,x11,x12,x13,x14) =>
 Option.bind (To N ((1:Int),x12,x13,x14)) fun y0 =>
 ac (y0.1 != (255:Int)) (
  some ((IntKind.wrap IntKind.i64 (x0+y0.1),x1,x2,x3,x4,x5,x6,x7,x8,x9,x10,x11,y0.2.1,y0.2.2.1,y0.2.2.2))) (
  Option.bind (f (IntKind.wrap IntKind.i64 (x0+y0.1),x1,x2,x3,x4,x5,x6,x7,x8,x9,x10,x11,y0.2.1,y0.2.2.1,y0.2.2.2)) fun r=>some r)
noncomputable def sB (N:Nat):Nat→Cz→Option BH
 | 0,_=>none
 | k+1,x=>Db N (sB N k) x
noncomputable def Xo (N:Nat):(Int×Int×Bool×Bool×Int×Int×Int×Int×Int×Int×Int×ByteArray×Int×Int)→Option (Int×Int×Int×Bool×Bool×Int×Int×Int×Int×Int×Int×Int×ByteArray×Int×Int)
 | (x0,x1,x2,x3,x4,x5,x6,x7,x8,x9,x10,x11,x12,x13) =>
 Option.bind (sB N N ((1:Int),x0,x1,x2,x3,x4,x5,x6,x7,x8,x9,x10,x11,x12,x13)) fun(y0_0,y0_1,y0_2,y0_3,y0_4,y0_5,y0_6,y0_7,y0_8,y0_9,y0_10,y0_11,y0_12,y0_13,y0_14) =>
 some ((y0_0,y0_1,y0_2,y0_3,y0_4,y0_5,y0_6,y0_7,y0_8,y0_9,y0_10,y0_11,y0_12,y0_13,y0_14))
end Go.Proofs.YtfcamlibbfnldaaGreat.Am
