/- The seat's Go functions come to the Lean functions written here, wherever these give an answer (part C). -/
import Derived.Test.YtfcamlibbfnldaaGreatSB
set_option linter.unusedSimpArgs false
set_option linter.unusedVariables false
set_option linter.unusedSectionVars false
set_option maxRecDepth 100000
namespace Go.Proofs.YtfcamlibbfnldaaGreat.Am
open Go.Am
@[reducible] def s360:SP:=⟨[.ro (.int .i64)],[]⟩
noncomputable def Z9 (N:Nat):List (Nat×(Pk→Tr Pk)):=[(378,aN3 N)]
theorem kZ (N:Nat):ai Tryz.prog (Z9 N):=⟨Wz N,trivial⟩
@[reducible] def we:LD:=⟨29863,[37,3,4,5,0],[(.ret,[2]),(.exit 2,[4,5,3,0]),(.exit 1,[3,4,0]),(.exit 0,[3]),(.normal,[4,5,3,0])],⟨[.bool,.sl 0,.int .i64,.int .i64,.ro (.int .i64)],[.row y4 373]⟩,[(.normal,⟨[.int .i64,.int .i64,.sl 0,.ro (.int .i64)],[.row y4 373]⟩)]⟩
noncomputable def jg (N:Nat):(Bool×Int×Int×(List Int)×(List (Int×(Int×(Int×Unit)))))→Option (Int×Int×(List Int)×(List (Int×(Int×(Int×Unit)))))
 | (x0,x1,x2,x3,x4) =>
 ac (x0) (
  ac (decide ((List.length x4+List.length [((17:Int),(3:Int),IntKind.wrap IntKind.i64 (x2-(3:Int)),())])*(24:Nat)≤(140737488355328:Nat)∧List.length x4+List.length [((17:Int),(3:Int),IntKind.wrap IntKind.i64 (x2-(3:Int)),())]≤(140737488355328:Nat))) (
   some ((x1,x2,x3,x4++[((17:Int),(3:Int),IntKind.wrap IntKind.i64 (x2-(3:Int)),())]))) (
   none )) (
  ac (decide (x1>(0:Int))) (
   ac (within x1 (List.length x3)) (
    Option.bind (x3[Int.toNat x1]?) fun y0 =>
    ac (within (IntKind.wrap IntKind.i64 (x1-(1:Int))) (List.length x3)) (
     Option.bind (x3[Int.toNat (IntKind.wrap IntKind.i64 (x1-(1:Int)))]?) fun y1 =>
     ac (y0==y1) (
      ac (decide (x2>(2:Int))) (
       ac (decide ((List.length x4+List.length [((16:Int),(2:Int),IntKind.wrap IntKind.i64 ((if (6:Int)<x2 then (6:Int) else x2)-(3:Int)),())])*(24:Nat)≤(140737488355328:Nat)∧List.length x4+List.length [((16:Int),(2:Int),IntKind.wrap IntKind.i64 ((if (6:Int)<x2 then (6:Int) else x2)-(3:Int)),())]≤(140737488355328:Nat))) (
        some ((x1,if (6:Int)<x2 then (6:Int) else x2,x3,x4++[((16:Int),(2:Int),IntKind.wrap IntKind.i64 ((if (6:Int)<x2 then (6:Int) else x2)-(3:Int)),())]))) (
        none )) (
       ac (within x1 (List.length x3)) (
        Option.bind (x3[Int.toNat x1]?) fun y2 =>
        ac (decide ((List.length x4+List.length [(y2,(0:Int),(0:Int),())])*(24:Nat)≤(140737488355328:Nat)∧List.length x4+List.length [(y2,(0:Int),(0:Int),())]≤(140737488355328:Nat))) (
         some ((x1,(1:Int),x3,x4++[(y2,(0:Int),(0:Int),())]))) (
         none )) (
        none ))) (
      ac (within x1 (List.length x3)) (
       Option.bind (x3[Int.toNat x1]?) fun y3 =>
       ac (decide ((List.length x4+List.length [(y3,(0:Int),(0:Int),())])*(24:Nat)≤(140737488355328:Nat)∧List.length x4+List.length [(y3,(0:Int),(0:Int),())]≤(140737488355328:Nat))) (
        some ((x1,(1:Int),x3,x4++[(y3,(0:Int),(0:Int),())]))) (
        none )) (
       none ))) (
     none )) (
    none )) (
   ac (within x1 (List.length x3)) (
    Option.bind (x3[Int.toNat x1]?) fun y4 =>
    ac (decide ((List.length x4+List.length [(y4,(0:Int),(0:Int),())])*(24:Nat)≤(140737488355328:Nat)∧List.length x4+List.length [(y4,(0:Int),(0:Int),())]≤(140737488355328:Nat))) (
     some ((x1,(1:Int),x3,x4++[(y4,(0:Int),(0:Int),())]))) (
     none )) (
    none )))
noncomputable def jm (N:Nat) (_:Nat):Cut:=we.cut (jg N)
theorem gI (N:Nat) (k:Nat):ak Tryz.prog false Tryz.f360 [] 29863 (jm N k) :=
 we.pieceT ag am (kZ N) Tryz.f360 [] (cuts:=[]) trivial (by decide +kernel) (by kernel_rfl) (jg N) (fun x=>by kernel_rfl)
@[reducible] def zc:LD:=⟨7465,[21,3,4,5,0],[(.ret,[2]),(.exit 2,[4,5,3,0]),(.exit 1,[3,4,0]),(.exit 0,[3]),(.normal,[4,5,3,0])],⟨[.bool,.sl 0,.int .i64,.int .i64,.ro (.int .i64)],[.row y4 373]⟩,[(.normal,⟨[.int .i64,.int .i64,.sl 0,.ro (.int .i64)],[.row y4 373]⟩)]⟩
noncomputable def lE (N:Nat):(Bool×Int×Int×(List Int)×(List (Int×(Int×(Int×Unit)))))→Option (Int×Int×(List Int)×(List (Int×(Int×(Int×Unit)))))
 | (x0,x1,x2,x3,x4) =>
 ac (x0) (
  ac (decide ((List.length x4+List.length [((18:Int),(7:Int),IntKind.wrap IntKind.i64 (x2-(11:Int)),())])*(24:Nat)≤(140737488355328:Nat)∧List.length x4+List.length [((18:Int),(7:Int),IntKind.wrap IntKind.i64 (x2-(11:Int)),())]≤(140737488355328:Nat))) (
   some ((x1,x2,x3,x4++[((18:Int),(7:Int),IntKind.wrap IntKind.i64 (x2-(11:Int)),())]))) (
   none )) (
  ac (within x1 (List.length x3)) (
   Option.bind (x3[Int.toNat x1]?) fun y0 =>
   ac (y0==(0:Int)) (
    Option.bind (jg N (decide (x2>(2:Int)),x1,x2,x3,x4)) fun y1 =>
    some ((y1.1,y1.2.1,y1.2.2.1,y1.2.2.2))) (
    Option.bind (jg N (false,x1,x2,x3,x4)) fun y2 =>
    some ((y2.1,y2.2.1,y2.2.2.1,y2.2.2.2)))) (
   none ))
noncomputable def qI (N:Nat) (_:Nat):Cut:=zc.cut (lE N)
theorem oQ (N:Nat) (k:Nat):ak Tryz.prog false Tryz.f360 [] 7465 (qI N k) :=
 zc.pieceT ag am (kZ N) Tryz.f360 [] (cuts:=[(29863,jm N N)]) ⟨gI N N,trivial⟩ (by decide +kernel) (by kernel_rfl) (lE N) (fun x=>by kernel_rfl)
@[reducible] def LY:LD:=⟨58,[3,4,0],[(.ret,[2]),(.exit 0,[3])],⟨[.sl 0,.int .i64,.ro (.int .i64)],[.row y4 373]⟩,[(.exit 0,⟨[.sl 0],[.row y4 373]⟩)]⟩
abbrev CP:Type:=Int×(List Int)×(List (Int×(Int×(Int×Unit))))
abbrev BW:Type:=(List (Int×(Int×(Int×Unit))))
noncomputable def NF (N:Nat) (f:CP→Option BW):CP→Option BW
 | (x0,x1,x2) =>
 ac (decide (x0<(↑(List.length x1):Int))) (
  Option.bind (ay4 N (x1,x0,(138:Int))) fun y0 =>
  ac (within x0 (List.length x1)) (
   Option.bind (x1[Int.toNat x0]?) fun y1 =>
   ac (y1==(0:Int)) (
    Option.bind (lE N (decide (y0>(10:Int)),x0,y0,x1,x2)) fun y2 =>
    Option.bind (f (IntKind.wrap IntKind.i64 (y2.1+y2.2.1),y2.2.2.1,y2.2.2.2)) fun r=>some r) (
    Option.bind (lE N (false,x0,y0,x1,x2)) fun y3 =>
    Option.bind (f (IntKind.wrap IntKind.i64 (y3.1+y3.2.1),y3.2.2.1,y3.2.2.2)) fun r=>some r)) (
   none )) (
  some (x2))
noncomputable def sH (N:Nat):Nat→CP→Option BW
 | 0,_=>none
 | k+1,x=>NF N (sH N k) x
noncomputable def MX (N:Nat) (k:Nat):Cut:=LY.cut (sH N k)
theorem JQ (N:Nat) (k:Nat):ak Tryz.prog false Tryz.f360 [] 58 (MX N k) :=
 LY.loopT ag am (kZ N) Tryz.f360 [] (cuts:=[(29863,jm N N),(7465,qI N N)]) ⟨gI N N,oQ N N,trivial⟩ (by decide +kernel) (by kernel_rfl) (NF N) (sH N) (fun _=>rfl) (fun _ _=>rfl) (fun f x=>by kernel_rfl) k
@[reducible] def w360:List SP:=[⟨[.sl 0],[.row y4 373]⟩]
noncomputable def az1 (N:Nat):((List Int))→Option ((List (Int×(Int×(Int×Unit)))))
 | x0 =>
 Option.bind (sH N N ((0:Int),x0,[])) fun y0 =>
 some (y0)
noncomputable def aO0 (N:Nat):Pk→Tr Pk:=ah s360 w360 (az1 N)
theorem WJ (N:Nat):av Tryz.prog (360) (aO0 N) :=
 (af ag am (kZ N) Tryz.func360 s360 w360 [] (cuts:=[(29863,jm N N),(7465,qI N N),(58,MX N N)]) ⟨gI N N,oQ N N,JQ N N,trivial⟩ (fun _=>by kernel_rfl) (by decide +kernel) (az1 N) (fun x=>by kernel_rfl))
@[reducible] def s362:SP:=⟨[],[]⟩
noncomputable def Z7 (N:Nat):List (Nat×(Pk→Tr Pk)):=[]
theorem xF (N:Nat):ai Tryz.prog (Z7 N):=trivial
@[reducible] def LW:LD:=⟨58,[1,2],[(.ret,[0]),(.exit 0,[1])],⟨[.sl 0,.int .i64],[.row (.int .i64) 3]⟩,[(.exit 0,⟨[.sl 0],[.row (.int .i64) 3]⟩)]⟩
abbrev CN:Type:=Int×(List Int)
abbrev BU:Type:=(List Int)
noncomputable def ND (N:Nat) (f:CN→Option BU):CN→Option BU
 | (x0,x1) =>
 ac (decide (x0<(8:Int))) (
  ac (decide ((List.length x1+List.length [IntKind.wrap IntKind.i64 ((7:Int)+x0),IntKind.wrap IntKind.i64 ((8:Int)-x0)])*(8:Nat)≤(140737488355328:Nat)∧List.length x1+List.length [IntKind.wrap IntKind.i64 ((7:Int)+x0),IntKind.wrap IntKind.i64 ((8:Int)-x0)]≤(140737488355328:Nat))) (
   Option.bind (f (IntKind.wrap IntKind.i64 (x0+(1:Int)),x1++[IntKind.wrap IntKind.i64 ((7:Int)+x0),IntKind.wrap IntKind.i64 ((8:Int)-x0)])) fun r=>some r) (
   none )) (
  some (x1))
noncomputable def sF (N:Nat):Nat→CN→Option BU
 | 0,_=>none
 | k+1,x=>ND N (sF N k) x
noncomputable def MW (N:Nat) (k:Nat):Cut:=LW.cut (sF N k)
theorem JP (N:Nat) (k:Nat):ak Tryz.prog false Tryz.f362 [] 58 (MW N k) :=
 LW.loopT ag am (xF N) Tryz.f362 [] (cuts:=[]) trivial (by decide +kernel) (by kernel_rfl) (ND N) (sF N) (fun _=>rfl) (fun _ _=>rfl) (fun f x=>by kernel_rfl) k
@[reducible] def w362:List SP:=[⟨[.sl 0],[.row (.int .i64) 3]⟩]
noncomputable def Yv (N:Nat):(Unit)→Option ((List Int))
 | () =>
 Option.bind (sF N N ((1:Int),[(16:Int),(17:Int),(18:Int),(0:Int)])) fun y0 =>
 ac (decide ((List.length y0+(1:Nat))*(8:Nat)≤(140737488355328:Nat)∧List.length y0+(1:Nat)≤(140737488355328:Nat))) (
  some (y0++[(15:Int)])) (
  none )
noncomputable def au7 (N:Nat):Pk→Tr Pk:=ah s362 w362 (Yv N)
theorem Lf (N:Nat):av Tryz.prog (362) (au7 N) :=
 (af ag am (xF N) Tryz.func362 s362 w362 [] (cuts:=[(58,MW N N)]) ⟨JP N N,trivial⟩ (fun _=>by kernel_rfl) (by decide +kernel) (Yv N) (fun x=>by kernel_rfl))
@[reducible] def s341:SP:=⟨[.adr 0 [],.ro (.int .i64),.ro (.int .i64)],[.var 221 (.agg [.sl 1,.int .i64,.int .i64]),.row (.int .u8) 5]⟩
noncomputable def ab5 (N:Nat):List (Nat×(Pk→Tr Pk)):=[(77,T77 N),(361,au8 N),(360,aO0 N),(358,au9 N),(354,av2 N),(362,au7 N),(269,IJ N),(222,Xt N)]
theorem eZ (N:Nat):ai Tryz.prog (ab5 N):=⟨as8 N,Lh N,WJ N,Li N,Ll N,Lf N,lz N,Bu N,trivial⟩
@[reducible] def Ft:LD:=⟨506,[58,57,1,2,8,0,56,9],[(.ret,[6]),(.exit 0,[9,0,8,2,1])],⟨[.int .i64,.int .i64,.ro (.int .i64),.ro (.int .i64),.sl 1,.adr 0 [],.sl 1,.sl 2],[.var 221 (.agg [.sl 3,.int .i64,.int .i64]),.row y4 373,.row (.int .i64) 3,.row (.int .u8) 5]⟩,[(.exit 0,⟨[.sl 1,.adr 0 [],.sl 2,.ro (.int .i64),.ro (.int .i64)],[.var 221 (.agg [.sl 3,.int .i64,.int .i64]),.row (.int .i64) 3,.row y4 373,.row (.int .u8) 5]⟩)]⟩
abbrev vK:Type:=Int×Int×(List Int)×(List Int)×Int×Int×(List (Int×(Int×(Int×Unit))))×(List Int)×(List Int)
abbrev uV:Type:=(List Int)×(List Int)×Int×Int×(List Int)×(List (Int×(Int×(Int×Unit))))×(List Int)
noncomputable def Hw (N:Nat) (f:vK→Option uV):vK→Option uV
 | (x0,x1,x2,x3,x4,x5,x6,x7,x8) =>
 ac (decide (x0<x1)) (
  ac (within x0 (List.length x6)) (
   Option.bind (x6[Int.toNat x0]?) fun y0 =>
   ac (within y0.1 (List.length x7)) (
    Option.bind (x7[Int.toNat y0.1]?) fun y1 =>
    ac (within y0.1 (List.length x7)) (
     Option.bind (x7[Int.toNat y0.1]?) fun y2 =>
     Option.bind (f (IntKind.wrap IntKind.i64 (x0+(1:Int)),x1,x2,x3,x4,x5,x6,List.set x7 (Int.toNat y0.1) (IntKind.wrap IntKind.i64 (y1+(1:Int))),x8)) fun r=>some r) (
     none )) (
    none )) (
   none )) (
  some ((x3,x2,x4,x5,x7,x6,x8)))
noncomputable def oE (N:Nat):Nat→vK→Option uV
 | 0,_=>none
 | k+1,x=>Hw N (oE N k) x
noncomputable def iw (N:Nat) (k:Nat):Cut:=Ft.cut (oE N k)
theorem eA (N:Nat) (k:Nat):ak Tryz.prog false Tryz.f341 [0] 506 (iw N k) :=
 Ft.loopT ag am (eZ N) Tryz.f341 [0] (cuts:=[]) trivial (by decide +kernel) (by kernel_rfl) (Hw N) (oE N) (fun _=>rfl) (fun _ _=>rfl) (fun f x=>by kernel_rfl) k
@[reducible] def zi:LD:=⟨8188,[17,12,0,8,14,16,2,1],[(.ret,[6]),(.exit 2,[1,2,16,17,14,8,0,12])],⟨[.int .i64,.sl 1,.adr 0 [],.sl 2,.sl 3,.sl 4,.ro (.int .i64),.ro (.int .i64)],[.var 221 (.agg [.sl 5,.int .i64,.int .i64]),.row (.int .i64) 3,.row y4 373,.row y0 248,.row (.int .i64) 3,.row (.int .u8) 5]⟩,[(.exit 2,⟨[.ro (.int .i64),.ro (.int .i64),.sl 1,.int .i64,.sl 2,.sl 3,.adr 0 [],.sl 4],[.var 221 (.agg [.sl 5,.int .i64,.int .i64]),.row (.int .i64) 3,.row y0 248,.row y4 373,.row (.int .i64) 3,.row (.int .u8) 5]⟩)]⟩
abbrev qu:Type:=Int×(List Int)×(List Int)×Int×Int×(List Int)×(List (Int×(Int×(Int×Unit))))×(List (Int×(Int×Unit)))×(List Int)×(List Int)
abbrev qc:Type:=(List Int)×(List Int)×Int×Int×Int×(List Int)×(List (Int×(Int×Unit)))×(List (Int×(Int×(Int×Unit))))×(List Int)×(List Int)
noncomputable def Ae (N:Nat) (f:qu→Option qc):qu→Option qc
 | (x0,x1,x2,x3,x4,x5,x6,x7,x8,x9) =>
 ac (decide (x0>(4:Int))) (
  ac (within (IntKind.wrap IntKind.i64 (x0-(1:Int))) (List.length x8)) (
   Option.bind (x8[Int.toNat (IntKind.wrap IntKind.i64 (x0-(1:Int)))]?) fun y0 =>
   ac (within y0 (List.length x5)) (
    Option.bind (x5[Int.toNat y0]?) fun y1 =>
    ac (y1==(0:Int)) (
     Option.bind (f (IntKind.wrap IntKind.i64 (x0-(1:Int)),x1,x2,x3,x4,x5,x6,x7,x8,x9)) fun r=>some r) (
     some ((x2,x1,x0,x3,x4,x8,x7,x6,x5,x9)))) (
    none )) (
   none )) (
  some ((x2,x1,x0,x3,x4,x8,x7,x6,x5,x9)))
noncomputable def lK (N:Nat):Nat→qu→Option qc
 | 0,_=>none
 | k+1,x=>Ae N (lK N k) x
noncomputable def iv (N:Nat) (k:Nat):Cut:=zi.cut (lK N k)
theorem eX (N:Nat) (k:Nat):ak Tryz.prog false Tryz.f341 [0] 8188 (iv N k) :=
 zi.loopT ag am (eZ N) Tryz.f341 [0] (cuts:=[(506,iw N N)]) ⟨eA N N,trivial⟩ (by decide +kernel) (by kernel_rfl) (Ae N) (lK N) (fun _=>rfl) (fun _ _=>rfl) (fun f x=>by kernel_rfl) k
@[reducible] def rq:LD:=⟨262138,[116,115,14,8,114,0,12],[(.ret,[6]),(.exit 4,[8,14,0])],⟨[.int .i64,.int .i64,.sl 1,.sl 2,.slp 3 (.c 0) .h,.adr 0 [],.sl 4],[.var 221 (.agg [.sl 5,.int .i64,.int .i64]),.row y0 248,.row y4 373,.row (.int .i64) 3,.row (.int .i64) 3,.row (.int .u8) 5]⟩,[(.exit 4,⟨[.sl 1,.sl 2,.adr 0 []],[.var 221 (.agg [.sl 3,.int .i64,.int .i64]),.row y4 373,.row y0 248,.row (.int .u8) 5]⟩)]⟩
abbrev kv:Type:=Int×Int×Nat×Int×Int×(List (Int×(Int×Unit)))×(List (Int×(Int×(Int×Unit))))×(List Int)×(List Int)×(List Int)
abbrev km:Type:=Int×Int×(List (Int×(Int×(Int×Unit))))×(List (Int×(Int×Unit)))×(List Int)
noncomputable def rJ (N:Nat) (f:kv→Option km):kv→Option km
 | (x0,x1,x2,x3,x4,x5,x6,x7,x8,x9) =>
 ac (decide (x0<x1)) (
  ac (within x0 x2) (
   Option.bind (x7[(0:Nat)+Int.toNat x0]?) fun y0 =>
   ac (within y0 (List.length x8)) (
    Option.bind (x8[Int.toNat y0]?) fun y1 =>
    Option.bind (eM N ((3:Int),y1,x3,x4,x9)) fun y2 =>
    Option.bind (f (IntKind.wrap IntKind.i64 (x0+(1:Int)),x1,x2,y2.1,y2.2.1,x5,x6,x7,x8,y2.2.2)) fun r=>some r) (
    none )) (
   none )) (
  some ((x3,x4,x6,x5,x9)))
noncomputable def gp (N:Nat):Nat→kv→Option km
 | 0,_=>none
 | k+1,x=>rJ N (gp N k) x
noncomputable def gx (N:Nat) (k:Nat):Cut:=rq.cut (gp N k)
theorem fP (N:Nat) (k:Nat):ak Tryz.prog false Tryz.f341 [0] 262138 (gx N k) :=
 rq.loopT ag am (eZ N) Tryz.f341 [0] (cuts:=[(506,iw N N),(8188,iv N N)]) ⟨eA N N,eX N N,trivial⟩ (by decide +kernel) (by kernel_rfl) (rJ N) (gp N) (fun _=>rfl) (fun _ _=>rfl) (fun f x=>by kernel_rfl) k
@[reducible] def rp:LD:=⟨524282,[129,128,127,14,0],[(.ret,[6]),(.exit 6,[])],⟨[.int .i64,.int .i64,.sl 1,.sl 2,.adr 0 []],[.var 221 (.agg [.sl 3,.int .i64,.int .i64]),.row y4 373,.row y0 248,.row (.int .u8) 5]⟩,[(.exit 6,⟨[],[.var 221 (.agg [.sl 1,.int .i64,.int .i64]),.row (.int .u8) 5]⟩)]⟩
abbrev ku:Type:=Int×Int×Int×Int×(List (Int×(Int×(Int×Unit))))×(List (Int×(Int×Unit)))×(List Int)
abbrev kl:Type:=Int×Int×(List Int)
noncomputable def rI (N:Nat) (f:ku→Option kl):ku→Option kl
 | (x0,x1,x2,x3,x4,x5,x6) =>
 ac (decide (x0<x1)) (
  ac (within x0 (List.length x4)) (
   Option.bind (x4[Int.toNat x0]?) fun y0 =>
   ac (within y0.1 (List.length x5)) (
    Option.bind (x5[Int.toNat y0.1]?) fun y1 =>
    Option.bind (xj N (y1.1,y1.2.1,x2,x3,x6)) fun y2 =>
    Option.bind (eM N (y0.2.1,y0.2.2.1,y2.1,y2.2.1,y2.2.2)) fun y3 =>
    Option.bind (f (IntKind.wrap IntKind.i64 (x0+(1:Int)),x1,y3.1,y3.2.1,x4,x5,y3.2.2)) fun r=>some r) (
    none )) (
   none )) (
  some ((x2,x3,x6)))
noncomputable def gn (N:Nat):Nat→ku→Option kl
 | 0,_=>none
 | k+1,x=>rI N (gn N k) x
noncomputable def kQ (N:Nat) (k:Nat):Cut:=rp.cut (gn N k)
theorem kP (N:Nat) (k:Nat):ak Tryz.prog false Tryz.f341 [0] 524282 (kQ N k) :=
 rp.loopT ag am (eZ N) Tryz.f341 [0] (cuts:=[(506,iw N N),(8188,iv N N),(262138,gx N N)]) ⟨eA N N,eX N N,fP N N,trivial⟩ (by decide +kernel) (by kernel_rfl) (rI N) (gn N) (fun _=>rfl) (fun _ _=>rfl) (fun f x=>by kernel_rfl) k
@[reducible] def Mc:LD:=⟨15,[1,2,0],[(.ret,[6]),(.normal,[6])],⟨[.ro (.int .i64),.ro (.int .i64),.adr 0 []],[.var 221 (.agg [.sl 1,.int .i64,.int .i64]),.row (.int .u8) 5]⟩,[(.ret,⟨[.int .i64],[.var 221 (.agg [.sl 1,.int .i64,.int .i64]),.row (.int .u8) 5]⟩)]⟩
noncomputable def Dn (N:Nat):((List Int)×(List Int)×Int×Int×(List Int))→Option (Int×Int×Int×(List Int))
 | (x0,x1,x2,x3,x4) =>
 Option.bind (Yw N [x0,x1]) fun y0 =>
 Option.bind (az1 N y0) fun y1 =>
 Option.bind (oE N N ((0:Int),(↑(List.length y1):Int),x0,x1,x2,x3,y1,List.replicate (19:Nat) (0:Int),x4)) fun(y2_0,y2_1,y2_2,y2_3,y2_4,y2_5,y2_6) =>
 Option.bind (Yx N (y2_4,(7:Int))) fun y3 =>
 Option.bind (Ut N y3.2) fun y4 =>
 Option.bind (Yv N ()) fun y5 =>
 Option.bind (lK N N ((↑(List.length y5):Int),y2_0,y2_1,y2_2,y2_3,y3.2,y2_5,y4.2,y5,y2_6)) fun(y6_0,y6_1,y6_2,y6_3,y6_4,y6_5,y6_6,y6_7,y6_8,y6_9) =>
 Option.bind (eM N ((5:Int),IntKind.wrap IntKind.i64 ((↑(List.length y6_0):Int)-(257:Int)),y6_3,y6_4,y6_9)) fun y7 =>
 Option.bind (eM N ((5:Int),IntKind.wrap IntKind.i64 ((↑(List.length y6_1):Int)-(1:Int)),y7.1,y7.2.1,y7.2.2)) fun y8 =>
 Option.bind (eM N ((4:Int),IntKind.wrap IntKind.i64 (y6_2-(4:Int)),y8.1,y8.2.1,y8.2.2)) fun y9 =>
 ac (decide ((0:Int)≤y6_2∧y6_2≤(↑(List.length y6_5):Int))) (
  Option.bind (gp N N ((0:Int),(↑(Int.toNat y6_2-(0:Nat)):Int),Int.toNat y6_2-(0:Nat),y9.1,y9.2.1,y6_6,y6_7,y6_5,y6_8,y9.2.2)) fun y10 =>
  Option.bind (gn N N ((0:Int),(↑(List.length y10.2.2.1):Int),y10.1,y10.2.1,y10.2.2.1,y10.2.2.2.1,y10.2.2.2.2)) fun y11 =>
  some (((0:Int),y11.1,y11.2.1,y11.2.2))) (
  none )
noncomputable def M1 (N:Nat) (_:Nat):Cut:=Mc.cut (Dn N)
theorem JV (N:Nat) (k:Nat):ak Tryz.prog false Tryz.f341 [0] 15 (M1 N k) :=
 Mc.pieceT ag am (eZ N) Tryz.f341 [0] (cuts:=[(506,iw N N),(8188,iv N N),(262138,gx N N),(524282,kQ N N)]) ⟨eA N N,eX N N,fP N N,kP N N,trivial⟩ (by decide +kernel) (by kernel_rfl) (Dn N) (fun x=>by kernel_rfl)
@[reducible] def w341:List SP:=[⟨[.int .i64],[.var 221 (.agg [.sl 1,.int .i64,.int .i64]),.row (.int .u8) 5]⟩]
noncomputable def az6 (N:Nat):((List Int)×(List Int)×Int×Int×(List Int))→Option (Int×Int×Int×(List Int))
 | (x0,x1,x2,x3,x4) =>
 ac (decide ((↑(List.length x0):Int)<(257:Int))) (
  some (((1:Int),x2,x3,x4))) (
  ac (decide ((↑(List.length x0):Int)>(286:Int))) (
   some (((1:Int),x2,x3,x4))) (
   ac (decide ((↑(List.length x1):Int)<(1:Int))) (
    some (((1:Int),x2,x3,x4))) (
    ac (decide ((↑(List.length x1):Int)>(30:Int))) (
     some (((1:Int),x2,x3,x4))) (
     Option.bind (F77 N x0) fun y0 =>
     ac (y0) (
      some (((1:Int),x2,x3,x4))) (
      Option.bind (F77 N x1) fun y1 =>
      ac (y1) (
       some (((1:Int),x2,x3,x4))) (
       Option.bind (Dn N (x0,x1,x2,x3,x4)) fun y2 =>
       some ((y2.1,y2.2.1,y2.2.2.1,y2.2.2.2))))))))
noncomputable def aP0 (N:Nat):Pk→Tr Pk:=ah s341 w341 (az6 N)
theorem WV (N:Nat):av Tryz.prog (341) (aP0 N) :=
 (af ag am (eZ N) Tryz.func341 s341 w341 [0] (cuts:=[(506,iw N N),(8188,iv N N),(262138,gx N N),(524282,kQ N N),(15,M1 N N)]) ⟨eA N N,eX N N,fP N N,kP N N,JV N N,trivial⟩ (fun _=>by kernel_rfl) (by decide +kernel) (az6 N) (fun x=>by kernel_rfl))
@[reducible] def s323:SP:=⟨[.adr 0 [],.ro y4,.bool,.bool],[.var 221 (.agg [.sl 1,.int .i64,.int .i64]),.row (.int .u8) 5]⟩
noncomputable def ac8 (N:Nat):List (Nat×(Pk→Tr Pk)):=[(335,TE N),(271,aw0 N),(336,av5 N),(337,aP3 N),(338,av4 N),(340,aP1 N),(339,aP2 N),(341,aP0 N)]
theorem xM (N:Nat):ai Tryz.prog (ac8 N):=⟨sg N,Lr N,Lo N,WY N,Ln N,WW N,WX N,WV N,trivial⟩
@[reducible] def Mf:LD:=⟨26,[19,1,0,3,2,18,20],[(.ret,[8]),(.exit 0,[2,3,0,1])],⟨[.int .i64,.ro y4,.adr 0 [],.bool,.bool,.ro y4,.int .i64],[.var 221 (.agg [.sl 1,.int .i64,.int .i64]),.row (.int .u8) 5]⟩,[(.ret,⟨[.int .i64],[.var 221 (.agg [.sl 1,.int .i64,.int .i64]),.row (.int .u8) 5]⟩),(.exit 0,⟨[.bool,.bool,.adr 0 [],.ro y4],[.var 221 (.agg [.sl 1,.int .i64,.int .i64]),.row (.int .u8) 5]⟩)]⟩
abbrev CV:Type:=Int×(List (Int×(Int×(Int×Unit))))×Bool×Bool×(List (Int×(Int×(Int×Unit))))×Int×Int×Int×(List Int)
abbrev Cc:Type:=((Int×Int×Int×(List Int))⊕(Bool×Bool×(List (Int×(Int×(Int×Unit))))×Int×Int×(List Int)))
noncomputable def NL (N:Nat) (f:CV→Option Cc):CV→Option Cc
 | (x0,x1,x2,x3,x4,x5,x6,x7,x8) =>
 ac (decide (x5<x0)) (
  ac (within x5 (List.length x4)) (
   Option.bind (x4[Int.toNat x5]?) fun y0 =>
   Option.bind (Qx N (y0.1,y0.2.1,y0.2.2.1)) fun y1 =>
   ac (!y1) (
    some (.inl (((1:Int),x6,x7,x8)))) (
    Option.bind (f (x0,x1,x2,x3,x4,IntKind.wrap IntKind.i64 (x5+(1:Int)),x6,x7,x8)) fun r=>match r with|.inl y=>some (.inl y)|.inr y=>some (.inr y))) (
   none )) (
  some (.inr ((x3,x2,x1,x6,x7,x8))))
noncomputable def sM (N:Nat):Nat→CV→Option Cc
 | 0,_=>none
 | k+1,x=>NL N (sM N k) x
noncomputable def M3 (N:Nat) (k:Nat):Cut:=Mf.cut (sM N k)
theorem JX (N:Nat) (k:Nat):ak Tryz.prog false Tryz.f323 [0] 26 (M3 N k) :=
 Mf.loopT ag am (xM N) Tryz.f323 [0] (cuts:=[]) trivial (by decide +kernel) (by kernel_rfl) (NL N) (sM N) (fun _=>rfl) (fun _ _=>rfl) (fun f x=>by kernel_rfl) k
@[reducible] def w323:List SP:=[⟨[.int .i64],[.var 221 (.agg [.sl 1,.int .i64,.int .i64]),.row (.int .u8) 5]⟩]
noncomputable def aA0 (N:Nat):((List (Int×(Int×(Int×Unit))))×Bool×Bool×Int×Int×(List Int))→Option (Int×Int×Int×(List Int))
 | (x0,x1,x2,x3,x4,x5) =>
 Option.bind (sM N N ((↑(List.length x0):Int),x0,x2,x1,x0,(0:Int),x3,x4,x5)) fun y0 =>
 match y0 with
 | .inl y1 =>
  some ((y1.1,y1.2.1,y1.2.2.1,y1.2.2.2))
 | .inr (y1_0,y1_1,y1_2,y1_3,y1_4,y1_5) =>
  ac (!y1_0) (
   Option.bind (QB N (y1_1,(1:Int),y1_3,y1_4,y1_5)) fun y2 =>
   Option.bind (YJ N ()) fun y3 =>
   Option.bind (YI N (y3.1,y3.2,y1_2,y2.1,y2.2.1,y2.2.2)) fun y4 =>
   some ((y4.1,y4.2.1,y4.2.2.1,y4.2.2.2))) (
   Option.bind (YH N y1_2) fun y5 =>
   Option.bind (YF N y5.1) fun y6 =>
   Option.bind (YG N (y6,(257:Int))) fun y7 =>
   Option.bind (YF N y5.2) fun y8 =>
   Option.bind (YG N (y8,(1:Int))) fun y9 =>
   Option.bind (QB N (y1_1,(2:Int),y1_3,y1_4,y1_5)) fun y10 =>
   Option.bind (az6 N (y7,y9,y10.1,y10.2.1,y10.2.2)) fun y11 =>
   ac (y11.1 != (0:Int)) (
    some ((y11.1,y11.2.1,y11.2.2.1,y11.2.2.2))) (
    Option.bind (YI N (y7,y9,y1_2,y11.2.1,y11.2.2.1,y11.2.2.2)) fun y12 =>
    some ((y12.1,y12.2.1,y12.2.2.1,y12.2.2.2))))
noncomputable def aP8 (N:Nat):Pk→Tr Pk:=ah s323 w323 (aA0 N)
theorem W3 (N:Nat):av Tryz.prog (323) (aP8 N) :=
 (af ag am (xM N) Tryz.func323 s323 w323 [0] (cuts:=[(26,M3 N N)]) ⟨JX N N,trivial⟩ (fun _=>by kernel_rfl) (by decide +kernel) (aA0 N) (fun x=>by kernel_rfl))
@[reducible] def s322:SP:=⟨[.adr 0 [],.adr 1 [],.adr 2 [],.adr 3 []],[.var 221 (.agg [.sl 4,.int .i64,.int .i64]),.var 278 (.ro y4),.var 4 (.bool),.var 4 (.bool),.row (.int .u8) 5]⟩
noncomputable def ac9 (N:Nat):List (Nat×(Pk→Tr Pk)):=[(323,aP8 N)]
theorem Oy (N:Nat):ai Tryz.prog (ac9 N):=⟨W3 N,trivial⟩
@[reducible] def w322:List SP:=[⟨[.tup []],[.var 221 (.agg [.sl 4,.int .i64,.int .i64]),.var 278 (.ro y4),.var 4 (.bool),.var 4 (.bool),.row (.int .u8) 5]⟩]
noncomputable def Uy (N:Nat):(Int×Int×(List (Int×(Int×(Int×Unit))))×Bool×Bool×(List Int))→Option (Int×Int×(List (Int×(Int×(Int×Unit))))×Bool×Bool×(List Int))
 | (x0,x1,x2,x3,x4,x5) =>
 Option.bind (aA0 N (x2,x3,x4,x0,x1,x5)) fun y0 =>
 some ((y0.2.1,y0.2.2.1,x2,x3,x4,y0.2.2.2))
noncomputable def av6 (N:Nat):Pk→Tr Pk:=ah s322 w322 (Uy N)
theorem Lp (N:Nat):av Tryz.prog (322) (av6 N) :=
 (af ag am (Oy N) Tryz.func322 s322 w322 [0,1,2,3] (cuts:=[]) trivial (fun _=>by kernel_rfl) (by decide +kernel) (Uy N) (fun x=>by kernel_rfl))
@[reducible] def s324:SP:=⟨[.radr y3 [.i 0 3]],[]⟩
noncomputable def ac7 (N:Nat):List (Nat×(Pk→Tr Pk)):=[]
theorem Ox (N:Nat):ai Tryz.prog (ac7 N):=trivial
@[reducible] def w324:List SP:=[⟨[.int .i64],[]⟩]
noncomputable def az9 (N:Nat):(((List Int)×(Int×(Int×Unit))))→Option (Int)
 | x0 =>
 some (IntKind.wrap IntKind.i64 (IntKind.wrap IntKind.i64 ((8:Int)*(↑(List.length x0.1):Int))+x0.2.2.1))
noncomputable def aP7 (N:Nat):Pk→Tr Pk:=ah s324 w324 (az9 N)
theorem W2 (N:Nat):av Tryz.prog (324) (aP7 N) :=
 (af ag am (Ox N) Tryz.func324 s324 w324 [] (cuts:=[]) trivial (fun _=>by kernel_rfl) (by decide +kernel) (az9 N) (fun x=>by kernel_rfl))
@[reducible] def s290:SP:=⟨[.ro y4,.bool,.bool],[]⟩
noncomputable def ad7 (N:Nat):List (Nat×(Pk→Tr Pk)):=[(322,av6 N),(324,aP7 N)]
theorem OE (N:Nat):ai Tryz.prog (ad7 N):=⟨Lp N,W2 N,trivial⟩
@[reducible] def w290:List SP:=[⟨[.agg [.int .i64,.clo 322 [.adr 0 [],.adr 1 [],.adr 2 []]]],[.var 278 (.ro y4),.var 4 (.bool),.var 4 (.bool)]⟩]
noncomputable def YL (N:Nat):((List (Int×(Int×(Int×Unit))))×Bool×Bool)→Option (Int×(List (Int×(Int×(Int×Unit))))×Bool×Bool)
 | (x0,x1,x2) =>
 Option.bind (Uy N ((0:Int),(0:Int),x0,x1,x2,[])) fun(y0_0,y0_1,y0_2,y0_3,y0_4,y0_5) =>
 Option.bind (az9 N (y0_5,y0_0,y0_1,())) fun y1 =>
 some ((y1,y0_2,y0_3,y0_4))
noncomputable def aQ3 (N:Nat):Pk→Tr Pk:=ah s290 w290 (YL N)
theorem Xa (N:Nat):av Tryz.prog (290) (aQ3 N) :=
 (af ag am (OE N) Tryz.func290 s290 w290 [] (cuts:=[]) trivial (fun _=>by kernel_rfl) (by decide +kernel) (YL N) (fun x=>by kernel_rfl))
@[reducible] def s289:SP:=⟨[.agg [.int .i64,.clo 322 [.adr 0 [],.adr 1 [],.adr 2 []]],.agg [.int .i64,.clo 322 [.adr 3 [],.adr 4 [],.adr 5 []]]],[.var 278 (.ro y4),.var 4 (.bool),.var 4 (.bool),.var 278 (.ro y4),.var 4 (.bool),.var 4 (.bool)]⟩
noncomputable def ad8 (N:Nat):List (Nat×(Pk→Tr Pk)):=[]
theorem OF (N:Nat):ai Tryz.prog (ad8 N):=trivial
@[reducible] def w289:List SP:=[⟨[.agg [.int .i64,.clo 322 [.adr 3 [],.adr 4 [],.adr 5 []]]],[.var 278 (.ro y4),.var 4 (.bool),.var 4 (.bool),.var 278 (.ro y4),.var 4 (.bool),.var 4 (.bool)]⟩,⟨[.agg [.int .i64,.clo 322 [.adr 0 [],.adr 1 [],.adr 2 []]]],[.var 278 (.ro y4),.var 4 (.bool),.var 4 (.bool),.var 278 (.ro y4),.var 4 (.bool),.var 4 (.bool)]⟩]
noncomputable def aA6 (N:Nat):(Int×Int×(List (Int×(Int×(Int×Unit))))×Bool×Bool×(List (Int×(Int×(Int×Unit))))×Bool×Bool)→Option (((Int×(List (Int×(Int×(Int×Unit))))×Bool×Bool×(List (Int×(Int×(Int×Unit))))×Bool×Bool)⊕(Int×(List (Int×(Int×(Int×Unit))))×Bool×Bool×(List (Int×(Int×(Int×Unit))))×Bool×Bool)))
 | (x0,x1,x2,x3,x4,x5,x6,x7) =>
 ac (decide (x1<x0)) (
  some (.inl ((x1,x2,x3,x4,x5,x6,x7)))) (
  some (.inr ((x0,x2,x3,x4,x5,x6,x7))))
noncomputable def aQ4 (N:Nat):Pk→Tr Pk:=ah s289 w289 (aA6 N)
theorem Xb (N:Nat):av Tryz.prog (289) (aQ4 N) :=
 (af ag am (OF N) Tryz.func289 s289 w289 [0,1,2,3,4,5] (cuts:=[]) trivial (fun _=>by kernel_rfl) (by decide +kernel) (aA6 N) (fun x=>by kernel_rfl))
@[reducible] def s289a:SP:=⟨[.agg [.int .i64,.clo 288 [.adr 0 [],.adr 1 []]],.agg [.int .i64,.clo 322 [.adr 2 [],.adr 3 [],.adr 4 []]]],[.var 9 (.str),.var 4 (.bool),.var 278 (.ro y4),.var 4 (.bool),.var 4 (.bool)]⟩
noncomputable def VE (N:Nat):List (Nat×(Pk→Tr Pk)):=[]
theorem HV (N:Nat):ai Tryz.prog (VE N):=trivial
@[reducible] def w289a:List SP:=[⟨[.agg [.int .i64,.clo 322 [.adr 2 [],.adr 3 [],.adr 4 []]]],[.var 9 (.str),.var 4 (.bool),.var 278 (.ro y4),.var 4 (.bool),.var 4 (.bool)]⟩,⟨[.agg [.int .i64,.clo 288 [.adr 0 [],.adr 1 []]]],[.var 9 (.str),.var 4 (.bool),.var 278 (.ro y4),.var 4 (.bool),.var 4 (.bool)]⟩]
noncomputable def ME (N:Nat):(Int×Int×ByteArray×Bool×(List (Int×(Int×(Int×Unit))))×Bool×Bool)→Option (((Int×ByteArray×Bool×(List (Int×(Int×(Int×Unit))))×Bool×Bool)⊕(Int×ByteArray×Bool×(List (Int×(Int×(Int×Unit))))×Bool×Bool)))
 | (x0,x1,x2,x3,x4,x5,x6) =>
 ac (decide (x1<x0)) (
  some (.inl ((x1,x2,x3,x4,x5,x6)))) (
  some (.inr ((x0,x2,x3,x4,x5,x6))))
noncomputable def Zq (N:Nat):Pk→Tr Pk:=ah s289a w289a (ME N)
theorem TI (N:Nat):av Tryz.prog (289) (Zq N) :=
 (af ag am (HV N) Tryz.func289 s289a w289a [0,1,2,3,4] (cuts:=[]) trivial (fun _=>by kernel_rfl) (by decide +kernel) (ME N) (fun x=>by kernel_rfl))
@[reducible] def s272:SP:=⟨[.adr 0 [],.str],[.var 221 (.agg [.sl 1,.int .i64,.int .i64]),.row (.int .u8) 5]⟩
noncomputable def ae3 (N:Nat):List (Nat×(Pk→Tr Pk)):=[(223,Xs N)]
theorem OJ (N:Nat):ai Tryz.prog (ae3 N):=⟨Bt N,trivial⟩
@[reducible] def w272:List SP:=[⟨[.tup []],[.var 221 (.agg [.sl 1,.int .i64,.int .i64]),.row (.int .u8) 5]⟩]
noncomputable def YO (N:Nat):(ByteArray×Int×Int×(List Int))→Option (Int×Int×(List Int))
 | (x0,x1,x2,x3) =>
 Option.bind (Dq N (x1,x2,x3)) fun y0 =>
 ac (decide ((List.length y0.2.2+List.length (bytesOf x0))*(1:Nat)≤(140737488355328:Nat)∧List.length y0.2.2+List.length (bytesOf x0)≤(140737488355328:Nat))) (
  some ((y0.1,y0.2.1,y0.2.2++bytesOf x0))) (
  none )
noncomputable def aQ9 (N:Nat):Pk→Tr Pk:=ah s272 w272 (YO N)
theorem Xg (N:Nat):av Tryz.prog (272) (aQ9 N) :=
 (af ag am (OJ N) Tryz.func272 s272 w272 [0] (cuts:=[]) trivial (fun _=>by kernel_rfl) (by decide +kernel) (YO N) (fun x=>by kernel_rfl))
@[reducible] def s228:SP:=⟨[.adr 0 [],.str,.bool],[.var 221 (.agg [.sl 1,.int .i64,.int .i64]),.row (.int .u8) 5]⟩
noncomputable def af8 (N:Nat):List (Nat×(Pk→Tr Pk)):=[(271,aw0 N),(223,Xs N),(269,IJ N),(272,aQ9 N)]
theorem xW (N:Nat):ai Tryz.prog (af8 N):=⟨Lr N,Bt N,lz N,Xg N,trivial⟩
@[reducible] def Ud:LD:=⟨2,[1,2,0],[(.ret,[])],⟨[.str,.bool,.adr 0 []],[.var 221 (.agg [.sl 1,.int .i64,.int .i64]),.row (.int .u8) 5]⟩,[(.ret,⟨[],[.var 221 (.agg [.sl 1,.int .i64,.int .i64]),.row (.int .u8) 5]⟩)]⟩
abbrev I9:Type:=ByteArray×Bool×Int×Int×(List Int)
abbrev IW:Type:=Int×Int×(List Int)
noncomputable def Vr (N:Nat) (f:I9→Option IW):I9→Option IW
 | (x0,x1,x2,x3,x4) =>
 ac (x1) (
  Option.bind (QB N ((if (65535:Int)<(↑(ByteArray.size x0):Int) then (65535:Int) else (↑(ByteArray.size x0):Int))==(↑(ByteArray.size x0):Int),(0:Int),x2,x3,x4)) fun y0 =>
  Option.bind (Dq N (y0.1,y0.2.1,y0.2.2)) fun y1 =>
  Option.bind (eM N ((16:Int),if (65535:Int)<(↑(ByteArray.size x0):Int) then (65535:Int) else (↑(ByteArray.size x0):Int),y1.1,y1.2.1,y1.2.2)) fun y2 =>
  Option.bind (eM N ((16:Int),IntKind.wrap IntKind.i64 (↑(BitVec.toNat (BitVec.ofInt (64:Nat) (if (65535:Int)<(↑(ByteArray.size x0):Int) then (65535:Int) else (↑(ByteArray.size x0):Int)) ^^^ BitVec.ofInt (64:Nat) (65535:Int))):Int),y2.1,y2.2.1,y2.2.2)) fun y3 =>
  ac (decide (((0:Int)≤if (65535:Int)<(↑(ByteArray.size x0):Int) then (65535:Int) else (↑(ByteArray.size x0):Int))∧(if (65535:Int)<(↑(ByteArray.size x0):Int) then (65535:Int) else (↑(ByteArray.size x0):Int))≤(↑(ByteArray.size x0):Int))) (
   Option.bind (YO N (ByteArray.extract x0 (0:Nat) (Int.toNat (if (65535:Int)<(↑(ByteArray.size x0):Int) then (65535:Int) else (↑(ByteArray.size x0):Int))),y3.1,y3.2.1,y3.2.2)) fun y4 =>
   ac (decide (((0:Int)≤if (65535:Int)<(↑(ByteArray.size x0):Int) then (65535:Int) else (↑(ByteArray.size x0):Int))∧(if (65535:Int)<(↑(ByteArray.size x0):Int) then (65535:Int) else (↑(ByteArray.size x0):Int))≤(↑(ByteArray.size x0):Int))) (
    ac (ByteArray.toList (ByteArray.extract x0 (Int.toNat (if (65535:Int)<(↑(ByteArray.size x0):Int) then (65535:Int) else (↑(ByteArray.size x0):Int))) (ByteArray.size x0))==[]) (
     some ((y4.1,y4.2.1,y4.2.2))) (
     Option.bind (f (ByteArray.extract x0 (Int.toNat (if (65535:Int)<(↑(ByteArray.size x0):Int) then (65535:Int) else (↑(ByteArray.size x0):Int))) (ByteArray.size x0),x1,y4.1,y4.2.1,y4.2.2)) fun r=>some r)) (
    none )) (
   none )) (
  Option.bind (QB N (false,(0:Int),x2,x3,x4)) fun y5 =>
  Option.bind (Dq N (y5.1,y5.2.1,y5.2.2)) fun y6 =>
  Option.bind (eM N ((16:Int),if (65535:Int)<(↑(ByteArray.size x0):Int) then (65535:Int) else (↑(ByteArray.size x0):Int),y6.1,y6.2.1,y6.2.2)) fun y7 =>
  Option.bind (eM N ((16:Int),IntKind.wrap IntKind.i64 (↑(BitVec.toNat (BitVec.ofInt (64:Nat) (if (65535:Int)<(↑(ByteArray.size x0):Int) then (65535:Int) else (↑(ByteArray.size x0):Int)) ^^^ BitVec.ofInt (64:Nat) (65535:Int))):Int),y7.1,y7.2.1,y7.2.2)) fun y8 =>
  ac (decide (((0:Int)≤if (65535:Int)<(↑(ByteArray.size x0):Int) then (65535:Int) else (↑(ByteArray.size x0):Int))∧(if (65535:Int)<(↑(ByteArray.size x0):Int) then (65535:Int) else (↑(ByteArray.size x0):Int))≤(↑(ByteArray.size x0):Int))) (
   Option.bind (YO N (ByteArray.extract x0 (0:Nat) (Int.toNat (if (65535:Int)<(↑(ByteArray.size x0):Int) then (65535:Int) else (↑(ByteArray.size x0):Int))),y8.1,y8.2.1,y8.2.2)) fun y9 =>
   ac (decide (((0:Int)≤if (65535:Int)<(↑(ByteArray.size x0):Int) then (65535:Int) else (↑(ByteArray.size x0):Int))∧(if (65535:Int)<(↑(ByteArray.size x0):Int) then (65535:Int) else (↑(ByteArray.size x0):Int))≤(↑(ByteArray.size x0):Int))) (
    ac (ByteArray.toList (ByteArray.extract x0 (Int.toNat (if (65535:Int)<(↑(ByteArray.size x0):Int) then (65535:Int) else (↑(ByteArray.size x0):Int))) (ByteArray.size x0))==[]) (
     some ((y9.1,y9.2.1,y9.2.2))) (
     Option.bind (f (ByteArray.extract x0 (Int.toNat (if (65535:Int)<(↑(ByteArray.size x0):Int) then (65535:Int) else (↑(ByteArray.size x0):Int))) (ByteArray.size x0),x1,y9.1,y9.2.1,y9.2.2)) fun r=>some r)) (
    none )) (
   none ))
noncomputable def Dp (N:Nat):Nat→I9→Option IW
 | 0,_=>none
 | k+1,x=>Vr N (Dp N k) x
noncomputable def Vm (N:Nat) (k:Nat):Cut:=Ud.cut (Dp N k)
theorem Q1 (N:Nat) (k:Nat):ak Tryz.prog false Tryz.f228 [0] 2 (Vm N k) :=
 Ud.loopT ag am (xW N) Tryz.f228 [0] (cuts:=[]) trivial (by decide +kernel) (by kernel_rfl) (Vr N) (Dp N) (fun _=>rfl) (fun _ _=>rfl) (fun f x=>by kernel_rfl) k
@[reducible] def w228:List SP:=[⟨[.tup []],[.var 221 (.agg [.sl 1,.int .i64,.int .i64]),.row (.int .u8) 5]⟩]
noncomputable def UJ (N:Nat):(ByteArray×Bool×Int×Int×(List Int))→Option (Int×Int×(List Int))
 | (x0,x1,x2,x3,x4) =>
 Option.bind (Dp N N (x0,x1,x2,x3,x4)) fun y0 =>
 some ((y0.1,y0.2.1,y0.2.2))
noncomputable def aw5 (N:Nat):Pk→Tr Pk:=ah s228 w228 (UJ N)
theorem Lv (N:Nat):av Tryz.prog (228) (aw5 N) :=
 (af ag am (xW N) Tryz.func228 s228 w228 [0] (cuts:=[(2,Vm N N)]) ⟨Q1 N N,trivial⟩ (fun _=>by kernel_rfl) (by decide +kernel) (UJ N) (fun x=>by kernel_rfl))
@[reducible] def s288:SP:=⟨[.adr 0 [],.adr 1 [],.adr 2 []],[.var 221 (.agg [.sl 3,.int .i64,.int .i64]),.var 9 (.str),.var 4 (.bool),.row (.int .u8) 5]⟩
noncomputable def ad9 (N:Nat):List (Nat×(Pk→Tr Pk)):=[(228,aw5 N)]
theorem OG (N:Nat):ai Tryz.prog (ad9 N):=⟨Lv N,trivial⟩
@[reducible] def w288:List SP:=[⟨[.tup []],[.var 221 (.agg [.sl 3,.int .i64,.int .i64]),.var 9 (.str),.var 4 (.bool),.row (.int .u8) 5]⟩]
noncomputable def YM (N:Nat):(Int×Int×ByteArray×Bool×(List Int))→Option (Int×Int×ByteArray×Bool×(List Int))
 | (x0,x1,x2,x3,x4) =>
 Option.bind (UJ N (x2,x3,x0,x1,x4)) fun y0 =>
 some ((y0.1,y0.2.1,x2,x3,y0.2.2))
noncomputable def aQ5 (N:Nat):Pk→Tr Pk:=ah s288 w288 (YM N)
theorem Xc (N:Nat):av Tryz.prog (288) (aQ5 N) :=
 (af ag am (OG N) Tryz.func288 s288 w288 [0,1,2] (cuts:=[]) trivial (fun _=>by kernel_rfl) (by decide +kernel) (YM N) (fun x=>by kernel_rfl))
@[reducible] def s252:SP:=⟨[.adr 0 [],.ro y4,.str,.bool],[.var 221 (.agg [.sl 1,.int .i64,.int .i64]),.row (.int .u8) 5]⟩
noncomputable def af2 (N:Nat):List (Nat×(Pk→Tr Pk)):=[(290,aQ3 N),(289,VU s289.I (aQ4 N) (Zq N)),(322,av6 N),(288,aQ5 N)]
theorem ON (N:Nat):ai Tryz.prog (af2 N):=⟨Xa N,mC (Xb N) (TI N),Lp N,Xc N,trivial⟩
@[reducible] def w252:List SP:=[⟨[.tup []],[.var 221 (.agg [.sl 1,.int .i64,.int .i64]),.row (.int .u8) 5]⟩]
noncomputable def xi (N:Nat):((List (Int×(Int×(Int×Unit))))×ByteArray×Bool×Int×Int×(List Int))→Option (Int×Int×(List Int))
 | (x0,x1,x2,x3,x4,x5) =>
 Option.bind (YL N (x0,false,x2)) fun y0 =>
 Option.bind (YL N (x0,true,x2)) fun y1 =>
 Option.bind (aA6 N (y0.1,y1.1,y0.2.1,y0.2.2.1,y0.2.2.2,y1.2.1,y1.2.2.1,y1.2.2.2)) fun y2 =>
 match y2 with
 | .inl (y3_0,y3_1,y3_2,y3_3,y3_4,y3_5,y3_6) =>
  Option.bind (ME N (IntKind.wrap IntKind.i64 (IntKind.wrap IntKind.i64 ((8:Int)*(↑(ByteArray.size x1):Int))+IntKind.wrap IntKind.i64 ((40:Int)*IntKind.wrap IntKind.i64 ((1:Int)+IntKind.wrap IntKind.i64 (Int.tdiv (↑(ByteArray.size x1):Int) (65535:Int))))),y3_0,x1,x2,y3_4,y3_5,y3_6)) fun y4 =>
  match y4 with
  | .inl (y5_0,y5_1,y5_2,y5_3,y5_4,y5_5) =>
   Option.bind (Uy N (x3,x4,y5_3,y5_4,y5_5,x5)) fun(y6_0,y6_1,y6_2,y6_3,y6_4,y6_5) =>
   some ((y6_0,y6_1,y6_5))
  | .inr (y5_0,y5_1,y5_2,y5_3,y5_4,y5_5) =>
   Option.bind (YM N (x3,x4,y5_1,y5_2,x5)) fun y7 =>
   some ((y7.1,y7.2.1,y7.2.2.2.2))
 | .inr (y3_0,y3_1,y3_2,y3_3,y3_4,y3_5,y3_6) =>
  Option.bind (ME N (IntKind.wrap IntKind.i64 (IntKind.wrap IntKind.i64 ((8:Int)*(↑(ByteArray.size x1):Int))+IntKind.wrap IntKind.i64 ((40:Int)*IntKind.wrap IntKind.i64 ((1:Int)+IntKind.wrap IntKind.i64 (Int.tdiv (↑(ByteArray.size x1):Int) (65535:Int))))),y3_0,x1,x2,y3_1,y3_2,y3_3)) fun y8 =>
  match y8 with
  | .inl (y9_0,y9_1,y9_2,y9_3,y9_4,y9_5) =>
   Option.bind (Uy N (x3,x4,y9_3,y9_4,y9_5,x5)) fun(y10_0,y10_1,y10_2,y10_3,y10_4,y10_5) =>
   some ((y10_0,y10_1,y10_5))
  | .inr (y9_0,y9_1,y9_2,y9_3,y9_4,y9_5) =>
   Option.bind (YM N (x3,x4,y9_1,y9_2,x5)) fun y11 =>
   some ((y11.1,y11.2.1,y11.2.2.2.2))
noncomputable def aR5 (N:Nat):Pk→Tr Pk:=ah s252 w252 (xi N)
theorem Xm (N:Nat):av Tryz.prog (252) (aR5 N) :=
 (af ag am (ON N) Tryz.func252 s252 w252 [0] (cuts:=[]) trivial (fun _=>by kernel_rfl) (by decide +kernel) (xi N) (fun x=>by kernel_rfl))
@[reducible] def s192:SP:=⟨[.adr 0 [],.str,.str,.bool],[.var 221 (.agg [.sl 1,.int .i64,.int .i64]),.row (.int .u8) 5]⟩
noncomputable def ai1 (N:Nat):List (Nat×(Pk→Tr Pk)):=[(251,aR6 N),(252,aR5 N)]
theorem gN (N:Nat):ai Tryz.prog (ai1 N):=⟨Xn N,Xm N,trivial⟩
@[reducible] def ij:LD:=⟨7322,[11,30,29,0,3,2,10,8,28],[(.exit 2,[8,10,2,11,3,0]),(.exit 1,[3,0,2,8])],⟨[.int .i64,.int .i64,.int .i64,.adr 0 [],.bool,.str,.int .i64,.sl 1,.slp 1 (.c 0) .h],[.var 221 (.agg [.sl 2,.int .i64,.int .i64]),.row y4 281,.row (.int .u8) 5]⟩,[(.exit 2,⟨[.sl 1,.int .i64,.str,.int .i64,.bool,.adr 0 []],[.var 221 (.agg [.sl 2,.int .i64,.int .i64]),.row y4 281,.row (.int .u8) 5]⟩)]⟩
abbrev qw:Type:=Int×Int×Int×Bool×ByteArray×Int×Nat×Int×Int×(List (Int×(Int×(Int×Unit))))×(List Int)
abbrev qe:Type:=Int×ByteArray×Int×Bool×Int×Int×(List (Int×(Int×(Int×Unit))))×(List Int)
noncomputable def Ag (N:Nat) (f:qw→Option qe):qw→Option qe
 | (x0,x1,x2,x3,x4,x5,x6,x7,x8,x9,x10) =>
 ac (decide (x1<x2)) (
  ac (within x1 x6) (
   Option.bind (x9[(0:Nat)+Int.toNat x1]?) fun y0 =>
   Option.bind (f (IntKind.wrap IntKind.i64 (x0+if (1:Int)>y0.2.1 then (1:Int) else y0.2.1),IntKind.wrap IntKind.i64 (x1+(1:Int)),x2,x3,x4,x5,x6,x7,x8,x9,x10)) fun r=>some r) (
   none )) (
  some ((x5,x4,x0,x3,x7,x8,x9,x10)))
noncomputable def im (N:Nat):Nat→qw→Option qe
 | 0,_=>none
 | k+1,x=>Ag N (im N k) x
noncomputable def iy (N:Nat) (k:Nat):Cut:=ij.cut (im N k)
theorem eY (N:Nat) (k:Nat):ak Tryz.prog false Tryz.f192 [0] 7322 (iy N k) :=
 ij.loopT ag am (gN N) Tryz.f192 [0] (cuts:=[]) trivial (by decide +kernel) (by kernel_rfl) (Ag N) (im N) (fun _=>rfl) (fun _ _=>rfl) (fun f x=>by kernel_rfl) k
@[reducible] def wl:LD:=⟨7322,[11,30,29,0,3,2,10,8,28],[(.exit 2,[8,10,2,11,3,0]),(.exit 1,[3,0,2,8])],⟨[.int .i64,.int .i64,.int .i64,.adr 0 [],.bool,.str,.int .i64,.slp 1 .h .h,.slp 1 .h .h],[.var 221 (.agg [.sl 2,.int .i64,.int .i64]),.row y4 281,.row (.int .u8) 5]⟩,[(.exit 2,⟨[.slp 1 .h .h,.int .i64,.str,.int .i64,.bool,.adr 0 []],[.var 221 (.agg [.sl 2,.int .i64,.int .i64]),.row y4 281,.row (.int .u8) 5]⟩)]⟩
abbrev mY:Type:=Int×Int×Int×Bool×ByteArray×Int×Nat×Nat×Nat×Nat×Int×Int×(List (Int×(Int×(Int×Unit))))×(List Int)
abbrev mQ:Type:=Nat×Nat×Int×ByteArray×Int×Bool×Int×Int×(List (Int×(Int×(Int×Unit))))×(List Int)
noncomputable def wR (N:Nat) (f:mY→Option mQ):mY→Option mQ
 | (x0,x1,x2,x3,x4,x5,x6,x7,x8,x9,x10,x11,x12,x13) =>
 ac (decide (x1<x2)) (
  ac (within x1 x9) (
   Option.bind (x12[x8+Int.toNat x1]?) fun y0 =>
   Option.bind (f (IntKind.wrap IntKind.i64 (x0+if (1:Int)>y0.2.1 then (1:Int) else y0.2.1),IntKind.wrap IntKind.i64 (x1+(1:Int)),x2,x3,x4,x5,x6,x7,x8,x9,x10,x11,x12,x13)) fun r=>some r) (
   none )) (
  some ((x6,x7,x5,x4,x0,x3,x10,x11,x12,x13)))
noncomputable def fJ (N:Nat):Nat→mY→Option mQ
 | 0,_=>none
 | k+1,x=>wR N (fJ N k) x
noncomputable def jp (N:Nat) (k:Nat):Cut:=wl.cut (fJ N k)
theorem gJ (N:Nat) (k:Nat):ak Tryz.prog false Tryz.f192 [0] 7322 (jp N k) :=
 wl.loopT ag am (gN N) Tryz.f192 [0] (cuts:=[(7322,iy N N)]) ⟨eY N N,trivial⟩ (by decide +kernel) (by kernel_rfl) (wR N) (fJ N) (fun _=>rfl) (fun _ _=>rfl) (fun f x=>by kernel_rfl) k
@[reducible] def fG:LD:=⟨14,[9,3,0,2,8],[(.exit 0,[])],⟨[.bool,.bool,.adr 0 [],.str,.slp 1 .h .h],[.var 221 (.agg [.sl 2,.int .i64,.int .i64]),.row y4 281,.row (.int .u8) 5]⟩,[(.exit 0,⟨[],[.var 221 (.agg [.sl 1,.int .i64,.int .i64]),.row (.int .u8) 5]⟩)]⟩
abbrev vU:Type:=Bool×Bool×ByteArray×Nat×Nat×Int×Int×(List (Int×(Int×(Int×Unit))))×(List Int)
abbrev vd:Type:=Int×Int×(List Int)
noncomputable def wS (N:Nat) (f:vU→Option vd):vU→Option vd
 | (x0,x1,x2,x3,x4,x5,x6,x7,x8) =>
 ac (x0) (
  ac (decide (((0:Int)≤if (8192:Int)<(↑x4:Int) then (8192:Int) else (↑x4:Int))∧(if (8192:Int)<(↑x4:Int) then (8192:Int) else (↑x4:Int))≤(↑x4:Int))) (
   Option.bind (fJ N N ((0:Int),(0:Int),(↑(Int.toNat (if (8192:Int)<(↑x4:Int) then (8192:Int) else (↑x4:Int))-(0:Nat)):Int),x1,x2,if (8192:Int)<(↑x4:Int) then (8192:Int) else (↑x4:Int),x3,x4,x3+(0:Nat),Int.toNat (if (8192:Int)<(↑x4:Int) then (8192:Int) else (↑x4:Int))-(0:Nat),x5,x6,x7,x8)) fun(y0_0,y0_1,y0_2,y0_3,y0_4,y0_5,y0_6,y0_7,y0_8,y0_9) =>
   ac (decide ((0:Int)≤y0_2∧y0_2≤(↑y0_1:Int))) (
    ac (decide ((0:Int)≤y0_4∧y0_4≤(↑(ByteArray.size y0_3):Int))) (
     ac (y0_5) (
      Option.bind (xi N (List.take (Int.toNat y0_2-(0:Nat)) (List.drop (y0_0+(0:Nat)) y0_8),ByteArray.extract y0_3 (0:Nat) (Int.toNat y0_4),y0_2==(↑y0_1:Int),y0_6,y0_7,y0_9)) fun y1 =>
      ac (decide ((0:Int)≤y0_2∧y0_2≤(↑y0_1:Int))) (
       ac (decide ((0:Int)≤y0_4∧y0_4≤(↑(ByteArray.size y0_3):Int))) (
        Option.bind (f (false,y0_5,ByteArray.extract y0_3 (Int.toNat y0_4) (ByteArray.size y0_3),y0_0+Int.toNat y0_2,y0_1-Int.toNat y0_2,y1.1,y1.2.1,y0_8,y1.2.2)) fun r=>some r) (
        none )) (
       none )) (
      Option.bind (xi N (List.take (Int.toNat y0_2-(0:Nat)) (List.drop (y0_0+(0:Nat)) y0_8),ByteArray.extract y0_3 (0:Nat) (Int.toNat y0_4),false,y0_6,y0_7,y0_9)) fun y2 =>
      ac (decide ((0:Int)≤y0_2∧y0_2≤(↑y0_1:Int))) (
       ac (decide ((0:Int)≤y0_4∧y0_4≤(↑(ByteArray.size y0_3):Int))) (
        Option.bind (f (false,y0_5,ByteArray.extract y0_3 (Int.toNat y0_4) (ByteArray.size y0_3),y0_0+Int.toNat y0_2,y0_1-Int.toNat y0_2,y2.1,y2.2.1,y0_8,y2.2.2)) fun r=>some r) (
        none )) (
       none ))) (
     none )) (
    none )) (
   none )) (
  ac (decide ((↑x4:Int)>(0:Int))) (
   ac (decide (((0:Int)≤if (8192:Int)<(↑x4:Int) then (8192:Int) else (↑x4:Int))∧(if (8192:Int)<(↑x4:Int) then (8192:Int) else (↑x4:Int))≤(↑x4:Int))) (
    Option.bind (fJ N N ((0:Int),(0:Int),(↑(Int.toNat (if (8192:Int)<(↑x4:Int) then (8192:Int) else (↑x4:Int))-(0:Nat)):Int),x1,x2,if (8192:Int)<(↑x4:Int) then (8192:Int) else (↑x4:Int),x3,x4,x3+(0:Nat),Int.toNat (if (8192:Int)<(↑x4:Int) then (8192:Int) else (↑x4:Int))-(0:Nat),x5,x6,x7,x8)) fun(y3_0,y3_1,y3_2,y3_3,y3_4,y3_5,y3_6,y3_7,y3_8,y3_9) =>
    ac (decide ((0:Int)≤y3_2∧y3_2≤(↑y3_1:Int))) (
     ac (decide ((0:Int)≤y3_4∧y3_4≤(↑(ByteArray.size y3_3):Int))) (
      ac (y3_5) (
       Option.bind (xi N (List.take (Int.toNat y3_2-(0:Nat)) (List.drop (y3_0+(0:Nat)) y3_8),ByteArray.extract y3_3 (0:Nat) (Int.toNat y3_4),y3_2==(↑y3_1:Int),y3_6,y3_7,y3_9)) fun y4 =>
       ac (decide ((0:Int)≤y3_2∧y3_2≤(↑y3_1:Int))) (
        ac (decide ((0:Int)≤y3_4∧y3_4≤(↑(ByteArray.size y3_3):Int))) (
         Option.bind (f (false,y3_5,ByteArray.extract y3_3 (Int.toNat y3_4) (ByteArray.size y3_3),y3_0+Int.toNat y3_2,y3_1-Int.toNat y3_2,y4.1,y4.2.1,y3_8,y4.2.2)) fun r=>some r) (
         none )) (
        none )) (
       Option.bind (xi N (List.take (Int.toNat y3_2-(0:Nat)) (List.drop (y3_0+(0:Nat)) y3_8),ByteArray.extract y3_3 (0:Nat) (Int.toNat y3_4),false,y3_6,y3_7,y3_9)) fun y5 =>
       ac (decide ((0:Int)≤y3_2∧y3_2≤(↑y3_1:Int))) (
        ac (decide ((0:Int)≤y3_4∧y3_4≤(↑(ByteArray.size y3_3):Int))) (
         Option.bind (f (false,y3_5,ByteArray.extract y3_3 (Int.toNat y3_4) (ByteArray.size y3_3),y3_0+Int.toNat y3_2,y3_1-Int.toNat y3_2,y5.1,y5.2.1,y3_8,y5.2.2)) fun r=>some r) (
         none )) (
        none ))) (
      none )) (
     none )) (
    none )) (
   some ((x5,x6,x8))))
noncomputable def kG (N:Nat):Nat→vU→Option vd
 | 0,_=>none
 | k+1,x=>wS N (kG N k) x
noncomputable def wN (N:Nat) (k:Nat):Cut:=fG.cut (kG N k)
theorem rF (N:Nat) (k:Nat):ak Tryz.prog false Tryz.f192 [0] 14 (wN N k) :=
 fG.loopT ag am (gN N) Tryz.f192 [0] (cuts:=[(7322,DG ij.s.I (iy N N) (jp N N))]) ⟨fun c' h=>cA (eY N N c' h) (gJ N N c' h) rfl rfl,trivial⟩ (by decide +kernel) (by kernel_rfl) (wS N) (kG N) (fun _=>rfl) (fun _ _=>rfl) (fun f x=>by kernel_rfl) k
@[reducible] def Mq:LD:=⟨14,fG.live,fG.out,⟨[.bool,.bool,.adr 0 [],.str,.sl 1],[.var 221 (.agg [.sl 2,.int .i64,.int .i64]),.row y4 281,.row (.int .u8) 5]⟩,fG.w⟩
noncomputable def NO (N:Nat) (f:(Bool×Bool×ByteArray×Nat×Nat×Int×Int×(List (Int×(Int×(Int×Unit))))×(List Int))→Option (Int×Int×(List Int))):(Bool×Bool×ByteArray×Int×Int×(List (Int×(Int×(Int×Unit))))×(List Int))→Option (Int×Int×(List Int))
 | (x0,x1,x2,x3,x4,x5,x6) =>
 ac (x0) (
  ac (decide (((0:Int)≤if (8192:Int)<(↑(List.length x5):Int) then (8192:Int) else (↑(List.length x5):Int))∧(if (8192:Int)<(↑(List.length x5):Int) then (8192:Int) else (↑(List.length x5):Int))≤(↑(List.length x5):Int))) (
   Option.bind (im N N ((0:Int),(0:Int),(↑(Int.toNat (if (8192:Int)<(↑(List.length x5):Int) then (8192:Int) else (↑(List.length x5):Int))-(0:Nat)):Int),x1,x2,if (8192:Int)<(↑(List.length x5):Int) then (8192:Int) else (↑(List.length x5):Int),Int.toNat (if (8192:Int)<(↑(List.length x5):Int) then (8192:Int) else (↑(List.length x5):Int))-(0:Nat),x3,x4,x5,x6)) fun(y0_0,y0_1,y0_2,y0_3,y0_4,y0_5,y0_6,y0_7) =>
   ac (decide ((0:Int)≤y0_0∧y0_0≤(↑(List.length y0_6):Int))) (
    ac (decide ((0:Int)≤y0_2∧y0_2≤(↑(ByteArray.size y0_1):Int))) (
     ac (y0_3) (
      Option.bind (xi N (List.take (Int.toNat y0_0-(0:Nat)) y0_6,ByteArray.extract y0_1 (0:Nat) (Int.toNat y0_2),y0_0==(↑(List.length y0_6):Int),y0_4,y0_5,y0_7)) fun y1 =>
      ac (decide ((0:Int)≤y0_0∧y0_0≤(↑(List.length y0_6):Int))) (
       ac (decide ((0:Int)≤y0_2∧y0_2≤(↑(ByteArray.size y0_1):Int))) (
        Option.bind (f (false,y0_3,ByteArray.extract y0_1 (Int.toNat y0_2) (ByteArray.size y0_1),Int.toNat y0_0,List.length y0_6-Int.toNat y0_0,y1.1,y1.2.1,y0_6,y1.2.2)) fun r=>some r) (
        none )) (
       none )) (
      Option.bind (xi N (List.take (Int.toNat y0_0-(0:Nat)) y0_6,ByteArray.extract y0_1 (0:Nat) (Int.toNat y0_2),false,y0_4,y0_5,y0_7)) fun y2 =>
      ac (decide ((0:Int)≤y0_0∧y0_0≤(↑(List.length y0_6):Int))) (
       ac (decide ((0:Int)≤y0_2∧y0_2≤(↑(ByteArray.size y0_1):Int))) (
        Option.bind (f (false,y0_3,ByteArray.extract y0_1 (Int.toNat y0_2) (ByteArray.size y0_1),Int.toNat y0_0,List.length y0_6-Int.toNat y0_0,y2.1,y2.2.1,y0_6,y2.2.2)) fun r=>some r) (
        none )) (
       none ))) (
     none )) (
    none )) (
   none )) (
  ac (decide ((↑(List.length x5):Int)>(0:Int))) (
   ac (decide (((0:Int)≤if (8192:Int)<(↑(List.length x5):Int) then (8192:Int) else (↑(List.length x5):Int))∧(if (8192:Int)<(↑(List.length x5):Int) then (8192:Int) else (↑(List.length x5):Int))≤(↑(List.length x5):Int))) (
    Option.bind (im N N ((0:Int),(0:Int),(↑(Int.toNat (if (8192:Int)<(↑(List.length x5):Int) then (8192:Int) else (↑(List.length x5):Int))-(0:Nat)):Int),x1,x2,if (8192:Int)<(↑(List.length x5):Int) then (8192:Int) else (↑(List.length x5):Int),Int.toNat (if (8192:Int)<(↑(List.length x5):Int) then (8192:Int) else (↑(List.length x5):Int))-(0:Nat),x3,x4,x5,x6)) fun(y3_0,y3_1,y3_2,y3_3,y3_4,y3_5,y3_6,y3_7) =>
    ac (decide ((0:Int)≤y3_0∧y3_0≤(↑(List.length y3_6):Int))) (
     ac (decide ((0:Int)≤y3_2∧y3_2≤(↑(ByteArray.size y3_1):Int))) (
      ac (y3_3) (
       Option.bind (xi N (List.take (Int.toNat y3_0-(0:Nat)) y3_6,ByteArray.extract y3_1 (0:Nat) (Int.toNat y3_2),y3_0==(↑(List.length y3_6):Int),y3_4,y3_5,y3_7)) fun y4 =>
       ac (decide ((0:Int)≤y3_0∧y3_0≤(↑(List.length y3_6):Int))) (
        ac (decide ((0:Int)≤y3_2∧y3_2≤(↑(ByteArray.size y3_1):Int))) (
         Option.bind (f (false,y3_3,ByteArray.extract y3_1 (Int.toNat y3_2) (ByteArray.size y3_1),Int.toNat y3_0,List.length y3_6-Int.toNat y3_0,y4.1,y4.2.1,y3_6,y4.2.2)) fun r=>some r) (
         none )) (
        none )) (
       Option.bind (xi N (List.take (Int.toNat y3_0-(0:Nat)) y3_6,ByteArray.extract y3_1 (0:Nat) (Int.toNat y3_2),false,y3_4,y3_5,y3_7)) fun y5 =>
       ac (decide ((0:Int)≤y3_0∧y3_0≤(↑(List.length y3_6):Int))) (
        ac (decide ((0:Int)≤y3_2∧y3_2≤(↑(ByteArray.size y3_1):Int))) (
         Option.bind (f (false,y3_3,ByteArray.extract y3_1 (Int.toNat y3_2) (ByteArray.size y3_1),Int.toNat y3_0,List.length y3_6-Int.toNat y3_0,y5.1,y5.2.1,y3_6,y5.2.2)) fun r=>some r) (
         none )) (
        none ))) (
      none )) (
     none )) (
    none )) (
   some ((x3,x4,x6))))
noncomputable def MG (N:Nat) (k:Nat):(Bool×Bool×ByteArray×Int×Int×(List (Int×(Int×(Int×Unit))))×(List Int))→Option (Int×Int×(List Int)):=NO N (kG N k)
noncomputable def Ng (N:Nat) (k:Nat):Cut:=Mq.cut (MG N k)
theorem J8 (N:Nat) (k:Nat):ak Tryz.prog false Tryz.f192 [0] 14 (Ng N k) :=
 Mq.loop2T ag am (gN N) fG.s Tryz.f192 [0] (cuts:=[(7322,DG ij.s.I (iy N N) (jp N N)),(14,wN N N)]) ⟨fun c' h=>cA (eY N N c' h) (gJ N N c' h) rfl rfl,rF N N,trivial⟩ (by decide +kernel) (by kernel_rfl) (NO N) (wS N) (kG N) (fun _=>rfl) (fun _ _=>rfl) (fun f g x=>by kernel_rfl) (fun f g x=>by kernel_rfl) k
@[reducible] def w192:List SP:=[⟨[.tup []],[.var 221 (.agg [.sl 1,.int .i64,.int .i64]),.row (.int .u8) 5]⟩]
noncomputable def aB3 (N:Nat):(ByteArray×ByteArray×Bool×Int×Int×(List Int))→Option (Int×Int×(List Int))
 | (x0,x1,x2,x3,x4,x5) =>
 Option.bind (aA9 N (x0,x1)) fun y0 =>
 Option.bind (MG N N (true,x2,x1,x3,x4,y0,x5)) fun y1 =>
 some ((y1.1,y1.2.1,y1.2.2))
noncomputable def aT3 (N:Nat):Pk→Tr Pk:=ah s192 w192 (aB3 N)
theorem XH (N:Nat):av Tryz.prog (192) (aT3 N) :=
 (af ag am (gN N) Tryz.func192 s192 w192 [0] (cuts:=[(7322,DG ij.s.I (iy N N) (jp N N)),(14,DG fG.s.I (wN N N) (Ng N N))]) ⟨fun c' h=>cA (eY N N c' h) (gJ N N c' h) rfl rfl,fun c' h=>cA (rF N N c' h) (J8 N N c' h) rfl rfl,trivial⟩ (fun _=>by kernel_rfl) (by decide +kernel) (aB3 N) (fun x=>by kernel_rfl))
@[reducible] def s162:SP:=⟨[.str,.str],[]⟩
noncomputable def ai7 (N:Nat):List (Nat×(Pk→Tr Pk)):=[(192,aT3 N),(228,aw5 N),(193,aw9 N)]
theorem O9 (N:Nat):ai Tryz.prog (ai7 N):=⟨XH N,Lv N,Lz N,trivial⟩
@[reducible] def w162:List SP:=[⟨[.str],[]⟩]
noncomputable def aB5 (N:Nat):(ByteArray×ByteArray)→Option (ByteArray)
 | (x0,x1) =>
 ac (!ByteArray.toList x1==[]) (
  Option.bind (aB3 N (x0,x1,false,(0:Int),(0:Int),[])) fun y0 =>
  Option.bind (UJ N (ByteArray.mk #[],false,y0.1,y0.2.1,y0.2.2)) fun y1 =>
  Option.bind (Jp N (y1.2.2,y1.1,y1.2.1,())) fun y2 =>
  some (y2)) (
  Option.bind (UJ N (ByteArray.mk #[],false,(0:Int),(0:Int),[])) fun y3 =>
  Option.bind (Jp N (y3.2.2,y3.1,y3.2.1,())) fun y4 =>
  some (y4))
noncomputable def aT8 (N:Nat):Pk→Tr Pk:=ah s162 w162 (aB5 N)
theorem XM (N:Nat):av Tryz.prog (162) (aT8 N) :=
 (af ag am (O9 N) Tryz.func162 s162 w162 [] (cuts:=[]) trivial (fun _=>by kernel_rfl) (by decide +kernel) (aB5 N) (fun x=>by kernel_rfl))
@[reducible] def s163:SP:=⟨[.adr 0 [.f 0 0],.str],[.var 64 (.agg [.agg [.bool,.str]])]⟩
noncomputable def ai6 (N:Nat):List (Nat×(Pk→Tr Pk)):=[(229,Qn N)]
theorem O8 (N:Nat):ai Tryz.prog (ai6 N):=⟨oe N,trivial⟩
@[reducible] def w163:List SP:=[⟨[.tup []],[.var 64 (.agg [.agg [.bool,.str]])]⟩]
noncomputable def YW (N:Nat):(ByteArray×Bool×ByteArray)→Option (Bool×ByteArray)
 | (x0,x1,x2) =>
 ac (decide ((↑(ByteArray.size x2+ByteArray.size x0):Int)>(9223372036854775807:Int))) (
  none ) (
  Option.bind (Jj N (x2++x0)) fun y0 =>
  some ((true,y0)))
noncomputable def aT7 (N:Nat):Pk→Tr Pk:=ah s163 w163 (YW N)
theorem XL (N:Nat):av Tryz.prog (163) (aT7 N) :=
 (af ag am (O8 N) Tryz.func163 s163 w163 [0] (cuts:=[]) trivial (fun _=>by kernel_rfl) (by decide +kernel) (YW N) (fun x=>by kernel_rfl))
@[reducible] def s99:SP:=⟨[.adr 0 [],.str],[.var 64 (.agg [.agg [.bool,.str]])]⟩
noncomputable def aD9 (N:Nat):List (Nat×(Pk→Tr Pk)):=[(162,aT8 N),(163,aT7 N)]
theorem Rv (N:Nat):ai Tryz.prog (aD9 N):=⟨XM N,XL N,trivial⟩
@[reducible] def w99:List SP:=[⟨[.str],[.var 64 (.agg [.agg [.bool,.str]])]⟩]
noncomputable def F99 (N:Nat):(ByteArray×Bool×ByteArray)→Option (ByteArray×Bool×ByteArray)
 | (x0,x1,x2) =>
 Option.bind (aB5 N (x2,x0)) fun y0 =>
 ac (!x1) (
  ac (decide ((↑((2:Nat)+ByteArray.size y0):Int)>(9223372036854775807:Int))) (
   none ) (
   Option.bind (YW N (x0,x1,x2)) fun y1 =>
   some ((ByteArray.mk #[(120:UInt8),(156:UInt8)]++y0,y1.1,y1.2)))) (
  Option.bind (YW N (x0,x1,x2)) fun y2 =>
  some ((y0,y2.1,y2.2)))
noncomputable def T99 (N:Nat):Pk→Tr Pk:=ah s99 w99 (F99 N)
theorem ar4 (N:Nat):av Tryz.prog (99) (T99 N) :=
 (af ag am (Rv N) Tryz.func99 s99 w99 [0] (cuts:=[]) trivial (fun _=>by kernel_rfl) (by decide +kernel) (F99 N) (fun x=>by kernel_rfl))
@[reducible] def s164:SP:=⟨[.int .i64,.int .i64],[]⟩
noncomputable def ai5 (N:Nat):List (Nat×(Pk→Tr Pk)):=[(230,aw4 N)]
theorem ye (N:Nat):ai Tryz.prog (ai5 N):=⟨Lu N,trivial⟩
@[reducible] def FH:LD:=⟨122,[25,24,6,1],[(.ret,[4,5]),(.exit 0,[6])],⟨[.int .i64,.int .i64,.sl 0,.int .i64],[.row (.int .u8) 5]⟩,[(.exit 0,⟨[.sl 0],[.row (.int .u8) 5]⟩)]⟩
abbrev vX:Type:=Int×Int×Int×(List Int)
abbrev vg:Type:=(List Int)
noncomputable def HE (N:Nat) (f:vX→Option vg):vX→Option vg
 | (x0,x1,x2,x3) =>
 ac (decide (x0<x1)) (
  ac (decide (IntKind.wrap IntKind.i64 ((8:Int)*x0)<(0:Int))) (
   none ) (
   ac (within x0 (List.length x3)) (
    Option.bind (x3[Int.toNat x0]?) fun y0 =>
    Option.bind (f (IntKind.wrap IntKind.i64 (x0+(1:Int)),x1,x2,List.set x3 (Int.toNat x0) (IntKind.wrap IntKind.u8 (Int.fdiv x2 ((2:Int)^min (Int.toNat (IntKind.wrap IntKind.i64 ((8:Int)*x0))) (64:Nat)))))) fun r=>some r) (
    none ))) (
  some (x3))
noncomputable def oN (N:Nat):Nat→vX→Option vg
 | 0,_=>none
 | k+1,x=>HE N (oN N k) x
noncomputable def G8 (N:Nat) (k:Nat):Cut:=FH.cut (oN N k)
theorem G7 (N:Nat) (k:Nat):ak Tryz.prog false Tryz.f164 [] 122 (G8 N k) :=
 FH.loopT ag am (ye N) Tryz.f164 [] (cuts:=[]) trivial (by decide +kernel) (by kernel_rfl) (HE N) (oN N) (fun _=>rfl) (fun _ _=>rfl) (fun f x=>by kernel_rfl) k
@[reducible] def w164:List SP:=[⟨[.tup [.str,.int .i64]],[]⟩]
noncomputable def aB4 (N:Nat):(Int×Int)→Option (ByteArray×Int)
 | (x0,x1) =>
 Option.bind (UI N x0) fun y0 =>
 ac (!y0) (
  some ((ByteArray.mk #[],(1:Int)))) (
  ac (decide (x1<(0:Int))) (
   some ((ByteArray.mk #[],(1:Int)))) (
   ac (decide (IntKind.wrap IntKind.i64 ((8:Int)*x0)<(0:Int))) (
    none ) (
    ac (Int.fdiv x1 ((2:Int)^min (Int.toNat (IntKind.wrap IntKind.i64 ((8:Int)*x0))) (64:Nat)) != (0:Int)) (
     some ((ByteArray.mk #[],(1:Int)))) (
     ac (decide ((0:Int)≤x0∧x0≤x0∧x0*(1:Int)≤(140737488355328:Int)∧x0≤(140737488355328:Int))) (
      Option.bind (oN N N ((0:Int),x0,x1,List.replicate (Int.toNat x0) (0:Int))) fun y1 =>
      some ((aE y1,(0:Int)))) (
      none )))))
noncomputable def aT6 (N:Nat):Pk→Tr Pk:=ah s164 w164 (aB4 N)
theorem XK (N:Nat):av Tryz.prog (164) (aT6 N) :=
 (af ag am (ye N) Tryz.func164 s164 w164 [] (cuts:=[(122,G8 N N)]) ⟨G7 N N,trivial⟩ (fun _=>by kernel_rfl) (by decide +kernel) (aB4 N) (fun x=>by kernel_rfl))
@[reducible] def s100:SP:=⟨[.int .i64,.int .i64],[]⟩
noncomputable def am0 (N:Nat):List (Nat×(Pk→Tr Pk)):=[(164,aT6 N),(165,ax0 N)]
theorem Py (N:Nat):ai Tryz.prog (am0 N):=⟨XK N,LA N,trivial⟩
@[reducible] def w100:List SP:=[⟨[.tup [.str,.int .i64]],[]⟩]
noncomputable def aB9 (N:Nat):(Int×Int)→Option (ByteArray×Int)
 | (x0,x1) =>
 Option.bind (aB4 N (x0,x1)) fun y0 =>
 Option.bind (xl N y0.1) fun y1 =>
 some ((y1,y0.2))
noncomputable def aW0 (N:Nat):Pk→Tr Pk:=ah s100 w100 (aB9 N)
theorem Yf (N:Nat):av Tryz.prog (100) (aW0 N) :=
 (af ag am (Py N) Tryz.func100 s100 w100 [] (cuts:=[]) trivial (fun _=>by kernel_rfl) (by decide +kernel) (aB9 N) (fun x=>by kernel_rfl))
@[reducible] def s40:SP:=⟨[.adr 0 [],.agg [.int .i64,.int .i64,.bool,.bool,.int .i64,.int .i64,.int .i64,.int .i64,.int .i64,.int .i64],.int .i64,.int .i64,.ro (.int .i64)],[.var 64 (.agg [.agg [.bool,.str]])]⟩
noncomputable def aG4 (N:Nat):List (Nat×(Pk→Tr Pk)):=[(34,T34 N),(99,T99 N),(100,aW0 N)]
theorem RN (N:Nat):ai Tryz.prog (aG4 N):=⟨TD N,ar4 N,Yf N,trivial⟩
@[reducible] def w40:List SP:=[⟨[.tup [.str,.int .i64]],[.var 64 (.agg [.agg [.bool,.str]])]⟩]
noncomputable def F40 (N:Nat):(Int×Int×Bool×Bool×Int×Int×Int×Int×Int×Int×Int×Int×(List Int)×Bool×ByteArray)→Option (ByteArray×Int×Bool×ByteArray)
 | (x0,x1,x2,x3,x4,x5,x6,x7,x8,x9,x10,x11,x12,x13,x14) =>
 Option.bind (Ux N (x0,x1,x2,x3,x4,x5,x6,x7,x8,x9,x10,x11,x12)) fun y0 =>
 ac (y0.2 != (0:Int)) (
  some ((ByteArray.mk #[],y0.2,x13,x14))) (
  Option.bind (F99 N (y0.1,x13,x14)) fun y1 =>
  Option.bind (aB9 N ((4:Int),(↑(ByteArray.size y1.1):Int))) fun y2 =>
  ac (decide ((↑(ByteArray.size y2.1+ByteArray.size y1.1):Int)>(9223372036854775807:Int))) (
   none ) (
   some ((y2.1++y1.1,(0:Int),y1.2.1,y1.2.2))))
noncomputable def T40 (N:Nat):Pk→Tr Pk:=ah s40 w40 (F40 N)
theorem at0 (N:Nat):av Tryz.prog (40) (T40 N) :=
 (af ag am (RN N) Tryz.func40 s40 w40 [0] (cuts:=[]) trivial (fun _=>by kernel_rfl) (by decide +kernel) (F40 N) (fun x=>by kernel_rfl))
@[reducible] def s32:SP:=⟨[.agg [.int .i64,.int .i64,.bool,.bool,.int .i64,.int .i64,.int .i64,.int .i64,.int .i64,.int .i64],.int .i64,.int .i64],[]⟩
noncomputable def aH1 (N:Nat):List (Nat×(Pk→Tr Pk)):=[(35,T35 N),(37,T37 N),(82,T82 N)]
theorem RQ (N:Nat):ai Tryz.prog (aH1 N):=⟨uB N,uz N,IG N,trivial⟩
@[reducible] def w32:List SP:=[⟨[.int .i64],[]⟩]
noncomputable def F32 (N:Nat):(Int×Int×Bool×Bool×Int×Int×Int×Int×Int×Int×Int×Int)→Option (Int)
 | (x0,x1,x2,x3,x4,x5,x6,x7,x8,x9,x10,x11) =>
 Option.bind (YB N (x0,x1,x2,x3,x4,x5,x6,x7,x8,x9,x10,x11)) fun y0 =>
 ac (!y0) (
  some ((0:Int))) (
  Option.bind (DK N (x0,x1,x2,x3,x4,x5,x6,x7,x8,x9)) fun y1 =>
  Option.bind (F82 N (x10,x11,(64:Int))) fun y2 =>
  some (IntKind.wrap IntKind.i64 (IntKind.wrap IntKind.i64 ((512:Int)*(↑(List.length y2):Int))+IntKind.wrap IntKind.i64 (IntKind.wrap IntKind.i64 (x10*x11)*IntKind.wrap IntKind.i64 (y1.1+(2:Int))))))
noncomputable def T32 (N:Nat):Pk→Tr Pk:=ah s32 w32 (F32 N)
theorem TF (N:Nat):av Tryz.prog (32) (T32 N) :=
 (af ag am (RQ N) Tryz.func32 s32 w32 [] (cuts:=[]) trivial (fun _=>by kernel_rfl) (by decide +kernel) (F32 N) (fun x=>by kernel_rfl))
@[reducible] def s246:SP:=⟨[.str],[]⟩
noncomputable def af4 (N:Nat):List (Nat×(Pk→Tr Pk)):=[(81,T81 N),(105,Qp N),(84,T84 N)]
theorem OO (N:Nat):ai Tryz.prog (af4 N):=⟨II N,oh N,pR N,trivial⟩
@[reducible] def w246:List SP:=[⟨[.int .i64],[]⟩]
noncomputable def aB0 (N:Nat):(ByteArray)→Option (Int)
 | x0 =>
 Option.bind (F81 N x0) fun y0 =>
 Option.bind (wE N ((1:Int),y0.1,y0.2.1,y0.2.2)) fun y1 =>
 Option.bind (wE N ((1:Int),y1.2.1,y1.2.2.1,y1.2.2.2)) fun y2 =>
 Option.bind (Vv N (y2.2.1,y2.2.2.1,y2.2.2.2,())) fun y3 =>
 ac (y3 != (0:Int)) (
  Option.bind (Vv N (y2.2.1,y2.2.2.1,y2.2.2.2,())) fun y4 =>
  some (y4)) (
  ac (IntKind.wrap IntKind.i64 (↑(BitVec.toNat (BitVec.ofInt (64:Nat) y1.1 &&& BitVec.ofInt (64:Nat) (15:Int))):Int) != (8:Int)) (
   some ((100:Int))) (
   ac (decide (Int.fdiv y1.1 (16:Int)>(7:Int))) (
    some ((100:Int))) (
    ac (IntKind.wrap IntKind.i64 (↑(BitVec.toNat (BitVec.ofInt (64:Nat) y2.1 &&& BitVec.ofInt (64:Nat) (32:Int))):Int) != (0:Int)) (
     some ((100:Int))) (
     ac (Int.tmod (IntKind.wrap IntKind.i64 (↑(BitVec.toNat (BitVec.ofInt (64:Nat) (IntKind.wrap IntKind.i64 (y1.1*(256:Int))) ||| BitVec.ofInt (64:Nat) y2.1)):Int)) (31:Int) != (0:Int)) (
      some ((100:Int))) (
      some ((0:Int)))))))
noncomputable def aR7 (N:Nat):Pk→Tr Pk:=ah s246 w246 (aB0 N)
theorem Xo (N:Nat):av Tryz.prog (246) (aR7 N) :=
 (af ag am (OO N) Tryz.func246 s246 w246 [] (cuts:=[]) trivial (fun _=>by kernel_rfl) (by decide +kernel) (aB0 N) (fun x=>by kernel_rfl))
@[reducible] def s283:SP:=⟨[.str],[]⟩
noncomputable def ae2 (N:Nat):List (Nat×(Pk→Tr Pk)):=[]
theorem OI (N:Nat):ai Tryz.prog (ae2 N):=trivial
@[reducible] def w283:List SP:=[⟨[.adr 0 []],[.var 345 (.agg [.str,.int .i64,.int .i64])]⟩]
noncomputable def aA8 (N:Nat):(ByteArray)→Option (ByteArray×Int×Int)
 | x0 =>
 some ((x0,(0:Int),(0:Int)))
noncomputable def aQ8 (N:Nat):Pk→Tr Pk:=ah s283 w283 (aA8 N)
theorem Xf (N:Nat):av Tryz.prog (283) (aQ8 N) :=
 (af ag am (OI N) Tryz.func283 s283 w283 [] (cuts:=[]) trivial (fun _=>by kernel_rfl) (by decide +kernel) (aA8 N) (fun x=>by kernel_rfl))
@[reducible] def s305:SP:=⟨[.radr y2 [.i 0 3]],[]⟩
noncomputable def ad6 (N:Nat):List (Nat×(Pk→Tr Pk)):=[]
theorem OD (N:Nat):ai Tryz.prog (ad6 N):=trivial
@[reducible] def w305:List SP:=[⟨[.int .i64],[]⟩]
noncomputable def QA (N:Nat):((ByteArray×(Int×(Int×Unit))))→Option (Int)
 | x0 =>
 some (IntKind.wrap IntKind.i64 (IntKind.wrap IntKind.i64 ((8:Int)*(↑(ByteArray.size x0.1):Int))-x0.2.1))
noncomputable def W9 (N:Nat):Pk→Tr Pk:=ah s305 w305 (QA N)
theorem Bs (N:Nat):av Tryz.prog (305) (W9 N) :=
 (af ag am (OD N) Tryz.func305 s305 w305 [] (cuts:=[]) trivial (fun _=>by kernel_rfl) (by decide +kernel) (QA N) (fun x=>by kernel_rfl))
@[reducible] def s344:SP:=⟨[.adr 0 [],.int .i64],[.var 345 (.agg [.str,.int .i64,.int .i64])]⟩
noncomputable def ab4 (N:Nat):List (Nat×(Pk→Tr Pk)):=[(305,W9 N)]
theorem Om (N:Nat):ai Tryz.prog (ab4 N):=⟨Bs N,trivial⟩
@[reducible] def w344:List SP:=[⟨[.bool],[.var 345 (.agg [.str,.int .i64,.int .i64])]⟩]
noncomputable def Qw (N:Nat):(Int×ByteArray×Int×Int)→Option (Bool×ByteArray×Int×Int)
 | (x0,x1,x2,x3) =>
 ac (x3==(0:Int)) (
  Option.bind (QA N (x1,x2,x3,())) fun y0 =>
  ac (decide (x0>y0)) (
   some ((false,x1,x2,(2:Int)))) (
   some ((x3==(0:Int),x1,x2,x3)))) (
  some ((x3==(0:Int),x1,x2,x3)))
noncomputable def av3 (N:Nat):Pk→Tr Pk:=ah s344 w344 (Qw N)
theorem Lm (N:Nat):av Tryz.prog (344) (av3 N) :=
 (af ag am (Om N) Tryz.func344 s344 w344 [0] (cuts:=[]) trivial (fun _=>by kernel_rfl) (by decide +kernel) (Qw N) (fun x=>by kernel_rfl))
@[reducible] def s329:SP:=⟨[.adr 0 [],.int .i64],[.var 345 (.agg [.str,.int .i64,.int .i64])]⟩
noncomputable def ac6 (N:Nat):List (Nat×(Pk→Tr Pk)):=[(310,W6 N),(344,av3 N)]
theorem xL (N:Nat):ai Tryz.prog (ac6 N):=⟨Br N,Lm N,trivial⟩
@[reducible] def Fw:LD:=⟨250,[5,15,14,1,0],[(.ret,[4]),(.exit 0,[0,1,5])],⟨[.int .i64,.int .i64,.int .i64,.int .i64,.adr 0 []],[.var 345 (.agg [.str,.int .i64,.int .i64])]⟩,[(.exit 0,⟨[.adr 0 [],.int .i64,.int .i64],[.var 345 (.agg [.str,.int .i64,.int .i64])]⟩)]⟩
abbrev vM:Type:=Int×Int×Int×Int×ByteArray×Int×Int
abbrev uX:Type:=Int×Int×ByteArray×Int×Int
noncomputable def Hz (N:Nat) (f:vM→Option uX):vM→Option uX
 | (x0,x1,x2,x3,x4,x5,x6) =>
 ac (decide (x1<x2)) (
  ac (decide ((0:Int)≤IntKind.wrap IntKind.i64 (Int.tdiv (IntKind.wrap IntKind.i64 (x5+x1)) (8:Int)))) (
   Option.bind (x4[Int.toNat (IntKind.wrap IntKind.i64 (Int.tdiv (IntKind.wrap IntKind.i64 (x5+x1)) (8:Int)))]?) fun y0 =>
   ac (decide (Int.tmod (IntKind.wrap IntKind.i64 (x5+x1)) (8:Int)<(0:Int))) (
    none ) (
    ac (decide (x1<(0:Int))) (
     none ) (
     Option.bind (f (IntKind.wrap IntKind.i64 (↑(BitVec.toNat (BitVec.ofInt (64:Nat) x0 ||| BitVec.ofInt (64:Nat) (IntKind.wrap IntKind.i64 (IntKind.wrap IntKind.i64 (↑(BitVec.toNat (BitVec.ofInt (64:Nat) (Int.fdiv (IntKind.wrap IntKind.i64 (↑(UInt8.toNat y0):Int)) ((2:Int)^min (Int.toNat (Int.tmod (IntKind.wrap IntKind.i64 (x5+x1)) (8:Int))) (64:Nat))) &&& BitVec.ofInt (64:Nat) (1:Int))):Int)*(2:Int)^min (Int.toNat x1) (64:Nat))))):Int),IntKind.wrap IntKind.i64 (x1+(1:Int)),x2,x3,x4,x5,x6)) fun r=>some r))) (
   none )) (
  some ((x3,x0,x4,x5,x6)))
noncomputable def oH (N:Nat):Nat→vM→Option uX
 | 0,_=>none
 | k+1,x=>Hz N (oH N k) x
noncomputable def GQ (N:Nat) (k:Nat):Cut:=Fw.cut (oH N k)
theorem GP (N:Nat) (k:Nat):ak Tryz.prog false Tryz.f329 [0] 250 (GQ N k) :=
 Fw.loopT ag am (xL N) Tryz.f329 [0] (cuts:=[]) trivial (by decide +kernel) (by kernel_rfl) (Hz N) (oH N) (fun _=>rfl) (fun _ _=>rfl) (fun f x=>by kernel_rfl) k
@[reducible] def w329:List SP:=[⟨[.int .i64],[.var 345 (.agg [.str,.int .i64,.int .i64])]⟩]
noncomputable def kE (N:Nat):(Int×ByteArray×Int×Int)→Option (Int×ByteArray×Int×Int)
 | (x0,x1,x2,x3) =>
 Option.bind (Jh N x0) fun y0 =>
 Option.bind (Qw N (y0,x1,x2,x3)) fun y1 =>
 ac (!y1.1) (
  some (((0:Int),y1.2.1,y1.2.2.1,y1.2.2.2))) (
  Option.bind (oH N N ((0:Int),(0:Int),y0,y0,y1.2.1,y1.2.2.1,y1.2.2.2)) fun y2 =>
  some ((y2.2.1,y2.2.2.1,IntKind.wrap IntKind.i64 (y2.2.2.2.1+y2.1),y2.2.2.2.2)))
noncomputable def xh (N:Nat):Pk→Tr Pk:=ah s329 w329 (kE N)
theorem eI (N:Nat):av Tryz.prog (329) (xh N) :=
 (af ag am (xL N) Tryz.func329 s329 w329 [0] (cuts:=[(250,GQ N N)]) ⟨GP N N,trivial⟩ (fun _=>by kernel_rfl) (by decide +kernel) (kE N) (fun x=>by kernel_rfl))
@[reducible] def s330:SP:=⟨[.radr y2 [.i 0 3]],[]⟩
noncomputable def ac5 (N:Nat):List (Nat×(Pk→Tr Pk)):=[]
theorem Ow (N:Nat):ai Tryz.prog (ac5 N):=trivial
@[reducible] def w330:List SP:=[⟨[.int .i64],[]⟩]
noncomputable def oG (N:Nat):((ByteArray×(Int×(Int×Unit))))→Option (Int)
 | x0 =>
 some x0.2.2.1
noncomputable def Bq (N:Nat):Pk→Tr Pk:=ah s330 w330 (oG N)
theorem gi (N:Nat):av Tryz.prog (330) (Bq N) :=
 (af ag am (Ow N) Tryz.func330 s330 w330 [] (cuts:=[]) trivial (fun _=>by kernel_rfl) (by decide +kernel) (oG N) (fun x=>by kernel_rfl))
@[reducible] def s364:SP:=⟨[.radr y2 [.i 0 3]],[]⟩
noncomputable def Z6 (N:Nat):List (Nat×(Pk→Tr Pk)):=[]
theorem Od (N:Nat):ai Tryz.prog (Z6 N):=trivial
@[reducible] def w364:List SP:=[⟨[.int .i64],[]⟩]
noncomputable def Us (N:Nat):((ByteArray×(Int×(Int×Unit))))→Option (Int)
 | x0 =>
 some (Int.tmod (IntKind.wrap IntKind.i64 ((8:Int)-Int.tmod x0.2.1 (8:Int))) (8:Int))
noncomputable def au6 (N:Nat):Pk→Tr Pk:=ah s364 w364 (Us N)
theorem Le (N:Nat):av Tryz.prog (364) (au6 N) :=
 (af ag am (Od N) Tryz.func364 s364 w364 [] (cuts:=[]) trivial (fun _=>by kernel_rfl) (by decide +kernel) (Us N) (fun x=>by kernel_rfl))
@[reducible] def s345:SP:=⟨[.adr 0 []],[.var 345 (.agg [.str,.int .i64,.int .i64])]⟩
noncomputable def ab3 (N:Nat):List (Nat×(Pk→Tr Pk)):=[(364,au6 N),(329,xh N)]
theorem Ol (N:Nat):ai Tryz.prog (ab3 N):=⟨Le N,eI N,trivial⟩
@[reducible] def w345:List SP:=[⟨[.int .i64],[.var 345 (.agg [.str,.int .i64,.int .i64])]⟩]
noncomputable def az5 (N:Nat):(ByteArray×Int×Int)→Option (Int×ByteArray×Int×Int)
 | (x0,x1,x2) =>
 Option.bind (Us N (x0,x1,x2,())) fun y0 =>
 Option.bind (kE N (y0,x0,x1,x2)) fun y1 =>
 some ((y1.1,y1.2.1,y1.2.2.1,y1.2.2.2))
noncomputable def aO9 (N:Nat):Pk→Tr Pk:=ah s345 w345 (az5 N)
theorem WU (N:Nat):av Tryz.prog (345) (aO9 N) :=
 (af ag am (Ol N) Tryz.func345 s345 w345 [0] (cuts:=[]) trivial (fun _=>by kernel_rfl) (by decide +kernel) (az5 N) (fun x=>by kernel_rfl))
@[reducible] def s346:SP:=⟨[.adr 0 [],.int .i64],[.var 345 (.agg [.str,.int .i64,.int .i64])]⟩
noncomputable def ab2 (N:Nat):List (Nat×(Pk→Tr Pk)):=[(305,W9 N),(344,av3 N),(364,au6 N)]
theorem Oj (N:Nat):ai Tryz.prog (ab2 N):=⟨Bs N,Lm N,Le N,trivial⟩
@[reducible] def w346:List SP:=[⟨[.str],[.var 345 (.agg [.str,.int .i64,.int .i64])]⟩]
noncomputable def az4 (N:Nat):(Int×ByteArray×Int×Int)→Option (ByteArray×ByteArray×Int×Int)
 | (x0,x1,x2,x3) =>
 ac (decide ((if (0:Int)>x0 then (0:Int) else x0)>(↑(ByteArray.size x1):Int))) (
  Option.bind (QA N (x1,x2,x3,())) fun y0 =>
  Option.bind (Qw N (IntKind.wrap IntKind.i64 (y0+(1:Int)),x1,x2,x3)) fun y1 =>
  some ((ByteArray.mk #[],y1.2.1,y1.2.2.1,y1.2.2.2))) (
  Option.bind (Us N (x1,x2,x3,())) fun y2 =>
  Option.bind (Qw N (IntKind.wrap IntKind.i64 (y2+IntKind.wrap IntKind.i64 ((8:Int)*if (0:Int)>x0 then (0:Int) else x0)),x1,x2,x3)) fun y3 =>
  ac (!y3.1) (
   Option.bind (QA N (y3.2.1,y3.2.2.1,y3.2.2.2,())) fun y4 =>
   Option.bind (Qw N (IntKind.wrap IntKind.i64 (y4+(1:Int)),y3.2.1,y3.2.2.1,y3.2.2.2)) fun y5 =>
   some ((ByteArray.mk #[],y5.2.1,y5.2.2.1,y5.2.2.2))) (
   Option.bind (Us N (y3.2.1,y3.2.2.1,y3.2.2.2,())) fun y6 =>
   ac (decide ((0:Int)≤IntKind.wrap IntKind.i64 (IntKind.wrap IntKind.i64 (Int.tdiv (IntKind.wrap IntKind.i64 (y3.2.2.1+y6)) (8:Int))+if (0:Int)>x0 then (0:Int) else x0)∧IntKind.wrap IntKind.i64 (IntKind.wrap IntKind.i64 (Int.tdiv (IntKind.wrap IntKind.i64 (y3.2.2.1+y6)) (8:Int))+if (0:Int)>x0 then (0:Int) else x0)≤(↑(ByteArray.size y3.2.1):Int))) (
    ac (decide ((0:Int)≤IntKind.wrap IntKind.i64 (Int.tdiv (IntKind.wrap IntKind.i64 (y3.2.2.1+y6)) (8:Int))∧IntKind.wrap IntKind.i64 (Int.tdiv (IntKind.wrap IntKind.i64 (y3.2.2.1+y6)) (8:Int))≤(↑(Int.toNat (IntKind.wrap IntKind.i64 (IntKind.wrap IntKind.i64 (Int.tdiv (IntKind.wrap IntKind.i64 (y3.2.2.1+y6)) (8:Int))+if (0:Int)>x0 then (0:Int) else x0))):Int))) (
     some ((ByteArray.extract y3.2.1 (Int.toNat (IntKind.wrap IntKind.i64 (Int.tdiv (IntKind.wrap IntKind.i64 (y3.2.2.1+y6)) (8:Int)))) (Int.toNat (IntKind.wrap IntKind.i64 (IntKind.wrap IntKind.i64 (Int.tdiv (IntKind.wrap IntKind.i64 (y3.2.2.1+y6)) (8:Int))+if (0:Int)>x0 then (0:Int) else x0))),y3.2.1,IntKind.wrap IntKind.i64 ((8:Int)*IntKind.wrap IntKind.i64 (IntKind.wrap IntKind.i64 (Int.tdiv (IntKind.wrap IntKind.i64 (y3.2.2.1+y6)) (8:Int))+if (0:Int)>x0 then (0:Int) else x0)),y3.2.2.2))) (
     none )) (
    none )))
noncomputable def aO8 (N:Nat):Pk→Tr Pk:=ah s346 w346 (az4 N)
theorem WS (N:Nat):av Tryz.prog (346) (aO8 N) :=
 (af ag am (Oj N) Tryz.func346 s346 w346 [0] (cuts:=[]) trivial (fun _=>by kernel_rfl) (by decide +kernel) (az4 N) (fun x=>by kernel_rfl))
@[reducible] def s331:SP:=⟨[.adr 0 [],.int .i64],[.var 345 (.agg [.str,.int .i64,.int .i64])]⟩
noncomputable def ac4 (N:Nat):List (Nat×(Pk→Tr Pk)):=[(345,aO9 N),(329,xh N),(330,Bq N),(346,aO8 N)]
theorem Ov (N:Nat):ai Tryz.prog (ac4 N):=⟨WU N,eI N,gi N,WS N,trivial⟩
@[reducible] def w331:List SP:=[⟨[.tup [.str,.int .i64]],[.var 345 (.agg [.str,.int .i64,.int .i64])]⟩]
noncomputable def az8 (N:Nat):(Int×ByteArray×Int×Int)→Option (ByteArray×Int×ByteArray×Int×Int)
 | (x0,x1,x2,x3) =>
 Option.bind (az5 N (x1,x2,x3)) fun y0 =>
 Option.bind (kE N ((16:Int),y0.2.1,y0.2.2.1,y0.2.2.2)) fun y1 =>
 Option.bind (kE N ((16:Int),y1.2.1,y1.2.2.1,y1.2.2.2)) fun y2 =>
 Option.bind (oG N (y2.2.1,y2.2.2.1,y2.2.2.2,())) fun y3 =>
 ac (y3 != (0:Int)) (
  some ((ByteArray.mk #[],y3,y2.2.1,y2.2.2.1,y2.2.2.2))) (
  ac (IntKind.wrap IntKind.i64 (↑(BitVec.toNat (BitVec.ofInt (64:Nat) y1.1 ^^^ BitVec.ofInt (64:Nat) y2.1)):Int) != (65535:Int)) (
   some ((ByteArray.mk #[],(80:Int),y2.2.1,y2.2.2.1,y2.2.2.2))) (
   ac (decide (y1.1>x0)) (
    some ((ByteArray.mk #[],(4:Int),y2.2.1,y2.2.2.1,y2.2.2.2))) (
    Option.bind (az4 N (y1.1,y2.2.1,y2.2.2.1,y2.2.2.2)) fun y4 =>
    Option.bind (oG N (y4.2.1,y4.2.2.1,y4.2.2.2,())) fun y5 =>
    some ((y4.1,y5,y4.2.1,y4.2.2.1,y4.2.2.2)))))
noncomputable def aP6 (N:Nat):Pk→Tr Pk:=ah s331 w331 (az8 N)
theorem W1 (N:Nat):av Tryz.prog (331) (aP6 N) :=
 (af ag am (Ov N) Tryz.func331 s331 w331 [0] (cuts:=[]) trivial (fun _=>by kernel_rfl) (by decide +kernel) (az8 N) (fun x=>by kernel_rfl))
@[reducible] def s368:SP:=⟨[.ro (.int .i64)],[]⟩
noncomputable def Z2 (N:Nat):List (Nat×(Pk→Tr Pk)):=[(370,au3 N),(371,WE N)]
theorem o7 (N:Nat):ai Tryz.prog (Z2 N):=⟨Lb N,Bn N,trivial⟩
@[reducible] def v8:LD:=⟨16018,[34,33,0,32,6,7],[(.ret,[2,3]),(.exit 2,[7,0,6]),(.exit 1,[7,0,6]),(.exit 0,[6])],⟨[.int .i64,.int .i64,.ro (.int .i64),.ro (.int .i64),.adr 0 [],.int .i64],[.var 397 (.agg [.arr (.int .i64) 16,.sl 1,.int .i64]),.row (.int .i64) 3]⟩,[(.exit 2,⟨[.int .i64,.ro (.int .i64),.adr 0 []],[.var 397 (.agg [.arr (.int .i64) 16,.sl 1,.int .i64]),.row (.int .i64) 3]⟩)]⟩
abbrev mU:Type:=Int×Int×(List Int)×(List Int)×Int×(List Int)×Int×(List Int)
abbrev mM:Type:=Int×(List Int)×(List Int)×Int×(List Int)
noncomputable def wP (N:Nat) (f:mU→Option mM):mU→Option mM
 | (x0,x1,x2,x3,x4,x5,x6,x7) =>
 ac (decide (x0<x1)) (
  ac (within x0 (List.length x3)) (
   Option.bind (x3[Int.toNat x0]?) fun y0 =>
   ac (y0==x4) (
    ac (decide ((List.length x7+List.length [x0])*(8:Nat)≤(140737488355328:Nat)∧List.length x7+List.length [x0]≤(140737488355328:Nat))) (
     Option.bind (f (IntKind.wrap IntKind.i64 (x0+(1:Int)),x1,x2,x3,x4,x5,x4,x7++[x0])) fun r=>some r) (
     none )) (
    Option.bind (f (IntKind.wrap IntKind.i64 (x0+(1:Int)),x1,x2,x3,x4,x5,x6,x7)) fun r=>some r)) (
   none )) (
  some ((x4,x2,x5,x6,x7)))
noncomputable def jf (N:Nat):Nat→mU→Option mM
 | 0,_=>none
 | k+1,x=>wP N (jf N k) x
noncomputable def ng (N:Nat) (k:Nat):Cut:=v8.cut (jf N k)
theorem mh (N:Nat) (k:Nat):ak Tryz.prog false Tryz.f368 [] 16018 (ng N k) :=
 v8.loopT ag am (o7 N) Tryz.f368 [] (cuts:=[]) trivial (by decide +kernel) (by kernel_rfl) (wP N) (jf N) (fun _=>rfl) (fun _ _=>rfl) (fun f x=>by kernel_rfl) k
@[reducible] def Fl:LD:=⟨250,[0,6,7],[(.ret,[2,3]),(.exit 0,[6])],⟨[.ro (.int .i64),.adr 0 [],.int .i64],[.var 397 (.agg [.arr (.int .i64) 16,.sl 1,.int .i64]),.row (.int .i64) 3]⟩,[(.exit 0,⟨[.adr 0 []],[.var 397 (.agg [.arr (.int .i64) 16,.sl 1,.int .i64]),.row (.int .i64) 3]⟩)]⟩
abbrev vC:Type:=(List Int)×Int×(List Int)×Int×(List Int)
abbrev uN:Type:=(List Int)×Int×(List Int)
noncomputable def Hp (N:Nat) (f:vC→Option uN):vC→Option uN
 | (x0,x1,x2,x3,x4) =>
 ac (decide (x1≤(15:Int))) (
  Option.bind (jf N N ((0:Int),(↑(List.length x0):Int),x0,x0,x1,x2,x3,x4)) fun y0 =>
  Option.bind (f (y0.2.1,IntKind.wrap IntKind.i64 (y0.1+(1:Int)),y0.2.2.1,y0.2.2.2.1,y0.2.2.2.2)) fun r=>some r) (
  some ((x2,x3,x4)))
noncomputable def oy (N:Nat):Nat→vC→Option uN
 | 0,_=>none
 | k+1,x=>Hp N (oy N k) x
noncomputable def GD (N:Nat) (k:Nat):Cut:=Fl.cut (oy N k)
theorem GC (N:Nat) (k:Nat):ak Tryz.prog false Tryz.f368 [] 250 (GD N k) :=
 Fl.loopT ag am (o7 N) Tryz.f368 [] (cuts:=[(16018,ng N N)]) ⟨mh N N,trivial⟩ (by decide +kernel) (by kernel_rfl) (Hp N) (oy N) (fun _=>rfl) (fun _ _=>rfl) (fun f x=>by kernel_rfl) k
@[reducible] def w368:List SP:=[⟨[.tup [.nilp,.int .i64]],[]⟩,⟨[.tup [.adr 0 [],.int .i64]],[.var 397 (.agg [.arr (.int .i64) 16,.sl 1,.int .i64]),.row (.int .i64) 3]⟩]
noncomputable def Qt (N:Nat):((List Int))→Option (((Int)⊕(Int×(List Int)×Int×(List Int))))
 | x0 =>
 Option.bind (Yt N x0) fun y0 =>
 ac (y0.2 != (0:Int)) (
  some (.inl y0.2)) (
  Option.bind (Uq N x0) fun y1 =>
  Option.bind (oy N N (x0,(1:Int),y1.1,(0:Int),[])) fun y2 =>
  some (.inr (((0:Int),y2.1,y2.2.1,y2.2.2))))
noncomputable def au5 (N:Nat):Pk→Tr Pk:=ah s368 w368 (Qt N)
theorem Lc (N:Nat):av Tryz.prog (368) (au5 N) :=
 (af ag am (o7 N) Tryz.func368 s368 w368 [] (cuts:=[(16018,ng N N),(250,GD N N)]) ⟨mh N N,GC N N,trivial⟩ (fun _=>by kernel_rfl) (by decide +kernel) (Qt N) (fun x=>by kernel_rfl))
@[reducible] def s349:SP:=⟨[.int .i64],[]⟩
noncomputable def aa9 (N:Nat):List (Nat×(Pk→Tr Pk)):=[]
theorem Oi (N:Nat):ai Tryz.prog (aa9 N):=trivial
@[reducible] def w349:List SP:=[⟨[.int .i64],[]⟩]
noncomputable def FU (N:Nat):(Int)→Option (Int)
 | x0 =>
 ac (x0==(50:Int)) (
  some ((80:Int))) (
  ac (x0==(3:Int)) (
   some ((80:Int))) (
   some (x0)))
noncomputable def WP (N:Nat):Pk→Tr Pk:=ah s349 w349 (FU N)
theorem Bp (N:Nat):av Tryz.prog (349) (WP N) :=
 (af ag am (Oi N) Tryz.func349 s349 w349 [] (cuts:=[]) trivial (fun _=>by kernel_rfl) (by decide +kernel) (FU N) (fun x=>by kernel_rfl))
@[reducible] def s365:SP:=⟨[.adr 0 [],.int .i64],[.var 345 (.agg [.str,.int .i64,.int .i64])]⟩
noncomputable def Z5 (N:Nat):List (Nat×(Pk→Tr Pk)):=[(362,au7 N),(329,xh N),(330,Bq N),(368,au5 N),(349,WP N)]
theorem xE (N:Nat):ai Tryz.prog (Z5 N):=⟨Lf N,eI N,gi N,Lc N,Bp N,trivial⟩
@[reducible] def LV:LD:=⟨58,[17,16,15,6,0],[(.ret,[4,5]),(.exit 0,[0,6])],⟨[.int .i64,.int .i64,.slp 1 (.c 0) .h,.sl 2,.adr 0 []],[.var 345 (.agg [.str,.int .i64,.int .i64]),.row (.int .i64) 3,.row (.int .i64) 3]⟩,[(.exit 0,⟨[.adr 0 [],.sl 1],[.var 345 (.agg [.str,.int .i64,.int .i64]),.row (.int .i64) 3]⟩)]⟩
abbrev CM:Type:=Int×Int×Nat×ByteArray×Int×Int×(List Int)×(List Int)
abbrev BS:Type:=ByteArray×Int×Int×(List Int)
noncomputable def NC (N:Nat) (f:CM→Option BS):CM→Option BS
 | (x0,x1,x2,x3,x4,x5,x6,x7) =>
 ac (decide (x0<x1)) (
  ac (within x0 x2) (
   Option.bind (x6[(0:Nat)+Int.toNat x0]?) fun y0 =>
   Option.bind (kE N ((3:Int),x3,x4,x5)) fun y1 =>
   ac (within y0 (List.length x7)) (
    Option.bind (x7[Int.toNat y0]?) fun y2 =>
    Option.bind (f (IntKind.wrap IntKind.i64 (x0+(1:Int)),x1,x2,y1.2.1,y1.2.2.1,y1.2.2.2,x6,List.set x7 (Int.toNat y0) y1.1)) fun r=>some r) (
    none )) (
   none )) (
  some ((x3,x4,x5,x7)))
noncomputable def sE (N:Nat):Nat→CM→Option BS
 | 0,_=>none
 | k+1,x=>NC N (sE N k) x
noncomputable def MV (N:Nat) (k:Nat):Cut:=LV.cut (sE N k)
theorem JO (N:Nat) (k:Nat):ak Tryz.prog false Tryz.f365 [0] 58 (MV N k) :=
 LV.loopT ag am (xE N) Tryz.f365 [0] (cuts:=[]) trivial (by decide +kernel) (by kernel_rfl) (NC N) (sE N) (fun _=>rfl) (fun _ _=>rfl) (fun f x=>by kernel_rfl) k
@[reducible] def w365:List SP:=[⟨[.tup [.nilp,.int .i64]],[.var 345 (.agg [.str,.int .i64,.int .i64])]⟩,⟨[.tup [.adr 1 [],.int .i64]],[.var 345 (.agg [.str,.int .i64,.int .i64]),.var 397 (.agg [.arr (.int .i64) 16,.sl 2,.int .i64]),.row (.int .i64) 3]⟩]
noncomputable def az0 (N:Nat):(Int×ByteArray×Int×Int)→Option (((Int×ByteArray×Int×Int)⊕(Int×ByteArray×Int×Int×(List Int)×Int×(List Int))))
 | (x0,x1,x2,x3) =>
 Option.bind (Yv N ()) fun y0 =>
 ac (decide ((0:Int)≤x0∧x0≤(↑(List.length y0):Int))) (
  Option.bind (sE N N ((0:Int),(↑(Int.toNat x0-(0:Nat)):Int),Int.toNat x0-(0:Nat),x1,x2,x3,y0,List.replicate (19:Nat) (0:Int))) fun y1 =>
  Option.bind (oG N (y1.1,y1.2.1,y1.2.2.1,())) fun y2 =>
  ac (y2 != (0:Int)) (
   some (.inl ((y2,y1.1,y1.2.1,y1.2.2.1)))) (
   Option.bind (Qt N y1.2.2.2) fun y3 =>
   match y3 with
   | .inl y4 =>
    Option.bind (FU N y4) fun y5 =>
    some (.inl ((y5,y1.1,y1.2.1,y1.2.2.1)))
   | .inr y4 =>
    Option.bind (FU N y4.1) fun y6 =>
    some (.inr ((y6,y1.1,y1.2.1,y1.2.2.1,y4.2.1,y4.2.2.1,y4.2.2.2))))) (
  none )
noncomputable def aN9 (N:Nat):Pk→Tr Pk:=ah s365 w365 (az0 N)
theorem WI (N:Nat):av Tryz.prog (365) (aN9 N) :=
 (af ag am (xE N) Tryz.func365 s365 w365 [0] (cuts:=[(58,MV N N)]) ⟨JO N N,trivial⟩ (fun _=>by kernel_rfl) (by decide +kernel) (az0 N) (fun x=>by kernel_rfl))
@[reducible] def s366:SP:=⟨[.nilp,.adr 0 []],[.var 345 (.agg [.str,.int .i64,.int .i64])]⟩
noncomputable def Z4 (N:Nat):List (Nat×(Pk→Tr Pk)):=[]
theorem xC (N:Nat):ai Tryz.prog (Z4 N):=trivial
@[reducible] def LU:LD:=⟨58,[8,0,7,1,9,6],[(.ret,[4,5])],⟨[.int .i64,.nilp,.int .i64,.adr 0 [],.int .i64,.int .i64],[.var 345 (.agg [.str,.int .i64,.int .i64])]⟩,[]⟩
abbrev CL:Type:=Int×Int×Int×Int×ByteArray×Int×Int
abbrev BR:Type:=Unit
noncomputable def NB (N:Nat) (f:CL→Option BR):CL→Option BR
 | (x0,x1,x2,x3,x4,x5,x6) =>
 none 
noncomputable def sD (N:Nat):Nat→CL→Option BR
 | 0,_=>none
 | k+1,x=>NB N (sD N k) x
noncomputable def MU (N:Nat) (k:Nat):Cut:=LU.cut (sD N k)
theorem JN (N:Nat) (k:Nat):ak Tryz.prog false Tryz.f366 [0] 58 (MU N k) :=
 LU.loopT ag am (xC N) Tryz.f366 [0] (cuts:=[]) trivial (by decide +kernel) (by kernel_rfl) (NB N) (sD N) (fun _=>rfl) (fun _ _=>rfl) (fun f x=>by kernel_rfl) k
@[reducible] def w366:List SP:=[]
noncomputable def Qu (N:Nat):(ByteArray×Int×Int)→Option (Unit)
 | (x0,x1,x2) =>
 Option.bind (sD N N ((0:Int),(0:Int),(1:Int),(0:Int),x0,x1,x2)) fun y0 =>
 none
noncomputable def WH (N:Nat):Pk→Tr Pk:=ah s366 w366 (Qu N)
theorem Bo (N:Nat):av Tryz.prog (366) (WH N) :=
 (af ag am (xC N) Tryz.func366 s366 w366 [0] (cuts:=[(58,MU N N)]) ⟨JN N N,trivial⟩ (fun _=>by kernel_rfl) (by decide +kernel) (Qu N) (fun x=>by kernel_rfl))
@[reducible] def s380:SP:=⟨[.adr 0 [],.int .i64],[.var 397 (.agg [.arr (.int .i64) 16,.sl 1,.int .i64]),.row (.int .i64) 3]⟩
noncomputable def ZQ (N:Nat):List (Nat×(Pk→Tr Pk)):=[]
theorem xv (N:Nat):ai Tryz.prog (ZQ N):=trivial
@[reducible] def LN:LD:=⟨58,[5,6,1,0],[(.ret,[4]),(.exit 0,[5])],⟨[.int .i64,.int .i64,.int .i64,.adr 0 []],[.var 397 (.agg [.arr (.int .i64) 16,.sl 1,.int .i64]),.row (.int .i64) 3]⟩,[(.exit 0,⟨[.int .i64],[.var 397 (.agg [.arr (.int .i64) 16,.sl 1,.int .i64]),.row (.int .i64) 3]⟩)]⟩
abbrev CF:Type:=Int×Int×Int×(List Int)×Int×(List Int)
abbrev BL:Type:=Int×(List Int)×Int×(List Int)
noncomputable def Nw (N:Nat) (f:CF→Option BL):CF→Option BL
 | (x0,x1,x2,x3,x4,x5) =>
 ac (decide (x1>x2)) (
  ac (within x1 (16:Nat)) (
   Option.bind (x3[Int.toNat x1]?) fun y0 =>
   Option.bind (f (IntKind.wrap IntKind.i64 (Int.tdiv (IntKind.wrap IntKind.i64 (IntKind.wrap IntKind.i64 (x0+y0)+(1:Int))) (2:Int)),IntKind.wrap IntKind.i64 (x1-(1:Int)),x2,x3,x4,x5)) fun r=>some r) (
   none )) (
  some ((x0,x3,x4,x5)))
noncomputable def sx (N:Nat):Nat→CF→Option BL
 | 0,_=>none
 | k+1,x=>Nw N (sx N k) x
noncomputable def MN (N:Nat) (k:Nat):Cut:=LN.cut (sx N k)
theorem JH (N:Nat) (k:Nat):ak Tryz.prog false Tryz.f380 [0] 58 (MN N k) :=
 LN.loopT ag am (xv N) Tryz.f380 [0] (cuts:=[]) trivial (by decide +kernel) (by kernel_rfl) (Nw N) (sx N) (fun _=>rfl) (fun _ _=>rfl) (fun f x=>by kernel_rfl) k
@[reducible] def w380:List SP:=[⟨[.int .i64],[.var 397 (.agg [.arr (.int .i64) 16,.sl 1,.int .i64]),.row (.int .i64) 3]⟩]
noncomputable def ay2 (N:Nat):(Int×(List Int)×Int×(List Int))→Option (Int×(List Int)×Int×(List Int))
 | (x0,x1,x2,x3) =>
 Option.bind (sx N N ((0:Int),x2,x0,x1,x2,x3)) fun y0 =>
 some ((y0.1,y0.2.1,y0.2.2.1,y0.2.2.2))
noncomputable def aN1 (N:Nat):Pk→Tr Pk:=ah s380 w380 (ay2 N)
theorem Wx (N:Nat):av Tryz.prog (380) (aN1 N) :=
 (af ag am (xv N) Tryz.func380 s380 w380 [0] (cuts:=[(58,MN N N)]) ⟨JH N N,trivial⟩ (fun _=>by kernel_rfl) (by decide +kernel) (ay2 N) (fun x=>by kernel_rfl))
@[reducible] def s366a:SP:=⟨[.adr 0 [],.adr 1 []],[.var 397 (.agg [.arr (.int .i64) 16,.sl 2,.int .i64]),.var 345 (.agg [.str,.int .i64,.int .i64]),.row (.int .i64) 3]⟩
noncomputable def VD (N:Nat):List (Nat×(Pk→Tr Pk)):=[(329,xh N),(330,Bq N),(380,aN1 N)]
theorem tf (N:Nat):ai Tryz.prog (VD N):=⟨eI N,gi N,Wx N,trivial⟩
@[reducible] def Fo:LD:=⟨58,[8,0,7,1,9,6],[(.ret,[4,5]),(.exit 0,[])],⟨[.int .i64,.adr 0 [],.int .i64,.adr 1 [],.int .i64,.int .i64],[.var 397 (.agg [.arr (.int .i64) 16,.sl 2,.int .i64]),.var 345 (.agg [.str,.int .i64,.int .i64]),.row (.int .i64) 3]⟩,[(.ret,⟨[.int .i64,.int .i64],[.var 397 (.agg [.arr (.int .i64) 16,.sl 2,.int .i64]),.var 345 (.agg [.str,.int .i64,.int .i64]),.row (.int .i64) 3]⟩),(.exit 0,⟨[],[.var 397 (.agg [.arr (.int .i64) 16,.sl 2,.int .i64]),.var 345 (.agg [.str,.int .i64,.int .i64]),.row (.int .i64) 3]⟩)]⟩
abbrev vD:Type:=Int×Int×Int×Int×(List Int)×Int×ByteArray×Int×Int×(List Int)
abbrev uO:Type:=((Int×Int×(List Int)×Int×ByteArray×Int×Int×(List Int))⊕((List Int)×Int×ByteArray×Int×Int×(List Int)))
noncomputable def Hq (N:Nat) (f:vD→Option uO):vD→Option uO
 | (x0,x1,x2,x3,x4,x5,x6,x7,x8,x9) =>
 ac (decide (x2≤x5)) (
  Option.bind (kE N ((1:Int),x6,x7,x8)) fun y0 =>
  Option.bind (oG N (y0.2.1,y0.2.2.1,y0.2.2.2,())) fun y1 =>
  ac (y1 != (0:Int)) (
   some (.inl (((0:Int),y1,x4,x5,y0.2.1,y0.2.2.1,y0.2.2.2,x9)))) (
   ac (within x2 (16:Nat)) (
    Option.bind (x4[Int.toNat x2]?) fun y2 =>
    ac (decide (IntKind.wrap IntKind.i64 (IntKind.wrap IntKind.i64 (↑(BitVec.toNat (BitVec.ofInt (64:Nat) x3 ||| BitVec.ofInt (64:Nat) y0.1)):Int)-x1)<y2)) (
     ac (within (IntKind.wrap IntKind.i64 (x0+IntKind.wrap IntKind.i64 (IntKind.wrap IntKind.i64 (↑(BitVec.toNat (BitVec.ofInt (64:Nat) x3 ||| BitVec.ofInt (64:Nat) y0.1)):Int)-x1))) (List.length x9)) (
      Option.bind (x9[Int.toNat (IntKind.wrap IntKind.i64 (x0+IntKind.wrap IntKind.i64 (IntKind.wrap IntKind.i64 (↑(BitVec.toNat (BitVec.ofInt (64:Nat) x3 ||| BitVec.ofInt (64:Nat) y0.1)):Int)-x1)))]?) fun y3 =>
      some (.inl ((y3,(0:Int),x4,x5,y0.2.1,y0.2.2.1,y0.2.2.2,x9)))) (
      none )) (
     ac (within x2 (16:Nat)) (
      Option.bind (x4[Int.toNat x2]?) fun y4 =>
      ac (within x2 (16:Nat)) (
       Option.bind (x4[Int.toNat x2]?) fun y5 =>
       Option.bind (ay2 N (x2,x4,x5,x9)) fun y6 =>
       ac (decide (IntKind.wrap IntKind.i64 (Int.fdiv (IntKind.wrap IntKind.i64 (IntKind.wrap IntKind.i64 (↑(BitVec.toNat (BitVec.ofInt (64:Nat) x3 ||| BitVec.ofInt (64:Nat) y0.1)):Int)*(2:Int))) (2:Int)-Int.fdiv (IntKind.wrap IntKind.i64 (IntKind.wrap IntKind.i64 (x1+y5)*(2:Int))) (2:Int))≥y6.1)) (
        some (.inl (((0:Int),(3:Int),y6.2.1,y6.2.2.1,y0.2.1,y0.2.2.1,y0.2.2.2,y6.2.2.2)))) (
        Option.bind (f (IntKind.wrap IntKind.i64 (x0+y4),IntKind.wrap IntKind.i64 (IntKind.wrap IntKind.i64 (x1+y5)*(2:Int)),IntKind.wrap IntKind.i64 (x2+(1:Int)),IntKind.wrap IntKind.i64 (IntKind.wrap IntKind.i64 (↑(BitVec.toNat (BitVec.ofInt (64:Nat) x3 ||| BitVec.ofInt (64:Nat) y0.1)):Int)*(2:Int)),y6.2.1,y6.2.2.1,y0.2.1,y0.2.2.1,y0.2.2.2,y6.2.2.2)) fun r=>match r with|.inl y=>some (.inl y)|.inr y=>some (.inr y))) (
       none )) (
      none ))) (
    none ))) (
  some (.inr ((x4,x5,x6,x7,x8,x9))))
noncomputable def oz (N:Nat):Nat→vD→Option uO
 | 0,_=>none
 | k+1,x=>Hq N (oz N k) x
noncomputable def GG (N:Nat) (k:Nat):Cut:=Fo.cut (oz N k)
theorem GF (N:Nat) (k:Nat):ak Tryz.prog false Tryz.f366 [0,1] 58 (GG N k) :=
 Fo.loopT ag am (tf N) Tryz.f366 [0,1] (cuts:=[]) trivial (by decide +kernel) (by kernel_rfl) (Hq N) (oz N) (fun _=>rfl) (fun _ _=>rfl) (fun f x=>by kernel_rfl) k
@[reducible] def w366a:List SP:=[⟨[.tup [.int .i64,.int .i64]],[.var 397 (.agg [.arr (.int .i64) 16,.sl 2,.int .i64]),.var 345 (.agg [.str,.int .i64,.int .i64]),.row (.int .i64) 3]⟩]
noncomputable def zp (N:Nat):((List Int)×Int×ByteArray×Int×Int×(List Int))→Option (Int×Int×(List Int)×Int×ByteArray×Int×Int×(List Int))
 | (x0,x1,x2,x3,x4,x5) =>
 Option.bind (oz N N ((0:Int),(0:Int),(1:Int),(0:Int),x0,x1,x2,x3,x4,x5)) fun y0 =>
 match y0 with
 | .inl (y1_0,y1_1,y1_2,y1_3,y1_4,y1_5,y1_6,y1_7) =>
  some ((y1_0,y1_1,y1_2,y1_3,y1_4,y1_5,y1_6,y1_7))
 | .inr (y1_0,y1_1,y1_2,y1_3,y1_4,y1_5) =>
  some (((0:Int),(3:Int),y1_0,y1_1,y1_2,y1_3,y1_4,y1_5))
noncomputable def Ld (N:Nat):Pk→Tr Pk:=ah s366a w366a (zp N)
theorem uA (N:Nat):av Tryz.prog (366) (Ld N) :=
 (af ag am (tf N) Tryz.func366 s366a w366a [0,1] (cuts:=[(58,GG N N)]) ⟨GF N N,trivial⟩ (fun _=>by kernel_rfl) (by decide +kernel) (zp N) (fun x=>by kernel_rfl))
@[reducible] def s367:SP:=⟨[.adr 0 [],.int .i64,.ro (.int .i64)],[.var 345 (.agg [.str,.int .i64,.int .i64])]⟩
noncomputable def Z3 (N:Nat):List (Nat×(Pk→Tr Pk)):=[(329,xh N),(330,Bq N)]
theorem Oc (N:Nat):ai Tryz.prog (Z3 N):=⟨eI N,gi N,trivial⟩
@[reducible] def w367:List SP:=[⟨[.tup [.int .i64,.int .i64,.int .i64]],[.var 345 (.agg [.str,.int .i64,.int .i64])]⟩]
noncomputable def ay9 (N:Nat):(Int×(List Int)×ByteArray×Int×Int)→Option (Int×Int×Int×ByteArray×Int×Int)
 | (x0,x1,x2,x3,x4) =>
 ac (x0==(16:Int)) (
  ac ((↑(List.length x1):Int)==(0:Int)) (
   some (((0:Int),(0:Int),(80:Int),x2,x3,x4))) (
   ac (within (IntKind.wrap IntKind.i64 ((↑(List.length x1):Int)-(1:Int))) (List.length x1)) (
    Option.bind (x1[Int.toNat (IntKind.wrap IntKind.i64 ((↑(List.length x1):Int)-(1:Int)))]?) fun y0 =>
    Option.bind (kE N ((2:Int),x2,x3,x4)) fun y1 =>
    Option.bind (oG N (y1.2.1,y1.2.2.1,y1.2.2.2,())) fun y2 =>
    some ((y0,IntKind.wrap IntKind.i64 ((3:Int)+y1.1),y2,y1.2.1,y1.2.2.1,y1.2.2.2))) (
    none ))) (
  ac (x0==(17:Int)) (
   Option.bind (kE N ((3:Int),x2,x3,x4)) fun y3 =>
   Option.bind (oG N (y3.2.1,y3.2.2.1,y3.2.2.2,())) fun y4 =>
   some (((0:Int),IntKind.wrap IntKind.i64 ((3:Int)+y3.1),y4,y3.2.1,y3.2.2.1,y3.2.2.2))) (
   ac (x0==(18:Int)) (
    Option.bind (kE N ((7:Int),x2,x3,x4)) fun y5 =>
    Option.bind (oG N (y5.2.1,y5.2.2.1,y5.2.2.2,())) fun y6 =>
    some (((0:Int),IntKind.wrap IntKind.i64 ((11:Int)+y5.1),y6,y5.2.1,y5.2.2.1,y5.2.2.2))) (
    Option.bind (oG N (x2,x3,x4,())) fun y7 =>
    some ((x0,(1:Int),y7,x2,x3,x4)))))
noncomputable def aN8 (N:Nat):Pk→Tr Pk:=ah s367 w367 (ay9 N)
theorem WG (N:Nat):av Tryz.prog (367) (aN8 N) :=
 (af ag am (Oc N) Tryz.func367 s367 w367 [0] (cuts:=[]) trivial (fun _=>by kernel_rfl) (by decide +kernel) (ay9 N) (fun x=>by kernel_rfl))
@[reducible] def s347:SP:=⟨[.adr 0 []],[.var 345 (.agg [.str,.int .i64,.int .i64])]⟩
noncomputable def ab1 (N:Nat):List (Nat×(Pk→Tr Pk)):=[(329,xh N),(330,Bq N),(365,aN9 N),(366,VU s366.I (WH N) (Ld N)),(349,WP N),(367,aN8 N)]
theorem k8 (N:Nat):ai Tryz.prog (ab1 N):=⟨eI N,gi N,WI N,mC (Bo N) (uA N),Bp N,WG N,trivial⟩
@[reducible] def wi:LD:=⟨508,[9,5,6,0,10],[(.ret,[2,3,4]),(.exit 1,[10,5])],⟨[.nilp,.int .i64,.int .i64,.adr 0 [],.sl 1],[.var 345 (.agg [.str,.int .i64,.int .i64]),.row (.int .i64) 3]⟩,[(.exit 1,⟨[.sl 1,.int .i64],[.var 345 (.agg [.str,.int .i64,.int .i64]),.row (.int .i64) 3]⟩)]⟩
abbrev vJ:Type:=Int×Int×ByteArray×Int×Int×(List Int)
abbrev uU:Type:=Int×ByteArray×Int×Int×(List Int)
noncomputable def Hv (N:Nat) (f:vJ→Option uU):vJ→Option uU
 | (x0,x1,x2,x3,x4,x5) =>
 ac (decide ((↑(List.length x5):Int)<IntKind.wrap IntKind.i64 (x0+x1))) (
  Option.bind (Qu N (x2,x3,x4)) fun y0 =>
  none) (
  some ((x0,x2,x3,x4,x5)))
noncomputable def oD (N:Nat):Nat→vJ→Option uU
 | 0,_=>none
 | k+1,x=>Hv N (oD N k) x
noncomputable def oT (N:Nat) (k:Nat):Cut:=wi.cut (oD N k)
theorem kM (N:Nat) (k:Nat):ak Tryz.prog false Tryz.f347 [0] 508 (oT N k) :=
 wi.loopT ag am (k8 N) Tryz.f347 [0] (cuts:=[]) trivial (by decide +kernel) (by kernel_rfl) (Hv N) (oD N) (fun _=>rfl) (fun _ _=>rfl) (fun f x=>by kernel_rfl) k
@[reducible] def rm:LD:=⟨260286,[10,84,83,0,6,5,9,13],[(.ret,[2,3,4]),(.exit 4,[9,5,6,0,10]),(.exit 2,[9,5,6,0,10]),(.exit 1,[10,5])],⟨[.sl 1,.int .i64,.int .i64,.adr 0 [],.int .i64,.int .i64,.adr 2 [],.int .i64],[.var 345 (.agg [.str,.int .i64,.int .i64]),.row (.int .i64) 3,.var 397 (.agg [.arr (.int .i64) 16,.sl 3,.int .i64]),.row (.int .i64) 3]⟩,[(.exit 4,⟨[.adr 1 [],.int .i64,.int .i64,.adr 0 [],.sl 2],[.var 345 (.agg [.str,.int .i64,.int .i64]),.var 397 (.agg [.arr (.int .i64) 16,.sl 3,.int .i64]),.row (.int .i64) 3,.row (.int .i64) 3]⟩)]⟩
abbrev kt:Type:=Int×Int×Int×Int×Int×ByteArray×Int×Int×(List Int)×(List Int)×Int×(List Int)
abbrev kj:Type:=Int×Int×ByteArray×Int×Int×(List Int)×Int×(List Int)×(List Int)
noncomputable def rH (N:Nat) (f:kt→Option kj):kt→Option kj
 | (x0,x1,x2,x3,x4,x5,x6,x7,x8,x9,x10,x11) =>
 ac (decide (x0<x1)) (
  ac (decide ((List.length x8+List.length [x4])*(8:Nat)≤(140737488355328:Nat)∧List.length x8+List.length [x4]≤(140737488355328:Nat))) (
   Option.bind (f (IntKind.wrap IntKind.i64 (x0+(1:Int)),x1,x2,x3,x4,x5,x6,x7,x8++[x4],x9,x10,x11)) fun r=>some r) (
   none )) (
  some ((x3,x2,x5,x6,x7,x9,x10,x8,x11)))
noncomputable def gm (N:Nat):Nat→kt→Option kj
 | 0,_=>none
 | k+1,x=>rH N (gm N k) x
noncomputable def kO (N:Nat) (k:Nat):Cut:=rm.cut (gm N k)
theorem kN (N:Nat) (k:Nat):ak Tryz.prog false Tryz.f347 [0] 260286 (kO N k) :=
 rm.loopT ag am (k8 N) Tryz.f347 [0] (cuts:=[(508,oT N N)]) ⟨kM N N,trivial⟩ (by decide +kernel) (by kernel_rfl) (rH N) (gm N) (fun _=>rfl) (fun _ _=>rfl) (fun f x=>by kernel_rfl) k
@[reducible] def zh:LD:=⟨508,[9,5,6,0,10],[(.ret,[2,3,4]),(.exit 1,[10,5])],⟨[.adr 1 [],.int .i64,.int .i64,.adr 0 [],.sl 2],[.var 345 (.agg [.str,.int .i64,.int .i64]),.var 397 (.agg [.arr (.int .i64) 16,.sl 3,.int .i64]),.row (.int .i64) 3,.row (.int .i64) 3]⟩,[(.ret,⟨[.sl 1,.sl 2,.int .i64],[.var 345 (.agg [.str,.int .i64,.int .i64]),.row (.int .i64) 3,.row (.int .i64) 3]⟩),(.exit 1,⟨[.sl 1,.int .i64],[.var 345 (.agg [.str,.int .i64,.int .i64]),.row (.int .i64) 3]⟩)]⟩
abbrev qt:Type:=Int×Int×ByteArray×Int×Int×(List Int)×Int×(List Int)×(List Int)
abbrev qb:Type:=((Int×ByteArray×Int×Int×(List Int)×(List Int))⊕(Int×ByteArray×Int×Int×(List Int)))
noncomputable def Ad (N:Nat) (f:qt→Option qb):qt→Option qb
 | (x0,x1,x2,x3,x4,x5,x6,x7,x8) =>
 ac (decide ((↑(List.length x7):Int)<IntKind.wrap IntKind.i64 (x0+x1))) (
  Option.bind (zp N (x5,x6,x2,x3,x4,x8)) fun(y0_0,y0_1,y0_2,y0_3,y0_4,y0_5,y0_6,y0_7) =>
  ac (y0_1 != (0:Int)) (
   Option.bind (FU N y0_1) fun y1 =>
   some (.inl ((y1,y0_4,y0_5,y0_6,[],[])))) (
   Option.bind (ay9 N (y0_0,x7,y0_4,y0_5,y0_6)) fun(y2_0,y2_1,y2_2,y2_3,y2_4,y2_5) =>
   ac (y2_2 != (0:Int)) (
    some (.inl ((y2_2,y2_3,y2_4,y2_5,[],[])))) (
    ac (decide (IntKind.wrap IntKind.i64 ((↑(List.length x7):Int)+y2_1)>IntKind.wrap IntKind.i64 (x0+x1))) (
     some (.inl (((80:Int),y2_3,y2_4,y2_5,[],[])))) (
     Option.bind (gm N N ((0:Int),y2_1,x1,x0,y2_0,y2_3,y2_4,y2_5,x7,y0_2,y0_3,y0_7)) fun(y3_0,y3_1,y3_2,y3_3,y3_4,y3_5,y3_6,y3_7,y3_8) =>
     Option.bind (f (y3_0,y3_1,y3_2,y3_3,y3_4,y3_5,y3_6,y3_7,y3_8)) fun r=>match r with|.inl y=>some (.inl y)|.inr y=>some (.inr y))))) (
  some (.inr ((x0,x2,x3,x4,x7))))
noncomputable def lJ (N:Nat):Nat→qt→Option qb
 | 0,_=>none
 | k+1,x=>Ad N (lJ N k) x
noncomputable def zT (N:Nat) (k:Nat):Cut:=zh.cut (lJ N k)
theorem DF (N:Nat) (k:Nat):ak Tryz.prog false Tryz.f347 [0] 508 (zT N k) :=
 zh.loopT ag am (k8 N) Tryz.f347 [0] (cuts:=[(508,oT N N),(260286,kO N N)]) ⟨kM N N,kN N N,trivial⟩ (by decide +kernel) (by kernel_rfl) (Ad N) (lJ N) (fun _=>rfl) (fun _ _=>rfl) (fun f x=>by kernel_rfl) k
@[reducible] def w347:List SP:=[⟨[.tup [.sl 1,.sl 2,.int .i64]],[.var 345 (.agg [.str,.int .i64,.int .i64]),.row (.int .i64) 3,.row (.int .i64) 3]⟩,⟨[.tup [.slp 1 (.c 0) .h,.slp 1 .h .h,.int .i64]],[.var 345 (.agg [.str,.int .i64,.int .i64]),.row (.int .i64) 3]⟩]
noncomputable def az3 (N:Nat):(ByteArray×Int×Int)→Option (((Int×ByteArray×Int×Int×(List Int)×(List Int))⊕(Nat×Nat×Nat×Int×ByteArray×Int×Int×(List Int))))
 | (x0,x1,x2) =>
 Option.bind (kE N ((5:Int),x0,x1,x2)) fun y0 =>
 Option.bind (kE N ((5:Int),y0.2.1,y0.2.2.1,y0.2.2.2)) fun y1 =>
 Option.bind (kE N ((4:Int),y1.2.1,y1.2.2.1,y1.2.2.2)) fun y2 =>
 Option.bind (oG N (y2.2.1,y2.2.2.1,y2.2.2.2,())) fun y3 =>
 ac (y3 != (0:Int)) (
  some (.inl ((y3,y2.2.1,y2.2.2.1,y2.2.2.2,[],[])))) (
  ac (decide (IntKind.wrap IntKind.i64 (y0.1+(257:Int))>(286:Int))) (
   some (.inl (((80:Int),y2.2.1,y2.2.2.1,y2.2.2.2,[],[])))) (
   ac (decide (IntKind.wrap IntKind.i64 (y1.1+(1:Int))>(30:Int))) (
    some (.inl (((80:Int),y2.2.1,y2.2.2.1,y2.2.2.2,[],[])))) (
    Option.bind (az0 N (IntKind.wrap IntKind.i64 (y2.1+(4:Int)),y2.2.1,y2.2.2.1,y2.2.2.2)) fun y4 =>
    match y4 with
    | .inl y5 =>
     ac (y5.1 != (0:Int)) (
      some (.inl ((y5.1,y5.2.1,y5.2.2.1,y5.2.2.2,[],[])))) (
      Option.bind (oD N N (IntKind.wrap IntKind.i64 (y0.1+(257:Int)),IntKind.wrap IntKind.i64 (y1.1+(1:Int)),y5.2.1,y5.2.2.1,y5.2.2.2,[])) fun y6 =>
      ac (decide ((0:Int)≤y6.1∧y6.1≤y6.1∧y6.1≤(↑(List.length y6.2.2.2.2):Int))) (
       ac (decide ((0:Int)≤y6.1∧y6.1≤(↑(List.length y6.2.2.2.2):Int))) (
        some (.inr ((Int.toNat y6.1,Int.toNat y6.1,List.length y6.2.2.2.2-Int.toNat y6.1,(0:Int),y6.2.1,y6.2.2.1,y6.2.2.2.1,y6.2.2.2.2)))) (
        none )) (
       none ))
    | .inr (y5_0,y5_1,y5_2,y5_3,y5_4,y5_5,y5_6) =>
     ac (y5_0 != (0:Int)) (
      some (.inl ((y5_0,y5_1,y5_2,y5_3,[],[])))) (
      Option.bind (lJ N N (IntKind.wrap IntKind.i64 (y0.1+(257:Int)),IntKind.wrap IntKind.i64 (y1.1+(1:Int)),y5_1,y5_2,y5_3,y5_4,y5_5,[],y5_6)) fun y7 =>
      match y7 with
      | .inl (y8_0,y8_1,y8_2,y8_3,y8_4,y8_5) =>
       some (.inl ((y8_0,y8_1,y8_2,y8_3,y8_4,y8_5)))
      | .inr y8 =>
       ac (decide ((0:Int)≤y8.1∧y8.1≤y8.1∧y8.1≤(↑(List.length y8.2.2.2.2):Int))) (
        ac (decide ((0:Int)≤y8.1∧y8.1≤(↑(List.length y8.2.2.2.2):Int))) (
         some (.inr ((Int.toNat y8.1,Int.toNat y8.1,List.length y8.2.2.2.2-Int.toNat y8.1,(0:Int),y8.2.1,y8.2.2.1,y8.2.2.2.1,y8.2.2.2.2)))) (
         none )) (
        none )))))
noncomputable def aO7 (N:Nat):Pk→Tr Pk:=ah s347 w347 (az3 N)
theorem WR (N:Nat):av Tryz.prog (347) (aO7 N) :=
 (af ag am (k8 N) Tryz.func347 s347 w347 [0] (cuts:=[(508,DG wi.s.I (oT N N) (zT N N)),(260286,kO N N)]) ⟨fun c' h=>cA (kM N N c' h) (DF N N c' h) rfl rfl,kN N N,trivial⟩ (fun _=>by kernel_rfl) (by decide +kernel) (az3 N) (fun x=>by kernel_rfl))
@[reducible] def s381:SP:=⟨[.adr 0 [],.int .i64,.fn 373],[.var 345 (.agg [.str,.int .i64,.int .i64])]⟩
noncomputable def ZP (N:Nat):List (Nat×(Pk→Tr Pk)):=[(373,au2 N),(329,xh N),(330,Bq N)]
theorem N5 (N:Nat):ai Tryz.prog (ZP N):=⟨La N,eI N,gi N,trivial⟩
@[reducible] def w381:List SP:=[⟨[.tup [.int .i64,.int .i64]],[.var 345 (.agg [.str,.int .i64,.int .i64])]⟩]
noncomputable def Yp (N:Nat):(Int×ByteArray×Int×Int)→Option (Int×Int×ByteArray×Int×Int)
 | (x0,x1,x2,x3) =>
 Option.bind (Ys N x0) fun y0 =>
 Option.bind (kE N (y0.2,x1,x2,x3)) fun y1 =>
 Option.bind (oG N (y1.2.1,y1.2.2.1,y1.2.2.2,())) fun y2 =>
 some ((IntKind.wrap IntKind.i64 (y0.1+y1.1),y2,y1.2.1,y1.2.2.1,y1.2.2.2))
noncomputable def at7 (N:Nat):Pk→Tr Pk:=ah s381 w381 (Yp N)
theorem K7 (N:Nat):av Tryz.prog (381) (at7 N) :=
 (af ag am (N5 N) Tryz.func381 s381 w381 [0] (cuts:=[]) trivial (fun _=>by kernel_rfl) (by decide +kernel) (Yp N) (fun x=>by kernel_rfl))
@[reducible] def s369:SP:=⟨[.adr 0 [],.int .i64,.nilp],[.var 345 (.agg [.str,.int .i64,.int .i64])]⟩
noncomputable def Z1 (N:Nat):List (Nat×(Pk→Tr Pk)):=[(381,at7 N),(366,WH N)]
theorem Oa (N:Nat):ai Tryz.prog (Z1 N):=⟨K7 N,Bo N,trivial⟩
@[reducible] def w369:List SP:=[⟨[.tup [.agg [.int .i64,.int .i64,.int .i64],.int .i64]],[.var 345 (.agg [.str,.int .i64,.int .i64])]⟩]
noncomputable def ay8 (N:Nat):(Int×ByteArray×Int×Int)→Option (Int×Int×Int×Int×ByteArray×Int×Int)
 | (x0,x1,x2,x3) =>
 ac (decide (x0>(285:Int))) (
  some (((0:Int),(0:Int),(0:Int),(3:Int),x1,x2,x3))) (
  Option.bind (Yp N (x0,x1,x2,x3)) fun y0 =>
  ac (y0.2.1 != (0:Int)) (
   some (((0:Int),(0:Int),(0:Int),y0.2.1,y0.2.2.1,y0.2.2.2.1,y0.2.2.2.2))) (
   Option.bind (Qu N (y0.2.2.1,y0.2.2.2.1,y0.2.2.2.2)) fun y1 =>
   none))
noncomputable def aN7 (N:Nat):Pk→Tr Pk:=ah s369 w369 (ay8 N)
theorem WF (N:Nat):av Tryz.prog (369) (aN7 N) :=
 (af ag am (Oa N) Tryz.func369 s369 w369 [0] (cuts:=[]) trivial (fun _=>by kernel_rfl) (by decide +kernel) (ay8 N) (fun x=>by kernel_rfl))
@[reducible] def s381a:SP:=⟨[.adr 0 [],.int .i64,.fn 374],[.var 345 (.agg [.str,.int .i64,.int .i64])]⟩
noncomputable def VA (N:Nat):List (Nat×(Pk→Tr Pk)):=[(374,au1 N),(329,xh N),(330,Bq N)]
theorem HS (N:Nat):ai Tryz.prog (VA N):=⟨K9 N,eI N,gi N,trivial⟩
@[reducible] def w381a:List SP:=[⟨[.tup [.int .i64,.int .i64]],[.var 345 (.agg [.str,.int .i64,.int .i64])]⟩]
noncomputable def Uo (N:Nat):(Int×ByteArray×Int×Int)→Option (Int×Int×ByteArray×Int×Int)
 | (x0,x1,x2,x3) =>
 Option.bind (Yr N x0) fun y0 =>
 Option.bind (kE N (y0.2,x1,x2,x3)) fun y1 =>
 Option.bind (oG N (y1.2.1,y1.2.2.1,y1.2.2.2,())) fun y2 =>
 some ((IntKind.wrap IntKind.i64 (y0.1+y1.1),y2,y1.2.1,y1.2.2.1,y1.2.2.2))
noncomputable def Zn (N:Nat):Pk→Tr Pk:=ah s381a w381a (Uo N)
theorem Tz (N:Nat):av Tryz.prog (381) (Zn N) :=
 (af ag am (HS N) Tryz.func381 s381a w381a [0] (cuts:=[]) trivial (fun _=>by kernel_rfl) (by decide +kernel) (Uo N) (fun x=>by kernel_rfl))
@[reducible] def s369a:SP:=⟨[.adr 0 [],.int .i64,.adr 1 []],[.var 345 (.agg [.str,.int .i64,.int .i64]),.var 397 (.agg [.arr (.int .i64) 16,.sl 2,.int .i64]),.row (.int .i64) 3]⟩
noncomputable def VC (N:Nat):List (Nat×(Pk→Tr Pk)):=[(381,VU s381.I (at7 N) (Zn N)),(366,Ld N)]
theorem HU (N:Nat):ai Tryz.prog (VC N):=⟨mC (K7 N) (Tz N),uA N,trivial⟩
@[reducible] def w369a:List SP:=[⟨[.tup [.agg [.int .i64,.int .i64,.int .i64],.int .i64]],[.var 345 (.agg [.str,.int .i64,.int .i64]),.var 397 (.agg [.arr (.int .i64) 16,.sl 2,.int .i64]),.row (.int .i64) 3]⟩]
noncomputable def Ur (N:Nat):(Int×ByteArray×Int×Int×(List Int)×Int×(List Int))→Option (Int×Int×Int×Int×ByteArray×Int×Int×(List Int)×Int×(List Int))
 | (x0,x1,x2,x3,x4,x5,x6) =>
 ac (decide (x0>(285:Int))) (
  some (((0:Int),(0:Int),(0:Int),(3:Int),x1,x2,x3,x4,x5,x6))) (
  Option.bind (Yp N (x0,x1,x2,x3)) fun y0 =>
  ac (y0.2.1 != (0:Int)) (
   some (((0:Int),(0:Int),(0:Int),y0.2.1,y0.2.2.1,y0.2.2.2.1,y0.2.2.2.2,x4,x5,x6))) (
   Option.bind (zp N (x4,x5,y0.2.2.1,y0.2.2.2.1,y0.2.2.2.2,x6)) fun(y1_0,y1_1,y1_2,y1_3,y1_4,y1_5,y1_6,y1_7) =>
   ac (y1_1 != (0:Int)) (
    some (((0:Int),(0:Int),(0:Int),y1_1,y1_4,y1_5,y1_6,y1_2,y1_3,y1_7))) (
    ac (decide (y1_0≥(30:Int))) (
     some (((0:Int),(0:Int),(0:Int),(3:Int),y1_4,y1_5,y1_6,y1_2,y1_3,y1_7))) (
     Option.bind (Uo N (y1_0,y1_4,y1_5,y1_6)) fun y2 =>
     some (((0:Int),y0.1,y2.1,y2.2.1,y2.2.2.1,y2.2.2.2.1,y2.2.2.2.2,y1_2,y1_3,y1_7))))))
noncomputable def Zp (N:Nat):Pk→Tr Pk:=ah s369a w369a (Ur N)
theorem TC (N:Nat):av Tryz.prog (369) (Zp N) :=
 (af ag am (HU N) Tryz.func369 s369a w369a [0,1] (cuts:=[]) trivial (fun _=>by kernel_rfl) (by decide +kernel) (Ur N) (fun x=>by kernel_rfl))
@[reducible] def s348:SP:=⟨[.adr 0 [],.ro (.int .i64),.ro (.int .i64),.int .i64],[.var 345 (.agg [.str,.int .i64,.int .i64])]⟩
noncomputable def ab0 (N:Nat):List (Nat×(Pk→Tr Pk)):=[(368,au5 N),(366,VU s366.I (WH N) (Ld N)),(369,VU s369.I (aN7 N) (Zp N))]
theorem gM (N:Nat):ai Tryz.prog (ab0 N):=⟨Lc N,mC (Bo N) (uA N),mC (WF N) (TC N),trivial⟩
@[reducible] def kz:LD:=⟨254,[14,10,0,12,3,15],[(.ret,[8,9]),(.exit 0,[8,9])],⟨[.sl 1,.nilp,.adr 0 [],.nilp,.int .i64,.int .i64],[.var 345 (.agg [.str,.int .i64,.int .i64]),.row y4 281]⟩,[]⟩
abbrev vI:Type:=Int×Int×ByteArray×Int×Int×(List (Int×(Int×(Int×Unit))))
abbrev uT:Type:=Unit
noncomputable def Hu (N:Nat) (f:vI→Option uT):vI→Option uT
 | (x0,x1,x2,x3,x4,x5) =>
 Option.bind (Qu N (x2,x3,x4)) fun y0 =>
 none
noncomputable def oC (N:Nat):Nat→vI→Option uT
 | 0,_=>none
 | k+1,x=>Hu N (oC N k) x
noncomputable def kL (N:Nat) (k:Nat):Cut:=kz.cut (oC N k)
theorem gv (N:Nat) (k:Nat):ak Tryz.prog false Tryz.f348 [0] 254 (kL N k) :=
 kz.loopT ag am (gM N) Tryz.f348 [0] (cuts:=[]) trivial (by decide +kernel) (by kernel_rfl) (Hu N) (oC N) (fun _=>rfl) (fun _ _=>rfl) (fun f x=>by kernel_rfl) k
@[reducible] def lA:LD:=⟨254,[14,10,0,12,3,15],[(.ret,[8,9]),(.exit 0,[8,9])],⟨[.sl 1,.nilp,.adr 0 [],.adr 2 [],.int .i64,.int .i64],[.var 345 (.agg [.str,.int .i64,.int .i64]),.row y4 281,.var 397 (.agg [.arr (.int .i64) 16,.sl 3,.int .i64]),.row (.int .i64) 3]⟩,[]⟩
abbrev qs:Type:=Int×Int×ByteArray×Int×Int×(List (Int×(Int×(Int×Unit))))×(List Int)×Int×(List Int)
abbrev p9:Type:=Unit
noncomputable def Ac (N:Nat) (f:qs→Option p9):qs→Option p9
 | (x0,x1,x2,x3,x4,x5,x6,x7,x8) =>
 Option.bind (Qu N (x2,x3,x4)) fun y0 =>
 none
noncomputable def lI (N:Nat):Nat→qs→Option p9
 | 0,_=>none
 | k+1,x=>Ac N (lI N k) x
noncomputable def lP (N:Nat) (k:Nat):Cut:=lA.cut (lI N k)
theorem jo (N:Nat) (k:Nat):ak Tryz.prog false Tryz.f348 [0] 254 (lP N k) :=
 lA.loopT ag am (gM N) Tryz.f348 [0] (cuts:=[(254,kL N N)]) ⟨gv N N,trivial⟩ (by decide +kernel) (by kernel_rfl) (Ac N) (lI N) (fun _=>rfl) (fun _ _=>rfl) (fun f x=>by kernel_rfl) k
@[reducible] def qy:LD:=⟨254,[14,10,0,12,3,15],[(.ret,[8,9]),(.exit 0,[8,9])],⟨[.sl 1,.adr 2 [],.adr 0 [],.nilp,.int .i64,.int .i64],[.var 345 (.agg [.str,.int .i64,.int .i64]),.row y4 281,.var 397 (.agg [.arr (.int .i64) 16,.sl 3,.int .i64]),.row (.int .i64) 3]⟩,[(.ret,⟨[.sl 1,.int .i64],[.var 345 (.agg [.str,.int .i64,.int .i64]),.row y4 281]⟩)]⟩
abbrev qq:Type:=Int×Int×ByteArray×Int×Int×(List (Int×(Int×(Int×Unit))))×(List Int)×Int×(List Int)
abbrev p8:Type:=Int×ByteArray×Int×Int×(List (Int×(Int×(Int×Unit))))
noncomputable def Ab (N:Nat) (f:qq→Option p8):qq→Option p8
 | (x0,x1,x2,x3,x4,x5,x6,x7,x8) =>
 Option.bind (zp N (x6,x7,x2,x3,x4,x8)) fun(y0_0,y0_1,y0_2,y0_3,y0_4,y0_5,y0_6,y0_7) =>
 ac (y0_1 != (0:Int)) (
  some ((y0_1,y0_4,y0_5,y0_6,[]))) (
  ac (y0_0==(256:Int)) (
   some (((0:Int),y0_4,y0_5,y0_6,x5))) (
   ac (decide (y0_0>(256:Int))) (
    Option.bind (ay8 N (y0_0,y0_4,y0_5,y0_6)) fun(y1_0,y1_1,y1_2,y1_3,y1_4,y1_5,y1_6) =>
    ac (y1_3 != (0:Int)) (
     some ((y1_3,y1_4,y1_5,y1_6,[]))) (
     ac (decide (IntKind.wrap IntKind.i64 (x1+if (1:Int)>y1_1 then (1:Int) else y1_1)>x0)) (
      some (((4:Int),y1_4,y1_5,y1_6,[]))) (
      ac (decide ((List.length x5+List.length [(y1_0,y1_1,y1_2,())])*(24:Nat)≤(140737488355328:Nat)∧List.length x5+List.length [(y1_0,y1_1,y1_2,())]≤(140737488355328:Nat))) (
       Option.bind (f (x0,IntKind.wrap IntKind.i64 (x1+if (1:Int)>y1_1 then (1:Int) else y1_1),y1_4,y1_5,y1_6,x5++[(y1_0,y1_1,y1_2,())],y0_2,y0_3,y0_7)) fun r=>some r) (
       none )))) (
    ac (decide (IntKind.wrap IntKind.i64 (x1+(1:Int))>x0)) (
     some (((4:Int),y0_4,y0_5,y0_6,[]))) (
     ac (decide ((List.length x5+List.length [(y0_0,(0:Int),(0:Int),())])*(24:Nat)≤(140737488355328:Nat)∧List.length x5+List.length [(y0_0,(0:Int),(0:Int),())]≤(140737488355328:Nat))) (
      Option.bind (f (x0,IntKind.wrap IntKind.i64 (x1+(1:Int)),y0_4,y0_5,y0_6,x5++[(y0_0,(0:Int),(0:Int),())],y0_2,y0_3,y0_7)) fun r=>some r) (
      none )))))
noncomputable def lH (N:Nat):Nat→qq→Option p8
 | 0,_=>none
 | k+1,x=>Ab N (lH N k) x
noncomputable def qK (N:Nat) (k:Nat):Cut:=qy.cut (lH N k)
theorem oS (N:Nat) (k:Nat):ak Tryz.prog false Tryz.f348 [0] 254 (qK N k) :=
 qy.loopT ag am (gM N) Tryz.f348 [0] (cuts:=[(254,DG kz.s.I (kL N N) (lP N N))]) ⟨fun c' h=>cA (gv N N c' h) (jo N N c' h) rfl rfl,trivial⟩ (by decide +kernel) (by kernel_rfl) (Ab N) (lH N) (fun _=>rfl) (fun _ _=>rfl) (fun f x=>by kernel_rfl) k
@[reducible] def zg:LD:=⟨254,[14,10,0,12,3,15],[(.ret,[8,9]),(.exit 0,[8,9])],⟨[.sl 1,.adr 2 [],.adr 0 [],.adr 3 [],.int .i64,.int .i64],[.var 345 (.agg [.str,.int .i64,.int .i64]),.row y4 281,.var 397 (.agg [.arr (.int .i64) 16,.sl 4,.int .i64]),.var 397 (.agg [.arr (.int .i64) 16,.sl 5,.int .i64]),.row (.int .i64) 3,.row (.int .i64) 3]⟩,[(.ret,⟨[.sl 1,.int .i64],[.var 345 (.agg [.str,.int .i64,.int .i64]),.row y4 281]⟩)]⟩
abbrev qp:Type:=Int×Int×ByteArray×Int×Int×(List (Int×(Int×(Int×Unit))))×(List Int)×Int×(List Int)×Int×(List Int)×(List Int)
abbrev p7:Type:=Int×ByteArray×Int×Int×(List (Int×(Int×(Int×Unit))))
noncomputable def Aa (N:Nat) (f:qp→Option p7):qp→Option p7
 | (x0,x1,x2,x3,x4,x5,x6,x7,x8,x9,x10,x11) =>
 Option.bind (zp N (x6,x7,x2,x3,x4,x10)) fun(y0_0,y0_1,y0_2,y0_3,y0_4,y0_5,y0_6,y0_7) =>
 ac (y0_1 != (0:Int)) (
  some ((y0_1,y0_4,y0_5,y0_6,[]))) (
  ac (y0_0==(256:Int)) (
   some (((0:Int),y0_4,y0_5,y0_6,x5))) (
   ac (decide (y0_0>(256:Int))) (
    Option.bind (Ur N (y0_0,y0_4,y0_5,y0_6,x8,x9,x11)) fun(y1_0,y1_1,y1_2,y1_3,y1_4,y1_5,y1_6,y1_7,y1_8,y1_9) =>
    ac (y1_3 != (0:Int)) (
     some ((y1_3,y1_4,y1_5,y1_6,[]))) (
     ac (decide (IntKind.wrap IntKind.i64 (x1+if (1:Int)>y1_1 then (1:Int) else y1_1)>x0)) (
      some (((4:Int),y1_4,y1_5,y1_6,[]))) (
      ac (decide ((List.length x5+List.length [(y1_0,y1_1,y1_2,())])*(24:Nat)≤(140737488355328:Nat)∧List.length x5+List.length [(y1_0,y1_1,y1_2,())]≤(140737488355328:Nat))) (
       Option.bind (f (x0,IntKind.wrap IntKind.i64 (x1+if (1:Int)>y1_1 then (1:Int) else y1_1),y1_4,y1_5,y1_6,x5++[(y1_0,y1_1,y1_2,())],y0_2,y0_3,y1_7,y1_8,y0_7,y1_9)) fun r=>some r) (
       none )))) (
    ac (decide (IntKind.wrap IntKind.i64 (x1+(1:Int))>x0)) (
     some (((4:Int),y0_4,y0_5,y0_6,[]))) (
     ac (decide ((List.length x5+List.length [(y0_0,(0:Int),(0:Int),())])*(24:Nat)≤(140737488355328:Nat)∧List.length x5+List.length [(y0_0,(0:Int),(0:Int),())]≤(140737488355328:Nat))) (
      Option.bind (f (x0,IntKind.wrap IntKind.i64 (x1+(1:Int)),y0_4,y0_5,y0_6,x5++[(y0_0,(0:Int),(0:Int),())],y0_2,y0_3,x8,x9,y0_7,x11)) fun r=>some r) (
      none )))))
noncomputable def lG (N:Nat):Nat→qp→Option p7
 | 0,_=>none
 | k+1,x=>Aa N (lG N k) x
noncomputable def zS (N:Nat) (k:Nat):Cut:=zg.cut (lG N k)
theorem DD (N:Nat) (k:Nat):ak Tryz.prog false Tryz.f348 [0] 254 (zS N k) :=
 zg.loopT ag am (gM N) Tryz.f348 [0] (cuts:=[(254,DG kz.s.I (kL N N) (DG lA.s.I (lP N N) (qK N N)))]) ⟨fun c' h=>cA (gv N N c' h) (cA (jo N N c' h) (oS N N c' h) rfl rfl) rfl rfl,trivial⟩ (by decide +kernel) (by kernel_rfl) (Aa N) (lG N) (fun _=>rfl) (fun _ _=>rfl) (fun f x=>by kernel_rfl) k
@[reducible] def w348:List SP:=[⟨[.tup [.sl 1,.int .i64]],[.var 345 (.agg [.str,.int .i64,.int .i64]),.row y4 281]⟩]
noncomputable def Uw (N:Nat):((List Int)×(List Int)×Int×ByteArray×Int×Int)→Option (Int×ByteArray×Int×Int×(List (Int×(Int×(Int×Unit)))))
 | (x0,x1,x2,x3,x4,x5) =>
 Option.bind (Qt N x0) fun y0 =>
 match y0 with
 | .inl y1 =>
  Option.bind (Qt N x1) fun y2 =>
  match y2 with
  | .inl y3 =>
   ac (y1 != (0:Int)) (
    some (((50:Int),x3,x4,x5,[]))) (
    ac (y3 != (0:Int)) (
     some (((50:Int),x3,x4,x5,[]))) (
     Option.bind (oC N N (x2,(0:Int),x3,x4,x5,[])) fun y4 =>
     none))
  | .inr y3 =>
   ac (y1 != (0:Int)) (
    some (((50:Int),x3,x4,x5,[]))) (
    ac (y3.1 != (0:Int)) (
     some (((50:Int),x3,x4,x5,[]))) (
     Option.bind (lI N N (x2,(0:Int),x3,x4,x5,[],y3.2.1,y3.2.2.1,y3.2.2.2)) fun y5 =>
     none))
 | .inr y1 =>
  Option.bind (Qt N x1) fun y6 =>
  match y6 with
  | .inl y7 =>
   ac (y1.1 != (0:Int)) (
    some (((50:Int),x3,x4,x5,[]))) (
    ac (y7 != (0:Int)) (
     some (((50:Int),x3,x4,x5,[]))) (
     Option.bind (lH N N (x2,(0:Int),x3,x4,x5,[],y1.2.1,y1.2.2.1,y1.2.2.2)) fun y8 =>
     some ((y8.1,y8.2.1,y8.2.2.1,y8.2.2.2.1,y8.2.2.2.2))))
  | .inr y7 =>
   ac (y1.1 != (0:Int)) (
    some (((50:Int),x3,x4,x5,[]))) (
    ac (y7.1 != (0:Int)) (
     some (((50:Int),x3,x4,x5,[]))) (
     Option.bind (lG N N (x2,(0:Int),x3,x4,x5,[],y1.2.1,y1.2.2.1,y7.2.1,y7.2.2.1,y1.2.2.2,y7.2.2.2)) fun y9 =>
     some ((y9.1,y9.2.1,y9.2.2.1,y9.2.2.2.1,y9.2.2.2.2))))
noncomputable def aO6 (N:Nat):Pk→Tr Pk:=ah s348 w348 (Uw N)
theorem WQ (N:Nat):av Tryz.prog (348) (aO6 N) :=
 (af ag am (gM N) Tryz.func348 s348 w348 [0] (cuts:=[(254,DG kz.s.I (kL N N) (DG lA.s.I (lP N N) (DG qy.s.I (qK N N) (zS N N))))]) ⟨fun c' h=>cA (gv N N c' h) (cA (jo N N c' h) (cA (oS N N c' h) (DD N N c' h) rfl rfl) rfl rfl) rfl rfl,trivial⟩ (fun _=>by kernel_rfl) (by decide +kernel) (Uw N) (fun x=>by kernel_rfl))
@[reducible] def s350:SP:=⟨[.str,.ro y4],[]⟩
noncomputable def aa8 (N:Nat):List (Nat×(Pk→Tr Pk)):=[(229,Qn N),(335,TE N)]
theorem pa (N:Nat):ai Tryz.prog (aa8 N):=⟨oe N,sg N,trivial⟩
@[reducible] def wh:LD:=⟨62670,[6,43,42,15,7,16,17,9],[(.ret,[4,5]),(.exit 3,[17,16,7,15,6]),(.exit 1,[17,16,7,15,6]),(.exit 0,[6,7])],⟨[.sl 0,.int .i64,.int .i64,.ro y4,.int .i64,.int .i64,.int .i64,.adr 1 []],[.row (.int .u8) 5,.var 281 (.agg [.int .i64,.int .i64,.int .i64])]⟩,[(.exit 3,⟨[.int .i64,.int .i64,.int .i64,.ro y4,.sl 0],[.row (.int .u8) 5]⟩)]⟩
abbrev mV:Type:=Int×Int×(List (Int×(Int×(Int×Unit))))×Int×Int×Int×(List Int)×Int×Int×Int
abbrev mN:Type:=Int×Int×Int×(List (Int×(Int×(Int×Unit))))×(List Int)
noncomputable def wQ (N:Nat) (f:mV→Option mN):mV→Option mN
 | (x0,x1,x2,x3,x4,x5,x6,x7,x8,x9) =>
 ac (decide (x0<x1)) (
  ac (within (IntKind.wrap IntKind.i64 ((↑(List.length x6):Int)-x9)) (List.length x6)) (
   Option.bind (x6[Int.toNat (IntKind.wrap IntKind.i64 ((↑(List.length x6):Int)-x9))]?) fun y0 =>
   ac (decide ((List.length x6+List.length [y0])*(1:Nat)≤(140737488355328:Nat)∧List.length x6+List.length [y0]≤(140737488355328:Nat))) (
    Option.bind (f (IntKind.wrap IntKind.i64 (x0+(1:Int)),x1,x2,x3,x4,x5,x6++[y0],x7,x8,x9)) fun r=>some r) (
    none )) (
   none )) (
  some ((x5,x4,x3,x2,x6)))
noncomputable def fI (N:Nat):Nat→mV→Option mN
 | 0,_=>none
 | k+1,x=>wQ N (fI N k) x
noncomputable def nh (N:Nat) (k:Nat):Cut:=wh.cut (fI N k)
theorem mi (N:Nat) (k:Nat):ak Tryz.prog false Tryz.f350 [] 62670 (nh N k) :=
 wh.loopT ag am (pa N) Tryz.f350 [] (cuts:=[]) trivial (by decide +kernel) (by kernel_rfl) (wQ N) (fI N) (fun _=>rfl) (fun _ _=>rfl) (fun f x=>by kernel_rfl) k
@[reducible] def Fs:LD:=⟨122,[17,16,7,15,6],[(.ret,[4,5]),(.exit 0,[6,7])],⟨[.int .i64,.int .i64,.int .i64,.ro y4,.sl 0],[.row (.int .u8) 5]⟩,[(.ret,⟨[.str,.int .i64],[]⟩),(.exit 0,⟨[.sl 0,.int .i64],[.row (.int .u8) 5]⟩)]⟩
abbrev vG:Type:=Int×Int×Int×(List (Int×(Int×(Int×Unit))))×(List Int)
abbrev uR:Type:=((ByteArray×Int)⊕(Int×(List Int)))
noncomputable def Ht (N:Nat) (f:vG→Option uR):vG→Option uR
 | (x0,x1,x2,x3,x4) =>
 ac (decide (x0<x1)) (
  ac (within x0 (List.length x3)) (
   Option.bind (x3[Int.toNat x0]?) fun y0 =>
   Option.bind (Qx N (y0.1,y0.2.1,y0.2.2.1)) fun y1 =>
   ac (!y1) (
    some (.inl ((ByteArray.mk #[],(1:Int))))) (
    ac (y0.2.1==(0:Int)) (
     ac (decide ((List.length x4+List.length [IntKind.wrap IntKind.u8 y0.1])*(1:Nat)≤(140737488355328:Nat)∧List.length x4+List.length [IntKind.wrap IntKind.u8 y0.1]≤(140737488355328:Nat))) (
      Option.bind (fI N N ((0:Int),y0.2.1,x3,x2,x1,x0,x4++[IntKind.wrap IntKind.u8 y0.1],y0.1,y0.2.1,y0.2.2.1)) fun y2 =>
      Option.bind (f (IntKind.wrap IntKind.i64 (y2.1+(1:Int)),y2.2.1,y2.2.2.1,y2.2.2.2.1,y2.2.2.2.2)) fun r=>match r with|.inl y=>some (.inl y)|.inr y=>some (.inr y)) (
      none )) (
     ac (decide (y0.2.2.1>(↑(List.length x4):Int))) (
      some (.inl ((ByteArray.mk #[],(60:Int))))) (
      Option.bind (fI N N ((0:Int),y0.2.1,x3,x2,x1,x0,x4,y0.1,y0.2.1,y0.2.2.1)) fun y3 =>
      Option.bind (f (IntKind.wrap IntKind.i64 (y3.1+(1:Int)),y3.2.1,y3.2.2.1,y3.2.2.2.1,y3.2.2.2.2)) fun r=>match r with|.inl y=>some (.inl y)|.inr y=>some (.inr y))))) (
   none )) (
  some (.inr ((x2,x4))))
noncomputable def oB (N:Nat):Nat→vG→Option uR
 | 0,_=>none
 | k+1,x=>Ht N (oB N k) x
noncomputable def GK (N:Nat) (k:Nat):Cut:=Fs.cut (oB N k)
theorem GJ (N:Nat) (k:Nat):ak Tryz.prog false Tryz.f350 [] 122 (GK N k) :=
 Fs.loopT ag am (pa N) Tryz.f350 [] (cuts:=[(62670,nh N N)]) ⟨mi N N,trivial⟩ (by decide +kernel) (by kernel_rfl) (Ht N) (oB N) (fun _=>rfl) (fun _ _=>rfl) (fun f x=>by kernel_rfl) k
@[reducible] def w350:List SP:=[⟨[.tup [.str,.int .i64]],[]⟩]
noncomputable def Uv (N:Nat):(ByteArray×(List (Int×(Int×(Int×Unit)))))→Option (ByteArray×Int)
 | (x0,x1) =>
 Option.bind (Jj N x0) fun y0 =>
 ac (decide (ByteArray.size y0≤(140737488355328:Nat))) (
  Option.bind (oB N N ((0:Int),(↑(List.length x1):Int),(↑(List.length (bytesOf y0)):Int),x1,bytesOf y0)) fun y1 =>
  match y1 with
  | .inl y2 =>
   some ((y2.1,y2.2))
  | .inr y2 =>
   ac (decide ((0:Int)≤y2.1∧y2.1≤(↑(List.length y2.2):Int))) (
    some ((aE (List.take (List.length y2.2-Int.toNat y2.1) (List.drop (Int.toNat y2.1) y2.2)),(0:Int)))) (
    none )) (
  none )
noncomputable def aO5 (N:Nat):Pk→Tr Pk:=ah s350 w350 (Uv N)
theorem WO (N:Nat):av Tryz.prog (350) (aO5 N) :=
 (af ag am (pa N) Tryz.func350 s350 w350 [] (cuts:=[(62670,nh N N),(122,GK N N)]) ⟨mi N N,GJ N N,trivial⟩ (fun _=>by kernel_rfl) (by decide +kernel) (Uv N) (fun x=>by kernel_rfl))
@[reducible] def s332:SP:=⟨[.adr 0 [],.int .i64,.str,.int .i64],[.var 345 (.agg [.str,.int .i64,.int .i64])]⟩
noncomputable def ac3 (N:Nat):List (Nat×(Pk→Tr Pk)):=[(336,av5 N),(347,aO7 N),(348,aO6 N),(349,WP N),(350,aO5 N)]
theorem Ou (N:Nat):ai Tryz.prog (ac3 N):=⟨Lo N,WR N,WQ N,Bp N,WO N,trivial⟩
@[reducible] def w332:List SP:=[⟨[.tup [.str,.int .i64]],[.var 345 (.agg [.str,.int .i64,.int .i64])]⟩]
noncomputable def YK (N:Nat):(Int×ByteArray×Int×ByteArray×Int×Int)→Option (ByteArray×Int×ByteArray×Int×Int)
 | (x0,x1,x2,x3,x4,x5) =>
 Option.bind (YJ N ()) fun y0 =>
 ac (x0==(2:Int)) (
  Option.bind (az3 N (x3,x4,x5)) fun y1 =>
  match y1 with
  | .inl (y2_0,y2_1,y2_2,y2_3,y2_4,y2_5) =>
   ac (y2_0 != (0:Int)) (
    some ((ByteArray.mk #[],y2_0,y2_1,y2_2,y2_3))) (
    Option.bind (Uw N (y2_4,y2_5,x2,y2_1,y2_2,y2_3)) fun y3 =>
    ac (y3.1 != (0:Int)) (
     Option.bind (FU N y3.1) fun y4 =>
     some ((ByteArray.mk #[],y4,y3.2.1,y3.2.2.1,y3.2.2.2.1))) (
     Option.bind (Uv N (x1,y3.2.2.2.2)) fun y5 =>
     some ((y5.1,y5.2,y3.2.1,y3.2.2.1,y3.2.2.2.1))))
  | .inr (y2_0,y2_1,y2_2,y2_3,y2_4,y2_5,y2_6,y2_7) =>
   ac (y2_3 != (0:Int)) (
    some ((ByteArray.mk #[],y2_3,y2_4,y2_5,y2_6))) (
    Option.bind (Uw N (List.take y2_0 y2_7,List.take y2_2 (List.drop y2_1 y2_7),x2,y2_4,y2_5,y2_6)) fun y6 =>
    ac (y6.1 != (0:Int)) (
     Option.bind (FU N y6.1) fun y7 =>
     some ((ByteArray.mk #[],y7,y6.2.1,y6.2.2.1,y6.2.2.2.1))) (
     Option.bind (Uv N (x1,y6.2.2.2.2)) fun y8 =>
     some ((y8.1,y8.2,y6.2.1,y6.2.2.1,y6.2.2.2.1))))) (
  Option.bind (Uw N (y0.1,y0.2,x2,x3,x4,x5)) fun y9 =>
  ac (y9.1 != (0:Int)) (
   Option.bind (FU N y9.1) fun y10 =>
   some ((ByteArray.mk #[],y10,y9.2.1,y9.2.2.1,y9.2.2.2.1))) (
   Option.bind (Uv N (x1,y9.2.2.2.2)) fun y11 =>
   some ((y11.1,y11.2,y9.2.1,y9.2.2.1,y9.2.2.2.1))))
noncomputable def aP5 (N:Nat):Pk→Tr Pk:=ah s332 w332 (YK N)
theorem W0 (N:Nat):av Tryz.prog (332) (aP5 N) :=
 (af ag am (Ou N) Tryz.func332 s332 w332 [0] (cuts:=[]) trivial (fun _=>by kernel_rfl) (by decide +kernel) (YK N) (fun x=>by kernel_rfl))
@[reducible] def s306:SP:=⟨[.adr 0 [],.str,.int .i64],[.var 345 (.agg [.str,.int .i64,.int .i64])]⟩
noncomputable def ad5 (N:Nat):List (Nat×(Pk→Tr Pk)):=[(329,xh N),(330,Bq N),(331,aP6 N),(332,aP5 N)]
theorem OC (N:Nat):ai Tryz.prog (ad5 N):=⟨eI N,gi N,W1 N,W0 N,trivial⟩
@[reducible] def w306:List SP:=[⟨[.tup [.str,.bool,.int .i64,.int .i64]],[.var 345 (.agg [.str,.int .i64,.int .i64])]⟩]
noncomputable def aA5 (N:Nat):(ByteArray×Int×ByteArray×Int×Int)→Option (ByteArray×Bool×Int×Int×ByteArray×Int×Int)
 | (x0,x1,x2,x3,x4) =>
 Option.bind (kE N ((1:Int),x2,x3,x4)) fun y0 =>
 Option.bind (kE N ((2:Int),y0.2.1,y0.2.2.1,y0.2.2.2)) fun y1 =>
 Option.bind (oG N (y1.2.1,y1.2.2.1,y1.2.2.2,())) fun y2 =>
 ac (y2 != (0:Int)) (
  some ((ByteArray.mk #[],false,(0:Int),y2,y1.2.1,y1.2.2.1,y1.2.2.2))) (
  ac (y1.1==(0:Int)) (
   Option.bind (az8 N (x1,y1.2.1,y1.2.2.1,y1.2.2.2)) fun y3 =>
   ac (y3.2.1 != (0:Int)) (
    some ((ByteArray.mk #[],false,(0:Int),y3.2.1,y3.2.2.1,y3.2.2.2.1,y3.2.2.2.2))) (
    some ((y3.1,y0.1==(1:Int),y1.1,(0:Int),y3.2.2.1,y3.2.2.2.1,y3.2.2.2.2)))) (
   ac (y1.1==(1:Int)) (
    Option.bind (YK N (y1.1,x0,x1,y1.2.1,y1.2.2.1,y1.2.2.2)) fun y4 =>
    ac (y4.2.1 != (0:Int)) (
     some ((ByteArray.mk #[],false,(0:Int),y4.2.1,y4.2.2.1,y4.2.2.2.1,y4.2.2.2.2))) (
     some ((y4.1,y0.1==(1:Int),y1.1,(0:Int),y4.2.2.1,y4.2.2.2.1,y4.2.2.2.2)))) (
    ac (y1.1==(2:Int)) (
     Option.bind (YK N (y1.1,x0,x1,y1.2.1,y1.2.2.1,y1.2.2.2)) fun y5 =>
     ac (y5.2.1 != (0:Int)) (
      some ((ByteArray.mk #[],false,(0:Int),y5.2.1,y5.2.2.1,y5.2.2.2.1,y5.2.2.2.2))) (
      some ((y5.1,y0.1==(1:Int),y1.1,(0:Int),y5.2.2.1,y5.2.2.2.1,y5.2.2.2.2)))) (
     some ((ByteArray.mk #[],false,(0:Int),(80:Int),y1.2.1,y1.2.2.1,y1.2.2.2))))))
noncomputable def aQ2 (N:Nat):Pk→Tr Pk:=ah s306 w306 (aA5 N)
theorem W8 (N:Nat):av Tryz.prog (306) (aQ2 N) :=
 (af ag am (OC N) Tryz.func306 s306 w306 [0] (cuts:=[]) trivial (fun _=>by kernel_rfl) (by decide +kernel) (aA5 N) (fun x=>by kernel_rfl))
@[reducible] def s263:SP:=⟨[.str,.str,.int .i64],[]⟩
noncomputable def af1 (N:Nat):List (Nat×(Pk→Tr Pk)):=[(283,aQ8 N),(305,W9 N),(229,Qn N),(306,aQ2 N)]
theorem xU (N:Nat):ai Tryz.prog (af1 N):=⟨Xf N,Bs N,oe N,W8 N,trivial⟩
@[reducible] def FB:LD:=⟨124,[10,9,8,0,2],[(.ret,[6,7]),(.exit 0,[10,9])],⟨[.bool,.str,.adr 0 [],.str,.int .i64],[.var 345 (.agg [.str,.int .i64,.int .i64])]⟩,[(.ret,⟨[.str,.int .i64],[]⟩),(.exit 0,⟨[.bool,.str],[]⟩)]⟩
abbrev vQ:Type:=Bool×ByteArray×ByteArray×Int×ByteArray×Int×Int
abbrev u6:Type:=((ByteArray×Int)⊕(Bool×ByteArray))
noncomputable def HB (N:Nat) (f:vQ→Option u6):vQ→Option u6
 | (x0,x1,x2,x3,x4,x5,x6) =>
 Option.bind (QA N (x4,x5,x6,())) fun y0 =>
 ac (decide (y0>(0:Int))) (
  ac (decide ((↑(ByteArray.size x2+ByteArray.size x1):Int)>(9223372036854775807:Int))) (
   none ) (
   Option.bind (Jj N (x2++x1)) fun y1 =>
   Option.bind (aA5 N (y1,IntKind.wrap IntKind.i64 (x3-(↑(ByteArray.size x1):Int)),x4,x5,x6)) fun(y2_0,y2_1,y2_2,y2_3,y2_4,y2_5,y2_6) =>
   ac (y2_3 != (0:Int)) (
    some (.inl ((ByteArray.mk #[],y2_3)))) (
    ac (y2_1) (
     some (.inl ((ByteArray.mk #[],(81:Int))))) (
     ac (decide ((↑(ByteArray.size x1+ByteArray.size y2_0):Int)>(9223372036854775807:Int))) (
      none ) (
      ac (y2_2==(0:Int)) (
       Option.bind (f (ByteArray.toList y2_0==[],x1++y2_0,x2,x3,y2_4,y2_5,y2_6)) fun r=>match r with|.inl y=>some (.inl y)|.inr y=>some (.inr y)) (
       Option.bind (f (false,x1++y2_0,x2,x3,y2_4,y2_5,y2_6)) fun r=>match r with|.inl y=>some (.inl y)|.inr y=>some (.inr y))))))) (
  some (.inr ((x0,x1))))
noncomputable def oJ (N:Nat):Nat→vQ→Option u6
 | 0,_=>none
 | k+1,x=>HB N (oJ N k) x
noncomputable def G0 (N:Nat) (k:Nat):Cut:=FB.cut (oJ N k)
theorem GZ (N:Nat) (k:Nat):ak Tryz.prog false Tryz.f263 [] 124 (G0 N k) :=
 FB.loopT ag am (xU N) Tryz.f263 [] (cuts:=[]) trivial (by decide +kernel) (by kernel_rfl) (HB N) (oJ N) (fun _=>rfl) (fun _ _=>rfl) (fun f x=>by kernel_rfl) k
@[reducible] def w263:List SP:=[⟨[.tup [.str,.int .i64]],[]⟩]
noncomputable def YR (N:Nat):(ByteArray×ByteArray×Int)→Option (ByteArray×Int)
 | (x0,x1,x2) =>
 Option.bind (aA8 N x1) fun y0 =>
 Option.bind (oJ N N (false,ByteArray.mk #[],x0,x2,y0.1,y0.2.1,y0.2.2)) fun y1 =>
 match y1 with
 | .inl y2 =>
  some ((y2.1,y2.2))
 | .inr y2 =>
  ac (!y2.1) (
   some ((ByteArray.mk #[],(81:Int)))) (
   some ((y2.2,(0:Int))))
noncomputable def aR4 (N:Nat):Pk→Tr Pk:=ah s263 w263 (YR N)
theorem Xl (N:Nat):av Tryz.prog (263) (aR4 N) :=
 (af ag am (xU N) Tryz.func263 s263 w263 [] (cuts:=[(124,G0 N N)]) ⟨GZ N N,trivial⟩ (fun _=>by kernel_rfl) (by decide +kernel) (YR N) (fun x=>by kernel_rfl))
@[reducible] def s207:SP:=⟨[.adr 0 [],.str,.int .i64],[.var 119 (.agg [.agg [.bool,.str],.int .i64])]⟩
noncomputable def ah8 (N:Nat):List (Nat×(Pk→Tr Pk)):=[(246,aR7 N),(263,aR4 N)]
theorem O4 (N:Nat):ai Tryz.prog (ah8 N):=⟨Xo N,Xl N,trivial⟩
@[reducible] def w207:List SP:=[⟨[.tup [.str,.int .i64]],[.var 119 (.agg [.agg [.bool,.str],.int .i64])]⟩]
noncomputable def aB2 (N:Nat):(ByteArray×Int×Bool×ByteArray×Int)→Option (ByteArray×Int×Bool×ByteArray×Int)
 | (x0,x1,x2,x3,x4) =>
 ac (!x2) (
  Option.bind (aB0 N x0) fun y0 =>
  ac (y0 != (0:Int)) (
   some ((ByteArray.mk #[],y0,x2,x3,x4))) (
   ac (decide ((0:Int)≤(2:Int)∧(2:Int)≤(↑(ByteArray.size x0):Int))) (
    Option.bind (YR N (x3,ByteArray.extract x0 (2:Nat) (ByteArray.size x0),x1)) fun y1 =>
    some ((y1.1,y1.2,x2,x3,x4))) (
    none ))) (
  Option.bind (YR N (x3,x0,x1)) fun y2 =>
  some ((y2.1,y2.2,x2,x3,x4)))
noncomputable def aT2 (N:Nat):Pk→Tr Pk:=ah s207 w207 (aB2 N)
theorem XG (N:Nat):av Tryz.prog (207) (aT2 N) :=
 (af ag am (O4 N) Tryz.func207 s207 w207 [0] (cuts:=[]) trivial (fun _=>by kernel_rfl) (by decide +kernel) (aB2 N) (fun x=>by kernel_rfl))
@[reducible] def s163a:SP:=⟨[.adr 0 [.f 0 0],.str],[.var 119 (.agg [.agg [.bool,.str],.int .i64])]⟩
noncomputable def VF (N:Nat):List (Nat×(Pk→Tr Pk)):=[(229,Qn N)]
theorem HW (N:Nat):ai Tryz.prog (VF N):=⟨oe N,trivial⟩
@[reducible] def w163a:List SP:=[⟨[.tup []],[.var 119 (.agg [.agg [.bool,.str],.int .i64])]⟩]
noncomputable def UV (N:Nat):(ByteArray×Bool×ByteArray×Int)→Option (Bool×ByteArray×Int)
 | (x0,x1,x2,x3) =>
 ac (decide ((↑(ByteArray.size x2+ByteArray.size x0):Int)>(9223372036854775807:Int))) (
  none ) (
  Option.bind (Jj N (x2++x0)) fun y0 =>
  some ((true,y0,x3)))
noncomputable def Zr (N:Nat):Pk→Tr Pk:=ah s163a w163a (UV N)
theorem TJ (N:Nat):av Tryz.prog (163) (Zr N) :=
 (af ag am (HW N) Tryz.func163 s163a w163a [0] (cuts:=[]) trivial (fun _=>by kernel_rfl) (by decide +kernel) (UV N) (fun x=>by kernel_rfl))
@[reducible] def s136:SP:=⟨[.adr 0 [],.str,.int .i64],[.var 119 (.agg [.agg [.bool,.str],.int .i64])]⟩
noncomputable def al3 (N:Nat):List (Nat×(Pk→Tr Pk)):=[(207,aT2 N),(163,Zr N)]
theorem Ps (N:Nat):ai Tryz.prog (al3 N):=⟨XG N,TJ N,trivial⟩
@[reducible] def w136:List SP:=[⟨[.tup [.str,.int .i64]],[.var 119 (.agg [.agg [.bool,.str],.int .i64])]⟩]
noncomputable def aB6 (N:Nat):(ByteArray×Int×Bool×ByteArray×Int)→Option (ByteArray×Int×Bool×ByteArray×Int)
 | (x0,x1,x2,x3,x4) =>
 ac (x4 != (0:Int)) (
  some ((ByteArray.mk #[],x4,x2,x3,x4))) (
  Option.bind (aB2 N (x0,x1,x2,x3,x4)) fun y0 =>
  Option.bind (UV N (y0.1,y0.2.2.1,y0.2.2.2.1,y0.2.1)) fun y1 =>
  some ((y0.1,y0.2.1,y1.1,y1.2.1,y1.2.2)))
noncomputable def aV5 (N:Nat):Pk→Tr Pk:=ah s136 w136 (aB6 N)
theorem Ya (N:Nat):av Tryz.prog (136) (aV5 N) :=
 (af ag am (Ps N) Tryz.func136 s136 w136 [0] (cuts:=[]) trivial (fun _=>by kernel_rfl) (by decide +kernel) (aB6 N) (fun x=>by kernel_rfl))
@[reducible] def s106:SP:=⟨[.radr y2 [.i 0 3]],[]⟩
noncomputable def al8 (N:Nat):List (Nat×(Pk→Tr Pk)):=[]
theorem Pw (N:Nat):ai Tryz.prog (al8 N):=trivial
@[reducible] def w106:List SP:=[⟨[.int .i64],[]⟩]
noncomputable def aB8 (N:Nat):((ByteArray×(Int×(Int×Unit))))→Option (Int)
 | x0 =>
 some x0.2.1
noncomputable def aV9 (N:Nat):Pk→Tr Pk:=ah s106 w106 (aB8 N)
theorem Ye (N:Nat):av Tryz.prog (106) (aV9 N) :=
 (af ag am (Pw N) Tryz.func106 s106 w106 [] (cuts:=[]) trivial (fun _=>by kernel_rfl) (by decide +kernel) (aB8 N) (fun x=>by kernel_rfl))
@[reducible] def s79:SP:=⟨[.adr 0 [],.agg [.int .i64,.int .i64,.bool,.bool,.int .i64,.int .i64,.int .i64,.int .i64,.int .i64,.int .i64],.int .i64,.int .i64,.str],[.var 119 (.agg [.agg [.bool,.str],.int .i64])]⟩
noncomputable def aF9 (N:Nat):List (Nat×(Pk→Tr Pk)):=[(35,T35 N),(32,T32 N),(81,T81 N),(105,Qp N),(135,TL N),(84,T84 N),(136,aV5 N),(29,T29 N),(106,aV9 N)]
theorem RG (N:Nat):ai Tryz.prog (aF9 N):=⟨uB N,TF N,II N,oh N,sj N,pR N,Ya N,TH N,Ye N,trivial⟩
@[reducible] def w79:List SP:=[⟨[.tup [.sl 1,.int .i64,.int .i64]],[.var 119 (.agg [.agg [.bool,.str],.int .i64]),.row (.int .i64) 3]⟩]
noncomputable def F79 (N:Nat):(Int×Int×Bool×Bool×Int×Int×Int×Int×Int×Int×Int×Int×ByteArray×Bool×ByteArray×Int)→Option (Int×Int×Bool×ByteArray×Int×(List Int))
 | (x0,x1,x2,x3,x4,x5,x6,x7,x8,x9,x10,x11,x12,x13,x14,x15) =>
 Option.bind (YB N (x0,x1,x2,x3,x4,x5,x6,x7,x8,x9,x10,x11)) fun y0 =>
 ac (!y0) (
  some (((0:Int),(1:Int),x13,x14,x15,[]))) (
  Option.bind (F32 N (x0,x1,x2,x3,x4,x5,x6,x7,x8,x9,x10,x11)) fun y1 =>
  Option.bind (F81 N x12) fun y2 =>
  Option.bind (wE N ((4:Int),y2.1,y2.2.1,y2.2.2)) fun y3 =>
  ac (decide (y3.1>IntKind.wrap IntKind.i64 (y1+(1000:Int)))) (
   some (((0:Int),(4:Int),x13,x14,x15,[]))) (
   Option.bind (nd N (y3.1,y3.2.1,y3.2.2.1,y3.2.2.2)) fun y4 =>
   Option.bind (Vv N (y4.2.1,y4.2.2.1,y4.2.2.2,())) fun y5 =>
   ac (y5 != (0:Int)) (
    some (((0:Int),y5,x13,x14,x15,[]))) (
    Option.bind (aB6 N (y4.1,y1,x13,x14,x15)) fun y6 =>
    ac (y6.2.1 != (0:Int)) (
     some (((0:Int),y6.2.1,y6.2.2.1,y6.2.2.2.1,y6.2.2.2.2,[]))) (
     Option.bind (Zy N (x0,x1,x2,x3,x4,x5,x6,x7,x8,x9,x10,x11,y6.1)) fun y7 =>
     ac (y7.1 != (0:Int)) (
      some (((0:Int),y7.1,y6.2.2.1,y6.2.2.2.1,y6.2.2.2.2,[]))) (
      Option.bind (aB8 N (y4.2.1,y4.2.2.1,y4.2.2.2,())) fun y8 =>
      some ((y8,(0:Int),y6.2.2.1,y6.2.2.2.1,y6.2.2.2.2,y7.2)))))))
noncomputable def T79 (N:Nat):Pk→Tr Pk:=ah s79 w79 (F79 N)
theorem as6 (N:Nat):av Tryz.prog (79) (T79 N) :=
 (af ag am (RG N) Tryz.func79 s79 w79 [0] (cuts:=[]) trivial (fun _=>by kernel_rfl) (by decide +kernel) (F79 N) (fun x=>by kernel_rfl))
@[reducible] def s26:SP:=⟨[],[]⟩
noncomputable def aH6 (N:Nat):List (Nat×(Pk→Tr Pk)):=[(78,T78 N),(29,T29 N),(31,T31 N),(40,T40 N),(79,T79 N)]
theorem RS (N:Nat):ai Tryz.prog (aH6 N):=⟨as7 N,TH N,TG N,at0 N,as6 N,trivial⟩
@[reducible] def w26:List SP:=[⟨[.bool],[]⟩]
noncomputable def F26 (N:Nat):(Unit)→Option (Bool)
 | () =>
 Option.bind (Zx N ()) fun(y0_0,y0_1,y0_2,y0_3,y0_4,y0_5,y0_6,y0_7,y0_8,y0_9) =>
 Option.bind (Zy N (y0_0,y0_1,y0_2,y0_3,y0_4,y0_5,y0_6,y0_7,y0_8,y0_9,(3:Int),(1:Int),ByteArray.mk #[(2:UInt8),(0:UInt8),(255:UInt8),(64:UInt8)])) fun y1 =>
 Option.bind (UA N (y1.2,[(0:Int),(16777215:Int),(0:Int)])) fun y2 =>
 Option.bind (Zx N ()) fun(y3_0,y3_1,y3_2,y3_3,y3_4,y3_5,y3_6,y3_7,y3_8,y3_9) =>
 Option.bind (F40 N (y3_0,y3_1,y3_2,y3_3,y3_4,y3_5,y3_6,y3_7,y3_8,y3_9,(2:Int),(1:Int),[(0:Int),(16711680:Int)],false,ByteArray.mk #[])) fun y4 =>
 Option.bind (Zx N ()) fun(y5_0,y5_1,y5_2,y5_3,y5_4,y5_5,y5_6,y5_7,y5_8,y5_9) =>
 Option.bind (F40 N (y5_0,y5_1,y5_2,y5_3,y5_4,y5_5,y5_6,y5_7,y5_8,y5_9,(1:Int),(1:Int),[(16711680:Int)],y4.2.2.1,y4.2.2.2)) fun y6 =>
 Option.bind (Zx N ()) fun(y7_0,y7_1,y7_2,y7_3,y7_4,y7_5,y7_6,y7_7,y7_8,y7_9) =>
 ac (decide ((↑(ByteArray.size y4.1+ByteArray.size y6.1):Int)>(9223372036854775807:Int))) (
  none ) (
  Option.bind (F79 N (y7_0,y7_1,y7_2,y7_3,y7_4,y7_5,y7_6,y7_7,y7_8,y7_9,(2:Int),(1:Int),y4.1++y6.1,false,ByteArray.mk #[],(0:Int))) fun(y8_0,y8_1,y8_2,y8_3,y8_4,y8_5) =>
  Option.bind (UA N (y8_5,[(0:Int),(16711680:Int)])) fun y9 =>
  ac (y8_0 != (↑(ByteArray.size y4.1):Int)) (
   some (false)) (
   Option.bind (Zx N ()) fun(y10_0,y10_1,y10_2,y10_3,y10_4,y10_5,y10_6,y10_7,y10_8,y10_9) =>
   Option.bind (F79 N (y10_0,y10_1,y10_2,y10_3,y10_4,y10_5,y10_6,y10_7,y10_8,y10_9,(1:Int),(1:Int),y6.1,y8_2,y8_3,y8_4)) fun(y11_0,y11_1,y11_2,y11_3,y11_4,y11_5) =>
   Option.bind (UA N (y11_5,[(16711680:Int)])) fun y12 =>
   ac (y1.1==(0:Int)) (
    ac (y2) (
     ac (y4.2.1==(0:Int)) (
      ac (y6.2.1==(0:Int)) (
       ac (y9) (
        ac (y8_1==(0:Int)) (
         ac (y12) (
          ac (y11_0==(↑(ByteArray.size y6.1):Int)) (
           some (y11_1==(0:Int))) (
           some (false))) (
          some (false))) (
         some (false))) (
        some (false))) (
       some (false))) (
      some (false))) (
     some (false))) (
    some (false))))
noncomputable def T26 (N:Nat):Pk→Tr Pk:=ah s26 w26 (F26 N)
theorem aw2 (N:Nat):av Tryz.prog (26) (T26 N) :=
 (af ag am (RS N) Tryz.func26 s26 w26 [] (cuts:=[]) trivial (fun _=>by kernel_rfl) (by decide +kernel) (F26 N) (fun x=>by kernel_rfl))
@[reducible] def s208:SP:=⟨[.int .i64],[]⟩
noncomputable def ah7 (N:Nat):List (Nat×(Pk→Tr Pk)):=[]
theorem yb (N:Nat):ai Tryz.prog (ah7 N):=trivial
@[reducible] def Mp:LD:=⟨58,[3,0,4],[(.ret,[2]),(.exit 0,[])],⟨[.int .i64,.int .i64,.int .i64],[]⟩,[(.ret,⟨[.int .i64],[]⟩),(.exit 0,⟨[],[]⟩)]⟩
abbrev C5:Type:=Int×Int×Int
abbrev Cm:Type:=((Int)⊕(Unit))
noncomputable def lY (N:Nat) (f:C5→Option Cm):C5→Option Cm
 | (x0,x1,x2) =>
 ac (decide (x2≤(16:Int))) (
  ac (x1==IntKind.wrap IntKind.i64 (IntKind.wrap IntKind.i64 (x0*(2:Int))-(1:Int))) (
   some (.inl (x2))) (
   Option.bind (f (IntKind.wrap IntKind.i64 (x0*(2:Int)),x1,IntKind.wrap IntKind.i64 (x2+(1:Int)))) fun r=>match r with|.inl y=>some (.inl y)|.inr y=>some (.inr y))) (
  some (.inr (())))
noncomputable def gq (N:Nat):Nat→C5→Option Cm
 | 0,_=>none
 | k+1,x=>lY N (gq N k) x
noncomputable def Nf (N:Nat) (k:Nat):Cut:=Mp.cut (gq N k)
theorem J7 (N:Nat) (k:Nat):ak Tryz.prog false Tryz.f208 [] 58 (Nf N k) :=
 Mp.loopT ag am (yb N) Tryz.f208 [] (cuts:=[]) trivial (by decide +kernel) (by kernel_rfl) (lY N) (gq N) (fun _=>rfl) (fun _ _=>rfl) (fun f x=>by kernel_rfl) k
@[reducible] def w208:List SP:=[⟨[.int .i64],[]⟩]
noncomputable def US (N:Nat):(Int)→Option (Int)
 | x0 =>
 Option.bind (gq N N ((1:Int),x0,(1:Int))) fun y0 =>
 match y0 with
 | .inl y1 =>
  some (y1)
 | .inr y1 =>
  some ((0:Int))
noncomputable def aT1 (N:Nat):Pk→Tr Pk:=ah s208 w208 (US N)
theorem XF (N:Nat):av Tryz.prog (208) (aT1 N) :=
 (af ag am (yb N) Tryz.func208 s208 w208 [] (cuts:=[(58,Nf N N)]) ⟨J7 N N,trivial⟩ (fun _=>by kernel_rfl) (by decide +kernel) (US N) (fun x=>by kernel_rfl))
@[reducible] def s137:SP:=⟨[.int .i64,.int .i64,.int .i64],[]⟩
noncomputable def al2 (N:Nat):List (Nat×(Pk→Tr Pk)):=[(208,aT1 N)]
theorem Pr (N:Nat):ai Tryz.prog (al2 N):=⟨XF N,trivial⟩
@[reducible] def w137:List SP:=[⟨[.bool],[]⟩]
noncomputable def Jy (N:Nat):(Int×Int×Int)→Option (Bool)
 | (x0,x1,x2) =>
 Option.bind (US N x1) fun y0 =>
 ac (decide (y0>(0:Int))) (
  ac (decide (x2≥(0:Int))) (
   ac (decide (x2≤(32:Int))) (
    some (decide (IntKind.wrap IntKind.i64 (x2+y0)≤x0))) (
    some (false))) (
   some (false))) (
  some (false))
noncomputable def aV4 (N:Nat):Pk→Tr Pk:=ah s137 w137 (Jy N)
theorem X9 (N:Nat):av Tryz.prog (137) (aV4 N) :=
 (af ag am (Pr N) Tryz.func137 s137 w137 [] (cuts:=[]) trivial (fun _=>by kernel_rfl) (by decide +kernel) (Jy N) (fun x=>by kernel_rfl))
@[reducible] def s138:SP:=⟨[.int .i64,.int .i64],[]⟩
noncomputable def al1 (N:Nat):List (Nat×(Pk→Tr Pk)):=[]
theorem Pq (N:Nat):ai Tryz.prog (al1 N):=trivial
@[reducible] def w138:List SP:=[⟨[.int .i64],[]⟩]
noncomputable def xn (N:Nat):(Int×Int)→Option (Int)
 | (x0,x1) =>
 ac (decide (x1<(0:Int))) (
  none ) (
  some (IntKind.wrap IntKind.i64 (x0*(2:Int)^min (Int.toNat x1) (64:Nat))))
noncomputable def ax1 (N:Nat):Pk→Tr Pk:=ah s138 w138 (xn N)
theorem LB (N:Nat):av Tryz.prog (138) (ax1 N) :=
 (af ag am (Pq N) Tryz.func138 s138 w138 [] (cuts:=[]) trivial (fun _=>by kernel_rfl) (by decide +kernel) (xn N) (fun x=>by kernel_rfl))
@[reducible] def s80:SP:=⟨[.agg [.int .i64,.int .i64,.bool,.bool,.int .i64,.int .i64,.int .i64,.int .i64,.int .i64,.int .i64]],[]⟩
noncomputable def aF8 (N:Nat):List (Nat×(Pk→Tr Pk)):=[(137,aV4 N),(138,ax1 N)]
theorem sZ (N:Nat):ai Tryz.prog (aF8 N):=⟨X9 N,LB N,trivial⟩
@[reducible] def TW:LD:=⟨15,[1],[(.ret,[2]),(.normal,[2])],⟨[.adr 0 []],[.var 43 (.agg [.int .i64,.int .i64,.bool,.bool,.int .i64,.int .i64,.int .i64,.int .i64,.int .i64,.int .i64])]⟩,[(.ret,⟨[.bool],[]⟩)]⟩
noncomputable def Di (N:Nat):(Int×Int×Bool×Bool×Int×Int×Int×Int×Int×Int)→Option (Bool)
 | (x0,x1,x2,x3,x4,x5,x6,x7,x8,x9) =>
 Option.bind (xn N (x4,x7)) fun y0 =>
 Option.bind (xn N (x5,x8)) fun y1 =>
 Option.bind (xn N (x6,x9)) fun y2 =>
 ac (IntKind.wrap IntKind.i64 (↑(BitVec.toNat (BitVec.ofInt (64:Nat) y0 &&& BitVec.ofInt (64:Nat) y1)):Int)==(0:Int)) (
  ac (IntKind.wrap IntKind.i64 (↑(BitVec.toNat (BitVec.ofInt (64:Nat) y0 &&& BitVec.ofInt (64:Nat) y2)):Int)==(0:Int)) (
   some (IntKind.wrap IntKind.i64 (↑(BitVec.toNat (BitVec.ofInt (64:Nat) y1 &&& BitVec.ofInt (64:Nat) y2)):Int)==(0:Int))) (
   some (false))) (
  some (false))
noncomputable def JC (N:Nat) (_:Nat):Cut:=TW.cut (Di N)
theorem zQ (N:Nat) (k:Nat):ak Tryz.prog false Tryz.f80 [] 15 (JC N k) :=
 TW.pieceT ag am (sZ N) Tryz.f80 [] (cuts:=[]) trivial (by decide +kernel) (by kernel_rfl) (Di N) (fun x=>by kernel_rfl)
@[reducible] def Zu:LD:=⟨7,[1],[(.ret,[2]),(.normal,[2])],⟨[.adr 0 []],[.var 43 (.agg [.int .i64,.int .i64,.bool,.bool,.int .i64,.int .i64,.int .i64,.int .i64,.int .i64,.int .i64])]⟩,[(.ret,⟨[.bool],[]⟩)]⟩
noncomputable def wu (N:Nat):(Int×Int×Bool×Bool×Int×Int×Int×Int×Int×Int)→Option (Bool)
 | (x0,x1,x2,x3,x4,x5,x6,x7,x8,x9) =>
 Option.bind (Jy N (x0,x4,x7)) fun y0 =>
 ac (!y0) (
  some (false)) (
  Option.bind (Jy N (x0,x5,x8)) fun y1 =>
  ac (!y1) (
   some (false)) (
   Option.bind (Jy N (x0,x6,x9)) fun y2 =>
   ac (!y2) (
    some (false)) (
    Option.bind (Di N (x0,x1,x2,x3,x4,x5,x6,x7,x8,x9)) fun y3 =>
    some (y3))))
noncomputable def Zz (N:Nat) (_:Nat):Cut:=Zu.cut (wu N)
theorem Ve (N:Nat) (k:Nat):ak Tryz.prog false Tryz.f80 [] 7 (Zz N k) :=
 Zu.pieceT ag am (sZ N) Tryz.f80 [] (cuts:=[(15,JC N N)]) ⟨zQ N N,trivial⟩ (by decide +kernel) (by kernel_rfl) (wu N) (fun x=>by kernel_rfl)
@[reducible] def w80:List SP:=[⟨[.bool],[]⟩]
noncomputable def F80 (N:Nat):(Int×Int×Bool×Bool×Int×Int×Int×Int×Int×Int)→Option (Bool)
 | (x0,x1,x2,x3,x4,x5,x6,x7,x8,x9) =>
 ac (x0 != (8:Int)) (
  ac (x0 != (16:Int)) (
   ac (x0 != (32:Int)) (
    some (false)) (
    ac (decide (x1<(1:Int))) (
     some (false)) (
     ac (decide (x1>x0)) (
      some (false)) (
      ac (!x3) (
       some (false)) (
       Option.bind (wu N (x0,x1,x2,x3,x4,x5,x6,x7,x8,x9)) fun y0 =>
       some (y0)))))) (
   ac (decide (x1<(1:Int))) (
    some (false)) (
    ac (decide (x1>x0)) (
     some (false)) (
     ac (!x3) (
      some (false)) (
      Option.bind (wu N (x0,x1,x2,x3,x4,x5,x6,x7,x8,x9)) fun y1 =>
      some (y1)))))) (
  ac (decide (x1<(1:Int))) (
   some (false)) (
   ac (decide (x1>x0)) (
    some (false)) (
    ac (!x3) (
     some (false)) (
     Option.bind (wu N (x0,x1,x2,x3,x4,x5,x6,x7,x8,x9)) fun y2 =>
     some (y2)))))
noncomputable def T80 (N:Nat):Pk→Tr Pk:=ah s80 w80 (F80 N)
theorem as5 (N:Nat):av Tryz.prog (80) (T80 N) :=
 (af ag am (sZ N) Tryz.func80 s80 w80 [] (cuts:=[(15,JC N N),(7,Zz N N)]) ⟨zQ N N,Ve N N,trivial⟩ (fun _=>by kernel_rfl) (by decide +kernel) (F80 N) (fun x=>by kernel_rfl))
@[reducible] def s27:SP:=⟨[.agg [.int .i64,.int .i64,.bool,.bool,.int .i64,.int .i64,.int .i64,.int .i64,.int .i64,.int .i64],.int .i64,.int .i64],[]⟩
noncomputable def aH5 (N:Nat):List (Nat×(Pk→Tr Pk)):=[(80,T80 N)]
theorem RR (N:Nat):ai Tryz.prog (aH5 N):=⟨as5 N,trivial⟩
@[reducible] def w27:List SP:=[⟨[.bool],[]⟩]
noncomputable def F27 (N:Nat):(Int×Int×Bool×Bool×Int×Int×Int×Int×Int×Int×Int×Int)→Option (Bool)
 | (x0,x1,x2,x3,x4,x5,x6,x7,x8,x9,x10,x11) =>
 Option.bind (F80 N (x0,x1,x2,x3,x4,x5,x6,x7,x8,x9)) fun y0 =>
 ac (y0) (
  ac (decide (x10≥(0:Int))) (
   ac (decide (x10≤(4096:Int))) (
    ac (decide (x11≥(0:Int))) (
     some (decide (x11≤(4096:Int)))) (
     some (false))) (
    some (false))) (
   some (false))) (
  some (false))
noncomputable def T27 (N:Nat):Pk→Tr Pk:=ah s27 w27 (F27 N)
theorem av9 (N:Nat):av Tryz.prog (27) (T27 N) :=
 (af ag am (RR N) Tryz.func27 s27 w27 [] (cuts:=[]) trivial (fun _=>by kernel_rfl) (by decide +kernel) (F27 N) (fun x=>by kernel_rfl))
@[reducible] def s87:SP:=⟨[.agg [.int .i64,.int .i64,.bool,.bool,.int .i64,.int .i64,.int .i64,.int .i64,.int .i64,.int .i64]],[]⟩
noncomputable def aF1 (N:Nat):List (Nat×(Pk→Tr Pk)):=[(138,ax1 N)]
theorem D3 (N:Nat):ai Tryz.prog (aF1 N):=⟨LB N,trivial⟩
@[reducible] def TU:LD:=⟨15,[4,1],[(.ret,[2,3]),(.normal,[2,3])],⟨[.int .i64,.adr 0 []],[.var 43 (.agg [.int .i64,.int .i64,.bool,.bool,.int .i64,.int .i64,.int .i64,.int .i64,.int .i64,.int .i64])]⟩,[(.ret,⟨[.int .i64,.int .i64],[]⟩)]⟩
noncomputable def qz (N:Nat):(Int×Int×Int×Bool×Bool×Int×Int×Int×Int×Int×Int)→Option (Int×Int)
 | (x0,x1,x2,x3,x4,x5,x6,x7,x8,x9,x10) =>
 ac (x1==(32:Int)) (
  ac (decide (x2≤(24:Int))) (
   ac (IntKind.wrap IntKind.i64 (↑(BitVec.toNat (BitVec.ofInt (64:Nat) x0 &&& BitVec.ofInt (64:Nat) (255:Int))):Int)==(0:Int)) (
    some (((3:Int),(8:Int)))) (
    some ((IntKind.wrap IntKind.i64 (Int.tdiv x1 (8:Int)),(0:Int))))) (
   some ((IntKind.wrap IntKind.i64 (Int.tdiv x1 (8:Int)),(0:Int))))) (
  some ((IntKind.wrap IntKind.i64 (Int.tdiv x1 (8:Int)),(0:Int))))
noncomputable def Vd (N:Nat) (_:Nat):Cut:=TU.cut (qz N)
theorem QU (N:Nat) (k:Nat):ak Tryz.prog false Tryz.f87 [] 15 (Vd N k) :=
 TU.pieceT ag am (D3 N) Tryz.f87 [] (cuts:=[]) trivial (by decide +kernel) (by kernel_rfl) (qz N) (fun x=>by kernel_rfl)
@[reducible] def w87:List SP:=[⟨[.tup [.int .i64,.int .i64]],[]⟩]
noncomputable def Q4 (N:Nat):(Int×Int×Bool×Bool×Int×Int×Int×Int×Int×Int)→Option (Int×Int)
 | (x0,x1,x2,x3,x4,x5,x6,x7,x8,x9) =>
 Option.bind (xn N (x4,x7)) fun y0 =>
 Option.bind (xn N (x5,x8)) fun y1 =>
 Option.bind (xn N (x6,x9)) fun y2 =>
 ac (x0==(32:Int)) (
  ac (decide (x1≤(24:Int))) (
   ac (decide (IntKind.wrap IntKind.i64 (↑(BitVec.toNat (BitVec.ofInt (64:Nat) (IntKind.wrap IntKind.i64 (↑(BitVec.toNat (BitVec.ofInt (64:Nat) y0 ||| BitVec.ofInt (64:Nat) y1)):Int)) ||| BitVec.ofInt (64:Nat) y2)):Int)<(16777216:Int))) (
    some (((3:Int),(0:Int)))) (
    Option.bind (qz N (IntKind.wrap IntKind.i64 (↑(BitVec.toNat (BitVec.ofInt (64:Nat) (IntKind.wrap IntKind.i64 (↑(BitVec.toNat (BitVec.ofInt (64:Nat) y0 ||| BitVec.ofInt (64:Nat) y1)):Int)) ||| BitVec.ofInt (64:Nat) y2)):Int),x0,x1,x2,x3,x4,x5,x6,x7,x8,x9)) fun y3 =>
    some ((y3.1,y3.2)))) (
   Option.bind (qz N (IntKind.wrap IntKind.i64 (↑(BitVec.toNat (BitVec.ofInt (64:Nat) (IntKind.wrap IntKind.i64 (↑(BitVec.toNat (BitVec.ofInt (64:Nat) y0 ||| BitVec.ofInt (64:Nat) y1)):Int)) ||| BitVec.ofInt (64:Nat) y2)):Int),x0,x1,x2,x3,x4,x5,x6,x7,x8,x9)) fun y4 =>
   some ((y4.1,y4.2)))) (
  Option.bind (qz N (IntKind.wrap IntKind.i64 (↑(BitVec.toNat (BitVec.ofInt (64:Nat) (IntKind.wrap IntKind.i64 (↑(BitVec.toNat (BitVec.ofInt (64:Nat) y0 ||| BitVec.ofInt (64:Nat) y1)):Int)) ||| BitVec.ofInt (64:Nat) y2)):Int),x0,x1,x2,x3,x4,x5,x6,x7,x8,x9)) fun y5 =>
  some ((y5.1,y5.2)))
noncomputable def T87 (N:Nat):Pk→Tr Pk:=ah s87 w87 (Q4 N)
theorem Tt (N:Nat):av Tryz.prog (87) (T87 N) :=
 (af ag am (D3 N) Tryz.func87 s87 w87 [] (cuts:=[(15,Vd N N)]) ⟨QU N N,trivial⟩ (fun _=>by kernel_rfl) (by decide +kernel) (Q4 N) (fun x=>by kernel_rfl))
@[reducible] def s38:SP:=⟨[.int .i64,.int .i64,.int .i64],[]⟩
noncomputable def aG6 (N:Nat):List (Nat×(Pk→Tr Pk)):=[]
theorem tb (N:Nat):ai Tryz.prog (aG6 N):=trivial
@[reducible] def Ff:LD:=⟨7826,[7,9,0,1,8,2],[(.ret,[6]),(.exit 2,[8,7,0,1,2]),(.exit 1,[8,7,0,1,2]),(.exit 0,[7])],⟨[.sl 0,.int .i64,.int .i64,.int .i64,.int .i64,.int .i64],[.row y1 126]⟩,[(.exit 2,⟨[.int .i64,.sl 0,.int .i64,.int .i64,.int .i64],[.row y1 126]⟩)]⟩
abbrev vv:Type:=Int×Int×Int×Int×Int×(List (Int×(Int×(Int×(Int×Unit)))))
abbrev uI:Type:=Int×Int×Int×Int×(List (Int×(Int×(Int×(Int×Unit)))))
noncomputable def fQ (N:Nat) (f:vv→Option uI):vv→Option uI
 | (x0,x1,x2,x3,x4,x5) =>
 ac (decide (x0<x1)) (
  ac (decide ((List.length x5+List.length [(x0,x3,if IntKind.wrap IntKind.i64 (x1-x0)<x4 then IntKind.wrap IntKind.i64 (x1-x0) else x4,if IntKind.wrap IntKind.i64 (x2-x3)<x4 then IntKind.wrap IntKind.i64 (x2-x3) else x4,())])*(32:Nat)≤(140737488355328:Nat)∧List.length x5+List.length [(x0,x3,if IntKind.wrap IntKind.i64 (x1-x0)<x4 then IntKind.wrap IntKind.i64 (x1-x0) else x4,if IntKind.wrap IntKind.i64 (x2-x3)<x4 then IntKind.wrap IntKind.i64 (x2-x3) else x4,())]≤(140737488355328:Nat))) (
   Option.bind (f (IntKind.wrap IntKind.i64 (x0+if (4096:Int)<x4 then (4096:Int) else x4),x1,x2,x3,x4,x5++[(x0,x3,if IntKind.wrap IntKind.i64 (x1-x0)<x4 then IntKind.wrap IntKind.i64 (x1-x0) else x4,if IntKind.wrap IntKind.i64 (x2-x3)<x4 then IntKind.wrap IntKind.i64 (x2-x3) else x4,())])) fun r=>some r) (
   none )) (
  some ((x3,x1,x2,x4,x5)))
noncomputable def ej (N:Nat):Nat→vv→Option uI
 | 0,_=>none
 | k+1,x=>fQ N (ej N k) x
noncomputable def wH (N:Nat) (k:Nat):Cut:=Ff.cut (ej N k)
theorem rB (N:Nat) (k:Nat):ak Tryz.prog false Tryz.f38 [] 7826 (wH N k) :=
 Ff.loopT ag am (tb N) Tryz.f38 [] (cuts:=[]) trivial (by decide +kernel) (by kernel_rfl) (fQ N) (ej N) (fun _=>rfl) (fun _ _=>rfl) (fun f x=>by kernel_rfl) k
@[reducible] def LI:LD:=⟨122,[7,0,1,8,2],[(.ret,[6]),(.exit 0,[7])],⟨[.sl 0,.int .i64,.int .i64,.int .i64,.int .i64],[.row y1 126]⟩,[(.exit 0,⟨[.sl 0],[.row y1 126]⟩)]⟩
abbrev Cy:Type:=Int×Int×Int×Int×(List (Int×(Int×(Int×(Int×Unit)))))
abbrev BG:Type:=(List (Int×(Int×(Int×(Int×Unit)))))
noncomputable def jq (N:Nat) (f:Cy→Option BG):Cy→Option BG
 | (x0,x1,x2,x3,x4) =>
 ac (decide (x2<x1)) (
  Option.bind (ej N N ((0:Int),x0,x1,x2,x3,x4)) fun y0 =>
  Option.bind (f (y0.2.1,y0.2.2.1,IntKind.wrap IntKind.i64 (y0.1+if (4096:Int)<y0.2.2.2.1 then (4096:Int) else y0.2.2.2.1),y0.2.2.2.1,y0.2.2.2.2)) fun r=>some r) (
  some (x4))
noncomputable def eJ (N:Nat):Nat→Cy→Option BG
 | 0,_=>none
 | k+1,x=>jq N (eJ N k) x
noncomputable def MK (N:Nat) (k:Nat):Cut:=LI.cut (eJ N k)
theorem JE (N:Nat) (k:Nat):ak Tryz.prog false Tryz.f38 [] 122 (MK N k) :=
 LI.loopT ag am (tb N) Tryz.f38 [] (cuts:=[(7826,wH N N)]) ⟨rB N N,trivial⟩ (by decide +kernel) (by kernel_rfl) (jq N) (eJ N) (fun _=>rfl) (fun _ _=>rfl) (fun f x=>by kernel_rfl) k
@[reducible] def w38:List SP:=[⟨[.sl 0],[.row y1 126]⟩]
noncomputable def F38 (N:Nat):(Int×Int×Int)→Option ((List (Int×(Int×(Int×(Int×Unit))))))
 | (x0,x1,x2) =>
 ac (decide (x0<(1:Int))) (
  some ([])) (
  ac (decide (x1<(1:Int))) (
   some ([])) (
   ac (decide (x0>(4096:Int))) (
    some ([])) (
    ac (decide (x1>(4096:Int))) (
     some ([])) (
     ac (decide (x2<(1:Int))) (
      some ([])) (
      Option.bind (eJ N N (x0,x1,(0:Int),x2,[])) fun y0 =>
      some (y0))))))
noncomputable def T38 (N:Nat):Pk→Tr Pk:=ah s38 w38 (F38 N)
theorem Tx (N:Nat):av Tryz.prog (38) (T38 N) :=
 (af ag am (tb N) Tryz.func38 s38 w38 [] (cuts:=[(7826,wH N N),(122,MK N N)]) ⟨rB N N,JE N N,trivial⟩ (fun _=>by kernel_rfl) (by decide +kernel) (F38 N) (fun x=>by kernel_rfl))
@[reducible] def s120:SP:=⟨[.int .i64],[]⟩
noncomputable def al6 (N:Nat):List (Nat×(Pk→Tr Pk)):=[]
theorem Pv (N:Nat):ai Tryz.prog (al6 N):=trivial
@[reducible] def w120:List SP:=[⟨[.bool],[]⟩]
noncomputable def Y0 (N:Nat):(Int)→Option (Bool)
 | x0 =>
 ac (x0==(1:Int)) (
  some (true)) (
  ac (x0==(2:Int)) (
   some (true)) (
   some (x0==(4:Int))))
noncomputable def aV7 (N:Nat):Pk→Tr Pk:=ah s120 w120 (Y0 N)
theorem Yc (N:Nat):av Tryz.prog (120) (aV7 N) :=
 (af ag am (Pv N) Tryz.func120 s120 w120 [] (cuts:=[]) trivial (fun _=>by kernel_rfl) (by decide +kernel) (Y0 N) (fun x=>by kernel_rfl))
@[reducible] def s213:SP:=⟨[.adr 0 [],.int .i64],[.var 135 (.agg [.str,.int .i64,.int .i64])]⟩
noncomputable def ah2 (N:Nat):List (Nat×(Pk→Tr Pk)):=[]
theorem O0 (N:Nat):ai Tryz.prog (ah2 N):=trivial
@[reducible] def w213:List SP:=[⟨[.str],[.var 135 (.agg [.str,.int .i64,.int .i64])]⟩]
noncomputable def xk (N:Nat):(Int×ByteArray×Int×Int)→Option (ByteArray×ByteArray×Int×Int)
 | (x0,x1,x2,x3) =>
 ac (x3 != (0:Int)) (
  some ((ByteArray.mk #[],x1,x2,x3))) (
  ac (decide (x0<(0:Int))) (
   some ((ByteArray.mk #[],x1,x2,(1:Int)))) (
   ac (decide (x0>IntKind.wrap IntKind.i64 ((↑(ByteArray.size x1):Int)-x2))) (
    some ((ByteArray.mk #[],x1,x2,(2:Int)))) (
    ac (decide ((0:Int)≤IntKind.wrap IntKind.i64 (x2+x0)∧IntKind.wrap IntKind.i64 (x2+x0)≤(↑(ByteArray.size x1):Int))) (
     ac (decide ((0:Int)≤x2∧x2≤(↑(Int.toNat (IntKind.wrap IntKind.i64 (x2+x0))):Int))) (
      some ((ByteArray.extract x1 (Int.toNat x2) (Int.toNat (IntKind.wrap IntKind.i64 (x2+x0))),x1,IntKind.wrap IntKind.i64 (x2+x0),x3))) (
      none )) (
     none ))))
noncomputable def XB (N:Nat):Pk→Tr Pk:=ah s213 w213 (xk N)
theorem Bv (N:Nat):av Tryz.prog (213) (XB N) :=
 (af ag am (O0 N) Tryz.func213 s213 w213 [0] (cuts:=[]) trivial (fun _=>by kernel_rfl) (by decide +kernel) (xk N) (fun x=>by kernel_rfl))
@[reducible] def s56:SP:=⟨[.str],[]⟩
noncomputable def aG3 (N:Nat):List (Nat×(Pk→Tr Pk)):=[]
theorem D7 (N:Nat):ai Tryz.prog (aG3 N):=trivial
@[reducible] def TX:LD:=⟨58,[3,4,0],[(.ret,[2]),(.exit 0,[3])],⟨[.int .i64,.int .i64,.str],[]⟩,[(.exit 0,⟨[.int .i64],[]⟩)]⟩
abbrev I4:Type:=Int×Int×ByteArray
abbrev IR:Type:=Int
noncomputable def qS (N:Nat) (f:I4→Option IR):I4→Option IR
 | (x0,x1,x2) =>
 ac (decide (x1<(↑(ByteArray.size x2):Int))) (
  ac (decide ((0:Int)≤x1)) (
   Option.bind (x2[Int.toNat x1]?) fun y0 =>
   Option.bind (f (IntKind.wrap IntKind.i64 (IntKind.wrap IntKind.i64 (x0*(256:Int))+IntKind.wrap IntKind.i64 (↑(UInt8.toNat y0):Int)),IntKind.wrap IntKind.i64 (x1+(1:Int)),x2)) fun r=>some r) (
   none )) (
  some (x0))
noncomputable def je (N:Nat):Nat→I4→Option IR
 | 0,_=>none
 | k+1,x=>qS N (je N k) x
noncomputable def Vf (N:Nat) (k:Nat):Cut:=TX.cut (je N k)
theorem QV (N:Nat) (k:Nat):ak Tryz.prog false Tryz.f56 [] 58 (Vf N k) :=
 TX.loopT ag am (D7 N) Tryz.f56 [] (cuts:=[]) trivial (by decide +kernel) (by kernel_rfl) (qS N) (je N) (fun _=>rfl) (fun _ _=>rfl) (fun f x=>by kernel_rfl) k
@[reducible] def w56:List SP:=[⟨[.int .i64],[]⟩]
noncomputable def Yk (N:Nat):(ByteArray)→Option (Int)
 | x0 =>
 Option.bind (je N N ((0:Int),(0:Int),x0)) fun y0 =>
 some (y0)
noncomputable def T56 (N:Nat):Pk→Tr Pk:=ah s56 w56 (Yk N)
theorem Tw (N:Nat):av Tryz.prog (56) (T56 N) :=
 (af ag am (D7 N) Tryz.func56 s56 w56 [] (cuts:=[(58,Vf N N)]) ⟨QV N N,trivial⟩ (fun _=>by kernel_rfl) (by decide +kernel) (Yk N) (fun x=>by kernel_rfl))
@[reducible] def s145:SP:=⟨[.adr 0 [],.int .i64],[.var 135 (.agg [.str,.int .i64,.int .i64])]⟩
noncomputable def ak4 (N:Nat):List (Nat×(Pk→Tr Pk)):=[(120,aV7 N),(213,XB N),(56,T56 N)]
theorem Pm (N:Nat):ai Tryz.prog (ak4 N):=⟨Yc N,Bv N,Tw N,trivial⟩
@[reducible] def w145:List SP:=[⟨[.int .i64],[.var 135 (.agg [.str,.int .i64,.int .i64])]⟩]
noncomputable def Jv (N:Nat):(Int×ByteArray×Int×Int)→Option (Int×ByteArray×Int×Int)
 | (x0,x1,x2,x3) =>
 ac (x3==(0:Int)) (
  Option.bind (Y0 N x0) fun y0 =>
  ac (!y0) (
   Option.bind (xk N (x0,x1,x2,(1:Int))) fun y1 =>
   Option.bind (Yk N y1.1) fun y2 =>
   some ((y2,y1.2.1,y1.2.2.1,y1.2.2.2))) (
   Option.bind (xk N (x0,x1,x2,x3)) fun y3 =>
   Option.bind (Yk N y3.1) fun y4 =>
   some ((y4,y3.2.1,y3.2.2.1,y3.2.2.2)))) (
  Option.bind (xk N (x0,x1,x2,x3)) fun y5 =>
  Option.bind (Yk N y5.1) fun y6 =>
  some ((y6,y5.2.1,y5.2.2.1,y5.2.2.2)))
noncomputable def X2 (N:Nat):Pk→Tr Pk:=ah s145 w145 (Jv N)
theorem BA (N:Nat):av Tryz.prog (145) (X2 N) :=
 (af ag am (Pm N) Tryz.func145 s145 w145 [0] (cuts:=[]) trivial (fun _=>by kernel_rfl) (by decide +kernel) (Jv N) (fun x=>by kernel_rfl))
@[reducible] def s307:SP:=⟨[.str],[]⟩
noncomputable def ad4 (N:Nat):List (Nat×(Pk→Tr Pk)):=[]
theorem xP (N:Nat):ai Tryz.prog (ad4 N):=trivial
@[reducible] def Mh:LD:=⟨58,[3,4,0],[(.ret,[2]),(.exit 0,[3])],⟨[.str,.int .i64,.str],[]⟩,[(.exit 0,⟨[.str],[]⟩)]⟩
abbrev CX:Type:=ByteArray×Int×ByteArray
abbrev Ce:Type:=ByteArray
noncomputable def lU (N:Nat) (f:CX→Option Ce):CX→Option Ce
 | (x0,x1,x2) =>
 ac (decide (x1<(↑(ByteArray.size x2):Int))) (
  ac (decide ((0:Int)≤IntKind.wrap IntKind.i64 (x1+(1:Int))∧IntKind.wrap IntKind.i64 (x1+(1:Int))≤(↑(ByteArray.size x2):Int))) (
   ac (decide ((0:Int)≤x1∧x1≤(↑(Int.toNat (IntKind.wrap IntKind.i64 (x1+(1:Int)))):Int))) (
    ac (decide ((↑(ByteArray.size (ByteArray.extract x2 (Int.toNat x1) (Int.toNat (IntKind.wrap IntKind.i64 (x1+(1:Int)))))+ByteArray.size x0):Int)>(9223372036854775807:Int))) (
     none ) (
     Option.bind (f (ByteArray.extract x2 (Int.toNat x1) (Int.toNat (IntKind.wrap IntKind.i64 (x1+(1:Int))))++x0,IntKind.wrap IntKind.i64 (x1+(1:Int)),x2)) fun r=>some r)) (
    none )) (
   none )) (
  some (x0))
noncomputable def eL (N:Nat):Nat→CX→Option Ce
 | 0,_=>none
 | k+1,x=>lU N (eL N k) x
noncomputable def M5 (N:Nat) (k:Nat):Cut:=Mh.cut (eL N k)
theorem JZ (N:Nat) (k:Nat):ak Tryz.prog false Tryz.f307 [] 58 (M5 N k) :=
 Mh.loopT ag am (xP N) Tryz.f307 [] (cuts:=[]) trivial (by decide +kernel) (by kernel_rfl) (lU N) (eL N) (fun _=>rfl) (fun _ _=>rfl) (fun f x=>by kernel_rfl) k
@[reducible] def w307:List SP:=[⟨[.str],[]⟩]
noncomputable def UB (N:Nat):(ByteArray)→Option (ByteArray)
 | x0 =>
 Option.bind (eL N N (ByteArray.mk #[],(0:Int),x0)) fun y0 =>
 some (y0)
noncomputable def aQ1 (N:Nat):Pk→Tr Pk:=ah s307 w307 (UB N)
theorem W7 (N:Nat):av Tryz.prog (307) (aQ1 N) :=
 (af ag am (xP N) Tryz.func307 s307 w307 [] (cuts:=[(58,M5 N N)]) ⟨JZ N N,trivial⟩ (fun _=>by kernel_rfl) (by decide +kernel) (UB N) (fun x=>by kernel_rfl))
@[reducible] def s266:SP:=⟨[.bool,.int .i64,.str],[]⟩
noncomputable def ae8 (N:Nat):List (Nat×(Pk→Tr Pk)):=[(56,T56 N),(307,aQ1 N)]
theorem OM (N:Nat):ai Tryz.prog (ae8 N):=⟨Tw N,W7 N,trivial⟩
@[reducible] def w266:List SP:=[⟨[.tup [.int .i64,.int .i64]],[]⟩]
noncomputable def YP (N:Nat):(Bool×Int×ByteArray)→Option (Int×Int)
 | (x0,x1,x2) =>
 ac (decide ((↑(ByteArray.size x2):Int)<x1)) (
  some (((0:Int),(2:Int)))) (
  ac (x0) (
   ac (decide ((0:Int)≤x1∧x1≤(↑(ByteArray.size x2):Int))) (
    Option.bind (Yk N (ByteArray.extract x2 (0:Nat) (Int.toNat x1))) fun y0 =>
    some ((y0,(0:Int)))) (
    none )) (
   ac (decide ((0:Int)≤x1∧x1≤(↑(ByteArray.size x2):Int))) (
    Option.bind (UB N (ByteArray.extract x2 (0:Nat) (Int.toNat x1))) fun y1 =>
    Option.bind (Yk N y1) fun y2 =>
    some ((y2,(0:Int)))) (
    none )))
noncomputable def aR1 (N:Nat):Pk→Tr Pk:=ah s266 w266 (YP N)
theorem Xi (N:Nat):av Tryz.prog (266) (aR1 N) :=
 (af ag am (OM N) Tryz.func266 s266 w266 [] (cuts:=[]) trivial (fun _=>by kernel_rfl) (by decide +kernel) (YP N) (fun x=>by kernel_rfl))
@[reducible] def s214:SP:=⟨[.agg [.int .i64,.int .i64,.bool,.bool,.int .i64,.int .i64,.int .i64,.int .i64,.int .i64,.int .i64],.str],[]⟩
noncomputable def ah1 (N:Nat):List (Nat×(Pk→Tr Pk)):=[(87,T87 N),(266,aR1 N)]
theorem OZ (N:Nat):ai Tryz.prog (ah1 N):=⟨Tt N,Xi N,trivial⟩
@[reducible] def w214:List SP:=[⟨[.tup [.int .i64,.int .i64]],[]⟩]
noncomputable def UO (N:Nat):(Int×Int×Bool×Bool×Int×Int×Int×Int×Int×Int×ByteArray)→Option (Int×Int)
 | (x0,x1,x2,x3,x4,x5,x6,x7,x8,x9,x10) =>
 Option.bind (Q4 N (x0,x1,x2,x3,x4,x5,x6,x7,x8,x9)) fun y0 =>
 Option.bind (YP N (x2,y0.1,x10)) fun y1 =>
 ac (decide (y0.2<(0:Int))) (
  none ) (
  some ((IntKind.wrap IntKind.i64 (y1.1*(2:Int)^min (Int.toNat y0.2) (64:Nat)),y1.2)))
noncomputable def aS7 (N:Nat):Pk→Tr Pk:=ah s214 w214 (UO N)
theorem XA (N:Nat):av Tryz.prog (214) (aS7 N) :=
 (af ag am (OZ N) Tryz.func214 s214 w214 [] (cuts:=[]) trivial (fun _=>by kernel_rfl) (by decide +kernel) (UO N) (fun x=>by kernel_rfl))
@[reducible] def s147:SP:=⟨[.adr 0 []],[.var 137 (.agg [.agg [.int .i64,.int .i64,.bool,.bool,.int .i64,.int .i64,.int .i64,.int .i64,.int .i64,.int .i64],.int .i64,.adr 1 []]),.var 135 (.agg [.str,.int .i64,.int .i64])]⟩
noncomputable def ak2 (N:Nat):List (Nat×(Pk→Tr Pk)):=[(213,XB N),(214,aS7 N)]
theorem Pl (N:Nat):ai Tryz.prog (ak2 N):=⟨Bv N,XA N,trivial⟩
@[reducible] def w147:List SP:=[⟨[.int .i64],[.var 137 (.agg [.agg [.int .i64,.int .i64,.bool,.bool,.int .i64,.int .i64,.int .i64,.int .i64,.int .i64,.int .i64],.int .i64,.adr 1 []]),.var 135 (.agg [.str,.int .i64,.int .i64])]⟩]
noncomputable def Jt (N:Nat):(Int×Int×Bool×Bool×Int×Int×Int×Int×Int×Int×Int×ByteArray×Int×Int)→Option (Int×Int×Int×Bool×Bool×Int×Int×Int×Int×Int×Int×Int×ByteArray×Int×Int)
 | (x0,x1,x2,x3,x4,x5,x6,x7,x8,x9,x10,x11,x12,x13) =>
 Option.bind (xk N (x10,x11,x12,x13)) fun y0 =>
 Option.bind (UO N (x0,x1,x2,x3,x4,x5,x6,x7,x8,x9,y0.1)) fun y1 =>
 some ((y1.1,x0,x1,x2,x3,x4,x5,x6,x7,x8,x9,x10,y0.2.1,y0.2.2.1,y0.2.2.2))
noncomputable def X0 (N:Nat):Pk→Tr Pk:=ah s147 w147 (Jt N)
theorem By (N:Nat):av Tryz.prog (147) (X0 N) :=
 (af ag am (Pl N) Tryz.func147 s147 w147 [0,1] (cuts:=[]) trivial (fun _=>by kernel_rfl) (by decide +kernel) (Jt N) (fun x=>by kernel_rfl))
@[reducible] def s146:SP:=⟨[.adr 0 [],.int .i64],[.var 137 (.agg [.agg [.int .i64,.int .i64,.bool,.bool,.int .i64,.int .i64,.int .i64,.int .i64,.int .i64,.int .i64],.int .i64,.adr 1 []]),.var 135 (.agg [.str,.int .i64,.int .i64])]⟩
noncomputable def ak3 (N:Nat):List (Nat×(Pk→Tr Pk)):=[(147,X0 N)]
theorem yi (N:Nat):ai Tryz.prog (ak3 N):=⟨By N,trivial⟩
@[reducible] def Mw:LD:=⟨58,[5,6,1,0],[(.ret,[4]),(.exit 0,[5])],⟨[.sl 2,.int .i64,.int .i64,.adr 0 []],[.var 137 (.agg [.agg [.int .i64,.int .i64,.bool,.bool,.int .i64,.int .i64,.int .i64,.int .i64,.int .i64,.int .i64],.int .i64,.adr 1 []]),.var 135 (.agg [.str,.int .i64,.int .i64]),.row (.int .i64) 3]⟩,[(.exit 0,⟨[.sl 2],[.var 137 (.agg [.agg [.int .i64,.int .i64,.bool,.bool,.int .i64,.int .i64,.int .i64,.int .i64,.int .i64,.int .i64],.int .i64,.adr 1 []]),.var 135 (.agg [.str,.int .i64,.int .i64]),.row (.int .i64) 3]⟩)]⟩
abbrev Da:Type:=Int×Int×Int×Int×Bool×Bool×Int×Int×Int×Int×Int×Int×Int×ByteArray×Int×Int×(List Int)
abbrev Cq:Type:=Int×Int×Bool×Bool×Int×Int×Int×Int×Int×Int×Int×ByteArray×Int×Int×(List Int)
noncomputable def l5 (N:Nat) (f:Da→Option Cq):Da→Option Cq
 | (x0,x1,x2,x3,x4,x5,x6,x7,x8,x9,x10,x11,x12,x13,x14,x15,x16) =>
 ac (decide (x0<x1)) (
  Option.bind (Jt N (x2,x3,x4,x5,x6,x7,x8,x9,x10,x11,x12,x13,x14,x15)) fun(y0_0,y0_1,y0_2,y0_3,y0_4,y0_5,y0_6,y0_7,y0_8,y0_9,y0_10,y0_11,y0_12,y0_13,y0_14) =>
  ac (decide ((List.length x16+List.length [y0_0])*(8:Nat)≤(140737488355328:Nat)∧List.length x16+List.length [y0_0]≤(140737488355328:Nat))) (
   Option.bind (f (IntKind.wrap IntKind.i64 (x0+(1:Int)),x1,y0_1,y0_2,y0_3,y0_4,y0_5,y0_6,y0_7,y0_8,y0_9,y0_10,y0_11,y0_12,y0_13,y0_14,x16++[y0_0])) fun r=>some r) (
   none )) (
  some ((x2,x3,x4,x5,x6,x7,x8,x9,x10,x11,x12,x13,x14,x15,x16)))
noncomputable def eS (N:Nat):Nat→Da→Option Cq
 | 0,_=>none
 | k+1,x=>l5 N (eS N k) x
noncomputable def Nm (N:Nat) (k:Nat):Cut:=Mw.cut (eS N k)
theorem Ke (N:Nat) (k:Nat):ak Tryz.prog false Tryz.f146 [0,1] 58 (Nm N k) :=
 Mw.loopT ag am (yi N) Tryz.f146 [0,1] (cuts:=[]) trivial (by decide +kernel) (by kernel_rfl) (l5 N) (eS N) (fun _=>rfl) (fun _ _=>rfl) (fun f x=>by kernel_rfl) k
@[reducible] def w146:List SP:=[⟨[.sl 2],[.var 137 (.agg [.agg [.int .i64,.int .i64,.bool,.bool,.int .i64,.int .i64,.int .i64,.int .i64,.int .i64,.int .i64],.int .i64,.adr 1 []]),.var 135 (.agg [.str,.int .i64,.int .i64]),.row (.int .i64) 3]⟩]
noncomputable def Ju (N:Nat):(Int×Int×Int×Bool×Bool×Int×Int×Int×Int×Int×Int×Int×ByteArray×Int×Int)→Option (Int×Int×Bool×Bool×Int×Int×Int×Int×Int×Int×Int×ByteArray×Int×Int×(List Int))
 | (x0,x1,x2,x3,x4,x5,x6,x7,x8,x9,x10,x11,x12,x13,x14) =>
 Option.bind (eS N N ((0:Int),x0,x1,x2,x3,x4,x5,x6,x7,x8,x9,x10,x11,x12,x13,x14,[])) fun(y0_0,y0_1,y0_2,y0_3,y0_4,y0_5,y0_6,y0_7,y0_8,y0_9,y0_10,y0_11,y0_12,y0_13,y0_14) =>
 some ((y0_0,y0_1,y0_2,y0_3,y0_4,y0_5,y0_6,y0_7,y0_8,y0_9,y0_10,y0_11,y0_12,y0_13,y0_14))
noncomputable def X1 (N:Nat):Pk→Tr Pk:=ah s146 w146 (Ju N)
theorem Bz (N:Nat):av Tryz.prog (146) (X1 N) :=
 (af ag am (yi N) Tryz.func146 s146 w146 [0,1] (cuts:=[(58,Nm N N)]) ⟨Ke N N,trivial⟩ (fun _=>by kernel_rfl) (by decide +kernel) (Ju N) (fun x=>by kernel_rfl))
@[reducible] def s215:SP:=⟨[.int .i64],[]⟩
noncomputable def ah0 (N:Nat):List (Nat×(Pk→Tr Pk)):=[]
theorem OY (N:Nat):ai Tryz.prog (ah0 N):=trivial
@[reducible] def w215:List SP:=[⟨[.int .i64],[]⟩]
noncomputable def UM (N:Nat):(Int)→Option (Int)
 | x0 =>
 ac (decide (x0≤(2:Int))) (
  some ((1:Int))) (
  ac (decide (x0≤(4:Int))) (
   some ((2:Int))) (
   some ((4:Int))))
noncomputable def aS6 (N:Nat):Pk→Tr Pk:=ah s215 w215 (UM N)
theorem Xz (N:Nat):av Tryz.prog (215) (aS6 N) :=
 (af ag am (OY N) Tryz.func215 s215 w215 [] (cuts:=[]) trivial (fun _=>by kernel_rfl) (by decide +kernel) (UM N) (fun x=>by kernel_rfl))
@[reducible] def s216:SP:=⟨[.int .i64],[]⟩
noncomputable def ag9 (N:Nat):List (Nat×(Pk→Tr Pk)):=[]
theorem ya (N:Nat):ai Tryz.prog (ag9 N):=trivial
@[reducible] def Mo:LD:=⟨58,[3,4,0],[(.ret,[2]),(.exit 0,[3])],⟨[.int .i64,.int .i64,.int .i64],[]⟩,[(.exit 0,⟨[.int .i64],[]⟩)]⟩
abbrev C4:Type:=Int×Int×Int
abbrev Cl:Type:=Int
noncomputable def NN (N:Nat) (f:C4→Option Cl):C4→Option Cl
 | (x0,x1,x2) =>
 ac (decide (x1<x2)) (
  Option.bind (f (IntKind.wrap IntKind.i64 (x0*(2:Int)),IntKind.wrap IntKind.i64 (x1+(1:Int)),x2)) fun r=>some r) (
  some (x0))
noncomputable def sO (N:Nat):Nat→C4→Option Cl
 | 0,_=>none
 | k+1,x=>NN N (sO N k) x
noncomputable def Nc (N:Nat) (k:Nat):Cut:=Mo.cut (sO N k)
theorem J6 (N:Nat) (k:Nat):ak Tryz.prog false Tryz.f216 [] 58 (Nc N k) :=
 Mo.loopT ag am (ya N) Tryz.f216 [] (cuts:=[]) trivial (by decide +kernel) (by kernel_rfl) (NN N) (sO N) (fun _=>rfl) (fun _ _=>rfl) (fun f x=>by kernel_rfl) k
@[reducible] def w216:List SP:=[⟨[.int .i64],[]⟩]
noncomputable def Jn (N:Nat):(Int)→Option (Int)
 | x0 =>
 Option.bind (sO N N ((1:Int),(0:Int),x0)) fun y0 =>
 some (y0)
noncomputable def aS5 (N:Nat):Pk→Tr Pk:=ah s216 w216 (Jn N)
theorem Xy (N:Nat):av Tryz.prog (216) (aS5 N) :=
 (af ag am (ya N) Tryz.func216 s216 w216 [] (cuts:=[(58,Nc N N)]) ⟨J6 N N,trivial⟩ (fun _=>by kernel_rfl) (by decide +kernel) (Jn N) (fun x=>by kernel_rfl))
@[reducible] def s148:SP:=⟨[.adr 0 [],.int .i64,.int .i64,.int .i64],[.var 137 (.agg [.agg [.int .i64,.int .i64,.bool,.bool,.int .i64,.int .i64,.int .i64,.int .i64,.int .i64,.int .i64],.int .i64,.adr 1 []]),.var 135 (.agg [.str,.int .i64,.int .i64])]⟩
noncomputable def ak1 (N:Nat):List (Nat×(Pk→Tr Pk)):=[(146,X1 N),(215,aS6 N),(213,XB N),(216,aS5 N)]
theorem pj (N:Nat):ai Tryz.prog (ak1 N):=⟨Bz N,Xz N,Bv N,Xy N,trivial⟩
@[reducible] def wo:LD:=⟨64078,[2,0,3,13,14,11,1,10,15,12],[(.ret,[8,9]),(.exit 2,[13,12,10,1,11,3,0,2]),(.exit 1,[13,12,10,1,11,3,0,2]),(.exit 0,[12])],⟨[.int .i64,.adr 0 [],.int .i64,.int .i64,.str,.int .i64,.int .i64,.sl 2,.int .i64,.sl 3],[.var 137 (.agg [.agg [.int .i64,.int .i64,.bool,.bool,.int .i64,.int .i64,.int .i64,.int .i64,.int .i64,.int .i64],.int .i64,.adr 1 []]),.var 135 (.agg [.str,.int .i64,.int .i64]),.row (.int .i64) 3,.row (.int .i64) 3]⟩,[(.ret,⟨[.sl 2,.bool],[.var 137 (.agg [.agg [.int .i64,.int .i64,.bool,.bool,.int .i64,.int .i64,.int .i64,.int .i64,.int .i64,.int .i64],.int .i64,.adr 1 []]),.var 135 (.agg [.str,.int .i64,.int .i64]),.row (.int .i64) 3]⟩),(.exit 2,⟨[.int .i64,.sl 2,.sl 3,.int .i64,.int .i64,.int .i64,.adr 0 [],.int .i64],[.var 137 (.agg [.agg [.int .i64,.int .i64,.bool,.bool,.int .i64,.int .i64,.int .i64,.int .i64,.int .i64,.int .i64],.int .i64,.adr 1 []]),.var 135 (.agg [.str,.int .i64,.int .i64]),.row (.int .i64) 3,.row (.int .i64) 3]⟩)]⟩
abbrev nb:Type:=Int×Int×Int×ByteArray×Int×Int×Int×Int×Int×Bool×Bool×Int×Int×Int×Int×Int×Int×Int×ByteArray×Int×Int×(List Int)×(List Int)
abbrev mT:Type:=((Bool×Int×Int×Bool×Bool×Int×Int×Int×Int×Int×Int×Int×ByteArray×Int×Int×(List Int))⊕(Int×Int×Int×Int×Int×Int×Int×Bool×Bool×Int×Int×Int×Int×Int×Int×Int×ByteArray×Int×Int×(List Int)×(List Int)))
noncomputable def dU (N:Nat) (f:nb→Option mT):nb→Option mT
 | (x0,x1,x2,x3,x4,x5,x6,x7,x8,x9,x10,x11,x12,x13,x14,x15,x16,x17,x18,x19,x20,x21,x22) =>
 ac (decide (x6<x0)) (
  ac (decide ((0:Int)≤IntKind.wrap IntKind.i64 (Int.tdiv (IntKind.wrap IntKind.i64 (x6*x4)) (8:Int)))) (
   Option.bind (x3[Int.toNat (IntKind.wrap IntKind.i64 (Int.tdiv (IntKind.wrap IntKind.i64 (x6*x4)) (8:Int)))]?) fun y0 =>
   Option.bind (Jn N (IntKind.wrap IntKind.i64 (IntKind.wrap IntKind.i64 ((8:Int)-x4)-Int.tmod (IntKind.wrap IntKind.i64 (x6*x4)) (8:Int)))) fun y1 =>
   ac (decide (y1=(0:Int))) (
    none ) (
    Option.bind (Jn N x4) fun y2 =>
    ac (decide (y2=(0:Int))) (
     none ) (
     ac (decide (Int.tmod (IntKind.wrap IntKind.i64 (Int.tdiv (IntKind.wrap IntKind.i64 (↑(UInt8.toNat y0):Int)) y1)) y2≥x5)) (
      some (.inl ((false,x7,x8,x9,x10,x11,x12,x13,x14,x15,x16,x17,x18,x19,x20,[])))) (
      ac (within (Int.tmod (IntKind.wrap IntKind.i64 (Int.tdiv (IntKind.wrap IntKind.i64 (↑(UInt8.toNat y0):Int)) y1)) y2) (List.length x21)) (
       Option.bind (x21[Int.toNat (Int.tmod (IntKind.wrap IntKind.i64 (Int.tdiv (IntKind.wrap IntKind.i64 (↑(UInt8.toNat y0):Int)) y1)) y2)]?) fun y3 =>
       ac (decide ((List.length x22+List.length [y3])*(8:Nat)≤(140737488355328:Nat)∧List.length x22+List.length [y3]≤(140737488355328:Nat))) (
        Option.bind (f (x0,x1,x2,x3,x4,x5,IntKind.wrap IntKind.i64 (x6+(1:Int)),x7,x8,x9,x10,x11,x12,x13,x14,x15,x16,x17,x18,x19,x20,x21,x22++[y3])) fun r=>match r with|.inl y=>some (.inl y)|.inr y=>some (.inr y)) (
        none )) (
       none ))))) (
   none )) (
  some (.inr ((x2,x5,x4,x1,x0,x7,x8,x9,x10,x11,x12,x13,x14,x15,x16,x17,x18,x19,x20,x22,x21))))
noncomputable def bj (N:Nat):Nat→nb→Option mT
 | 0,_=>none
 | k+1,x=>dU N (bj N k) x
noncomputable def np (N:Nat) (k:Nat):Cut:=wo.cut (bj N k)
theorem mo (N:Nat) (k:Nat):ak Tryz.prog false Tryz.f148 [0,1] 64078 (np N k) :=
 wo.loopT ag am (pj N) Tryz.f148 [0,1] (cuts:=[]) trivial (by decide +kernel) (by kernel_rfl) (dU N) (bj N) (fun _=>rfl) (fun _ _=>rfl) (fun f x=>by kernel_rfl) k
@[reducible] def FJ:LD:=⟨250,[12,10,1,11,13,3,0,2],[(.ret,[8,9]),(.exit 0,[12])],⟨[.sl 2,.sl 3,.int .i64,.int .i64,.int .i64,.int .i64,.adr 0 [],.int .i64],[.var 137 (.agg [.agg [.int .i64,.int .i64,.bool,.bool,.int .i64,.int .i64,.int .i64,.int .i64,.int .i64,.int .i64],.int .i64,.adr 1 []]),.var 135 (.agg [.str,.int .i64,.int .i64]),.row (.int .i64) 3,.row (.int .i64) 3]⟩,[(.ret,⟨[.sl 2,.bool],[.var 137 (.agg [.agg [.int .i64,.int .i64,.bool,.bool,.int .i64,.int .i64,.int .i64,.int .i64,.int .i64,.int .i64],.int .i64,.adr 1 []]),.var 135 (.agg [.str,.int .i64,.int .i64]),.row (.int .i64) 3]⟩),(.exit 0,⟨[.sl 2],[.var 137 (.agg [.agg [.int .i64,.int .i64,.bool,.bool,.int .i64,.int .i64,.int .i64,.int .i64,.int .i64,.int .i64],.int .i64,.adr 1 []]),.var 135 (.agg [.str,.int .i64,.int .i64]),.row (.int .i64) 3]⟩)]⟩
abbrev v6:Type:=Int×Int×Int×Int×Int×Int×Int×Bool×Bool×Int×Int×Int×Int×Int×Int×Int×ByteArray×Int×Int×(List Int)×(List Int)
abbrev vk:Type:=((Bool×Int×Int×Bool×Bool×Int×Int×Int×Int×Int×Int×Int×ByteArray×Int×Int×(List Int))⊕(Int×Int×Bool×Bool×Int×Int×Int×Int×Int×Int×Int×ByteArray×Int×Int×(List Int)))
noncomputable def iE (N:Nat) (f:v6→Option vk):v6→Option vk
 | (x0,x1,x2,x3,x4,x5,x6,x7,x8,x9,x10,x11,x12,x13,x14,x15,x16,x17,x18,x19,x20) =>
 ac (decide (x2<x3)) (
  Option.bind (xk N (IntKind.wrap IntKind.i64 (Int.tdiv (IntKind.wrap IntKind.i64 (IntKind.wrap IntKind.i64 (x4*x1)+(7:Int))) (8:Int)),x16,x17,x18)) fun y0 =>
  ac (y0.2.2.2 != (0:Int)) (
   some (.inl ((false,x5,x6,x7,x8,x9,x10,x11,x12,x13,x14,x15,y0.2.1,y0.2.2.1,y0.2.2.2,[])))) (
   Option.bind (bj N N (x4,x3,x2,y0.1,x1,x0,(0:Int),x5,x6,x7,x8,x9,x10,x11,x12,x13,x14,x15,y0.2.1,y0.2.2.1,y0.2.2.2,x20,x19)) fun y1 =>
   match y1 with
   | .inl (y2_0,y2_1,y2_2,y2_3,y2_4,y2_5,y2_6,y2_7,y2_8,y2_9,y2_10,y2_11,y2_12,y2_13,y2_14,y2_15) =>
    some (.inl ((y2_0,y2_1,y2_2,y2_3,y2_4,y2_5,y2_6,y2_7,y2_8,y2_9,y2_10,y2_11,y2_12,y2_13,y2_14,y2_15)))
   | .inr (y2_0,y2_1,y2_2,y2_3,y2_4,y2_5,y2_6,y2_7,y2_8,y2_9,y2_10,y2_11,y2_12,y2_13,y2_14,y2_15,y2_16,y2_17,y2_18,y2_19,y2_20) =>
    Option.bind (f (y2_1,y2_2,IntKind.wrap IntKind.i64 (y2_0+(1:Int)),y2_3,y2_4,y2_5,y2_6,y2_7,y2_8,y2_9,y2_10,y2_11,y2_12,y2_13,y2_14,y2_15,y2_16,y2_17,y2_18,y2_19,y2_20)) fun r=>match r with|.inl y=>some (.inl y)|.inr y=>some (.inr y))) (
  some (.inr ((x5,x6,x7,x8,x9,x10,x11,x12,x13,x14,x15,x16,x17,x18,x19))))
noncomputable def bS (N:Nat):Nat→v6→Option vk
 | 0,_=>none
 | k+1,x=>iE N (bS N k) x
noncomputable def Hc (N:Nat) (k:Nat):Cut:=FJ.cut (bS N k)
theorem Hb (N:Nat) (k:Nat):ak Tryz.prog false Tryz.f148 [0,1] 250 (Hc N k) :=
 FJ.loopT ag am (pj N) Tryz.f148 [0,1] (cuts:=[(64078,np N N)]) ⟨mo N N,trivial⟩ (by decide +kernel) (by kernel_rfl) (iE N) (bS N) (fun _=>rfl) (fun _ _=>rfl) (fun f x=>by kernel_rfl) k
@[reducible] def w148:List SP:=[⟨[.tup [.sl 2,.bool]],[.var 137 (.agg [.agg [.int .i64,.int .i64,.bool,.bool,.int .i64,.int .i64,.int .i64,.int .i64,.int .i64,.int .i64],.int .i64,.adr 1 []]),.var 135 (.agg [.str,.int .i64,.int .i64]),.row (.int .i64) 3]⟩]
noncomputable def U2 (N:Nat):(Int×Int×Int×Int×Int×Bool×Bool×Int×Int×Int×Int×Int×Int×Int×ByteArray×Int×Int)→Option (Bool×Int×Int×Bool×Bool×Int×Int×Int×Int×Int×Int×Int×ByteArray×Int×Int×(List Int))
 | (x0,x1,x2,x3,x4,x5,x6,x7,x8,x9,x10,x11,x12,x13,x14,x15,x16) =>
 Option.bind (Ju N (x0,x3,x4,x5,x6,x7,x8,x9,x10,x11,x12,x13,x14,x15,x16)) fun(y0_0,y0_1,y0_2,y0_3,y0_4,y0_5,y0_6,y0_7,y0_8,y0_9,y0_10,y0_11,y0_12,y0_13,y0_14) =>
 Option.bind (UM N x0) fun y1 =>
 Option.bind (bS N N (x0,y1,(0:Int),x2,x1,y0_0,y0_1,y0_2,y0_3,y0_4,y0_5,y0_6,y0_7,y0_8,y0_9,y0_10,y0_11,y0_12,y0_13,[],y0_14)) fun y2 =>
 match y2 with
 | .inl (y3_0,y3_1,y3_2,y3_3,y3_4,y3_5,y3_6,y3_7,y3_8,y3_9,y3_10,y3_11,y3_12,y3_13,y3_14,y3_15) =>
  some ((y3_0,y3_1,y3_2,y3_3,y3_4,y3_5,y3_6,y3_7,y3_8,y3_9,y3_10,y3_11,y3_12,y3_13,y3_14,y3_15))
 | .inr (y3_0,y3_1,y3_2,y3_3,y3_4,y3_5,y3_6,y3_7,y3_8,y3_9,y3_10,y3_11,y3_12,y3_13,y3_14) =>
  some ((true,y3_0,y3_1,y3_2,y3_3,y3_4,y3_5,y3_6,y3_7,y3_8,y3_9,y3_10,y3_11,y3_12,y3_13,y3_14))
noncomputable def aU9 (N:Nat):Pk→Tr Pk:=ah s148 w148 (U2 N)
theorem XZ (N:Nat):av Tryz.prog (148) (aU9 N) :=
 (af ag am (pj N) Tryz.func148 s148 w148 [0,1] (cuts:=[(64078,np N N),(250,Hc N N)]) ⟨mo N N,Hb N N,trivial⟩ (fun _=>by kernel_rfl) (by decide +kernel) (U2 N) (fun x=>by kernel_rfl))
@[reducible] def s217:SP:=⟨[.adr 0 []],[.var 137 (.agg [.agg [.int .i64,.int .i64,.bool,.bool,.int .i64,.int .i64,.int .i64,.int .i64,.int .i64,.int .i64],.int .i64,.adr 1 []]),.var 135 (.agg [.str,.int .i64,.int .i64])]⟩
noncomputable def ag8 (N:Nat):List (Nat×(Pk→Tr Pk)):=[(145,X2 N)]
theorem xZ (N:Nat):ai Tryz.prog (ag8 N):=⟨BA N,trivial⟩
@[reducible] def Mn:LD:=⟨14,[3,0],[(.ret,[2]),(.exit 0,[2])],⟨[.int .i64,.adr 0 []],[.var 137 (.agg [.agg [.int .i64,.int .i64,.bool,.bool,.int .i64,.int .i64,.int .i64,.int .i64,.int .i64,.int .i64],.int .i64,.adr 1 []]),.var 135 (.agg [.str,.int .i64,.int .i64])]⟩,[(.ret,⟨[.int .i64],[.var 137 (.agg [.agg [.int .i64,.int .i64,.bool,.bool,.int .i64,.int .i64,.int .i64,.int .i64,.int .i64,.int .i64],.int .i64,.adr 1 []]),.var 135 (.agg [.str,.int .i64,.int .i64])]⟩)]⟩
abbrev C3:Type:=Int×Int×Int×Bool×Bool×Int×Int×Int×Int×Int×Int×Int×ByteArray×Int×Int
abbrev Ck:Type:=Int×Int×Int×Bool×Bool×Int×Int×Int×Int×Int×Int×Int×ByteArray×Int×Int
noncomputable def sT (N:Nat) (f:C3→Option Ck):C3→Option Ck
 | (x0,x1,x2,x3,x4,x5,x6,x7,x8,x9,x10,x11,x12,x13,x14) =>
 Option.bind (Jv N ((1:Int),x12,x13,x14)) fun y0 =>
 ac (y0.1 != (255:Int)) (
  some ((IntKind.wrap IntKind.i64 (x0+y0.1),x1,x2,x3,x4,x5,x6,x7,x8,x9,x10,x11,y0.2.1,y0.2.2.1,y0.2.2.2))) (
  Option.bind (f (IntKind.wrap IntKind.i64 (x0+y0.1),x1,x2,x3,x4,x5,x6,x7,x8,x9,x10,x11,y0.2.1,y0.2.2.1,y0.2.2.2)) fun r=>some r)
noncomputable def lN (N:Nat):Nat→C3→Option Ck
 | 0,_=>none
 | k+1,x=>sT N (lN N k) x
noncomputable def Nb (N:Nat) (k:Nat):Cut:=Mn.cut (lN N k)
theorem J5 (N:Nat) (k:Nat):ak Tryz.prog false Tryz.f217 [0,1] 14 (Nb N k) :=
 Mn.loopT ag am (xZ N) Tryz.f217 [0,1] (cuts:=[]) trivial (by decide +kernel) (by kernel_rfl) (sT N) (lN N) (fun _=>rfl) (fun _ _=>rfl) (fun f x=>by kernel_rfl) k
@[reducible] def w217:List SP:=[⟨[.int .i64],[.var 137 (.agg [.agg [.int .i64,.int .i64,.bool,.bool,.int .i64,.int .i64,.int .i64,.int .i64,.int .i64,.int .i64],.int .i64,.adr 1 []]),.var 135 (.agg [.str,.int .i64,.int .i64])]⟩]
noncomputable def QH (N:Nat):(Int×Int×Bool×Bool×Int×Int×Int×Int×Int×Int×Int×ByteArray×Int×Int)→Option (Int×Int×Int×Bool×Bool×Int×Int×Int×Int×Int×Int×Int×ByteArray×Int×Int)
 | (x0,x1,x2,x3,x4,x5,x6,x7,x8,x9,x10,x11,x12,x13) =>
 Option.bind (lN N N ((1:Int),x0,x1,x2,x3,x4,x5,x6,x7,x8,x9,x10,x11,x12,x13)) fun(y0_0,y0_1,y0_2,y0_3,y0_4,y0_5,y0_6,y0_7,y0_8,y0_9,y0_10,y0_11,y0_12,y0_13,y0_14) =>
 some ((y0_0,y0_1,y0_2,y0_3,y0_4,y0_5,y0_6,y0_7,y0_8,y0_9,y0_10,y0_11,y0_12,y0_13,y0_14))
noncomputable def aS4 (N:Nat):Pk→Tr Pk:=ah s217 w217 (QH N)
theorem Xx (N:Nat):av Tryz.prog (217) (aS4 N) :=
 (af ag am (xZ N) Tryz.func217 s217 w217 [0,1] (cuts:=[(14,Nb N N)]) ⟨J5 N N,trivial⟩ (fun _=>by kernel_rfl) (by decide +kernel) (QH N) (fun x=>by kernel_rfl))
end Go.Proofs.YtfcamlibbfnldaaGreat.Am
