/- The seat's Go functions come to the Lean functions written here, wherever these give an answer (part C). -/
import Derived.Test.YtfcamlibbfnldaaGreatSB
set_option linter.unusedSimpArgs false
set_option linter.unusedVariables false
set_option linter.unusedSectionVars false
set_option maxRecDepth 100000
namespace Go.Proofs.YtfcamlibbfnldaaGreat.Am
open Go.Am
@[reducible] def s360 : SP := ⟨[.ro (.int .i64)],[]⟩
noncomputable def Xp (N : Nat) : List (Nat × (Pk → Tr Pk)) := [(378,ax3 N)]
theorem jM (N : Nat) : ah Tryz.prog (Xp N) := ⟨Tx N,trivial⟩
@[reducible] def uB : LD := ⟨29863,[37,3,4,5,0],[(.ret,[2]),(.exit 2,[4,5,3,0]),(.exit 1,[3,4,0]),(.exit 0,[3]),(.normal,[4,5,3,0])],⟨[.bool,.sl 0,.int .i64,.int .i64,.ro (.int .i64)],[.row y4 373]⟩,[(.normal,⟨[.int .i64,.int .i64,.sl 0,.ro (.int .i64)],[.row y4 373]⟩)]⟩
noncomputable def gW (N : Nat) : (Bool × Int × Int × (List Int) × (List (Int × (Int × (Int × Unit))))) → Option (Int × Int × (List Int) × (List (Int × (Int × (Int × Unit)))))
  | (x0,x1,x2,x3,x4) =>
  ac (x0) (
    ac (decide ((List.length x4 + List.length [((17 : Int),(3 : Int),IntKind.wrap IntKind.i64 (x2 - (3 : Int)),())]) * (24 : Nat) ≤ (140737488355328 : Nat) ∧ List.length x4 + List.length [((17 : Int),(3 : Int),IntKind.wrap IntKind.i64 (x2 - (3 : Int)),())] ≤ (140737488355328 : Nat))) (
      some ((x1,x2,x3,x4 ++ [((17 : Int),(3 : Int),IntKind.wrap IntKind.i64 (x2 - (3 : Int)),())]))) (
      none )) (
    ac (decide (x1 > (0 : Int))) (
      ac (within x1 (List.length x3)) (
        Option.bind (x3[Int.toNat x1]?) fun y0 =>
        ac (within (IntKind.wrap IntKind.i64 (x1 - (1 : Int))) (List.length x3)) (
          Option.bind (x3[Int.toNat (IntKind.wrap IntKind.i64 (x1 - (1 : Int)))]?) fun y1 =>
          ac (y0 == y1) (
            ac (decide (x2 > (2 : Int))) (
              ac (decide ((List.length x4 + List.length [((16 : Int),(2 : Int),IntKind.wrap IntKind.i64 ((if (6 : Int) < x2 then (6 : Int) else x2) - (3 : Int)),())]) * (24 : Nat) ≤ (140737488355328 : Nat) ∧ List.length x4 + List.length [((16 : Int),(2 : Int),IntKind.wrap IntKind.i64 ((if (6 : Int) < x2 then (6 : Int) else x2) - (3 : Int)),())] ≤ (140737488355328 : Nat))) (
                some ((x1,if (6 : Int) < x2 then (6 : Int) else x2,x3,x4 ++ [((16 : Int),(2 : Int),IntKind.wrap IntKind.i64 ((if (6 : Int) < x2 then (6 : Int) else x2) - (3 : Int)),())]))) (
                none )) (
              ac (within x1 (List.length x3)) (
                Option.bind (x3[Int.toNat x1]?) fun y2 =>
                ac (decide ((List.length x4 + List.length [(y2,(0 : Int),(0 : Int),())]) * (24 : Nat) ≤ (140737488355328 : Nat) ∧ List.length x4 + List.length [(y2,(0 : Int),(0 : Int),())] ≤ (140737488355328 : Nat))) (
                  some ((x1,(1 : Int),x3,x4 ++ [(y2,(0 : Int),(0 : Int),())]))) (
                  none )) (
                none ))) (
            ac (within x1 (List.length x3)) (
              Option.bind (x3[Int.toNat x1]?) fun y3 =>
              ac (decide ((List.length x4 + List.length [(y3,(0 : Int),(0 : Int),())]) * (24 : Nat) ≤ (140737488355328 : Nat) ∧ List.length x4 + List.length [(y3,(0 : Int),(0 : Int),())] ≤ (140737488355328 : Nat))) (
                some ((x1,(1 : Int),x3,x4 ++ [(y3,(0 : Int),(0 : Int),())]))) (
                none )) (
              none ))) (
          none )) (
        none )) (
      ac (within x1 (List.length x3)) (
        Option.bind (x3[Int.toNat x1]?) fun y4 =>
        ac (decide ((List.length x4 + List.length [(y4,(0 : Int),(0 : Int),())]) * (24 : Nat) ≤ (140737488355328 : Nat) ∧ List.length x4 + List.length [(y4,(0 : Int),(0 : Int),())] ≤ (140737488355328 : Nat))) (
          some ((x1,(1 : Int),x3,x4 ++ [(y4,(0 : Int),(0 : Int),())]))) (
          none )) (
        none )))
noncomputable def ib (N : Nat) (_ : Nat) : Cut := uB.cut (gW N)
theorem fq (N : Nat) (k : Nat) : aj Tryz.prog false Tryz.f360 [] 29863 (ib N k) :=
  uB.pieceT af al (jM N) Tryz.f360 [] (cuts := []) trivial (by decide +kernel) (by kernel_rfl) (gW N) (fun x => by kernel_rfl)
@[reducible] def xj : LD := ⟨7465,[21,3,4,5,0],[(.ret,[2]),(.exit 2,[4,5,3,0]),(.exit 1,[3,4,0]),(.exit 0,[3]),(.normal,[4,5,3,0])],⟨[.bool,.sl 0,.int .i64,.int .i64,.ro (.int .i64)],[.row y4 373]⟩,[(.normal,⟨[.int .i64,.int .i64,.sl 0,.ro (.int .i64)],[.row y4 373]⟩)]⟩
noncomputable def kh (N : Nat) : (Bool × Int × Int × (List Int) × (List (Int × (Int × (Int × Unit))))) → Option (Int × Int × (List Int) × (List (Int × (Int × (Int × Unit)))))
  | (x0,x1,x2,x3,x4) =>
  ac (x0) (
    ac (decide ((List.length x4 + List.length [((18 : Int),(7 : Int),IntKind.wrap IntKind.i64 (x2 - (11 : Int)),())]) * (24 : Nat) ≤ (140737488355328 : Nat) ∧ List.length x4 + List.length [((18 : Int),(7 : Int),IntKind.wrap IntKind.i64 (x2 - (11 : Int)),())] ≤ (140737488355328 : Nat))) (
      some ((x1,x2,x3,x4 ++ [((18 : Int),(7 : Int),IntKind.wrap IntKind.i64 (x2 - (11 : Int)),())]))) (
      none )) (
    ac (within x1 (List.length x3)) (
      Option.bind (x3[Int.toNat x1]?) fun y0 =>
      ac (y0 == (0 : Int)) (
        Option.bind (gW N (decide (x2 > (2 : Int)),x1,x2,x3,x4)) fun y1 =>
        some ((y1.1,y1.2.1,y1.2.2.1,y1.2.2.2))) (
        Option.bind (gW N (false,x1,x2,x3,x4)) fun y2 =>
        some ((y2.1,y2.2.1,y2.2.2.1,y2.2.2.2)))) (
      none ))
noncomputable def pq (N : Nat) (_ : Nat) : Cut := xj.cut (kh N)
theorem nm (N : Nat) (k : Nat) : aj Tryz.prog false Tryz.f360 [] 7465 (pq N k) :=
  xj.pieceT af al (jM N) Tryz.f360 [] (cuts := [(29863,ib N N)]) ⟨fq N N,trivial⟩ (by decide +kernel) (by kernel_rfl) (kh N) (fun x => by kernel_rfl)
@[reducible] def JB : LD := ⟨58,[3,4,0],[(.ret,[2]),(.exit 0,[3])],⟨[.sl 0,.int .i64,.ro (.int .i64)],[.row y4 373]⟩,[(.exit 0,⟨[.sl 0],[.row y4 373]⟩)]⟩
abbrev AU : Type := Int × (List Int) × (List (Int × (Int × (Int × Unit))))
abbrev Ad : Type := (List (Int × (Int × (Int × Unit))))
noncomputable def Le (N : Nat) (f : AU → Option Ad) : AU → Option Ad
  | (x0,x1,x2) =>
  ac (decide (x0 < (↑(List.length x1) : Int))) (
    Option.bind (ah2 N (x1,x0,(138 : Int))) fun y0 =>
    ac (within x0 (List.length x1)) (
      Option.bind (x1[Int.toNat x0]?) fun y1 =>
      ac (y1 == (0 : Int)) (
        Option.bind (kh N (decide (y0 > (10 : Int)),x0,y0,x1,x2)) fun y2 =>
        Option.bind (f (IntKind.wrap IntKind.i64 (y2.1 + y2.2.1),y2.2.2.1,y2.2.2.2)) fun r => some r) (
        Option.bind (kh N (false,x0,y0,x1,x2)) fun y3 =>
        Option.bind (f (IntKind.wrap IntKind.i64 (y3.1 + y3.2.1),y3.2.2.1,y3.2.2.2)) fun r => some r)) (
      none )) (
    some (x2))
noncomputable def q8 (N : Nat) : Nat → AU → Option Ad
  | 0,_ => none
  | k + 1,x => Le N (q8 N k) x
noncomputable def Ku (N : Nat) (k : Nat) : Cut := JB.cut (q8 N k)
theorem HA (N : Nat) (k : Nat) : aj Tryz.prog false Tryz.f360 [] 58 (Ku N k) :=
  JB.loopT af al (jM N) Tryz.f360 [] (cuts := [(29863,ib N N),(7465,pq N N)]) ⟨fq N N,nm N N,trivial⟩ (by decide +kernel) (by kernel_rfl) (Le N) (q8 N) (fun _ => rfl) (fun _ _ => rfl) (fun f x => by kernel_rfl) k
@[reducible] def w360 : List SP := [⟨[.sl 0],[.row y4 373]⟩]
noncomputable def ah9 (N : Nat) : ((List Int)) → Option ((List (Int × (Int × (Int × Unit)))))
  | x0 =>
  Option.bind (q8 N N ((0 : Int),x0,[])) fun y0 =>
  some (y0)
noncomputable def ay1 (N : Nat) : Pk → Tr Pk := ag s360 w360 (ah9 N)
theorem TI (N : Nat) : au Tryz.prog (360) (ay1 N) :=
  (ae af al (jM N) Tryz.func360 s360 w360 [] (cuts := [(29863,ib N N),(7465,pq N N),(58,Ku N N)]) ⟨fq N N,nm N N,HA N N,trivial⟩ (fun _ => by kernel_rfl) (by decide +kernel) (ah9 N) (fun x => by kernel_rfl))
@[reducible] def s362 : SP := ⟨[],[]⟩
noncomputable def Xn (N : Nat) : List (Nat × (Pk → Tr Pk)) := []
theorem vT (N : Nat) : ah Tryz.prog (Xn N) := trivial
@[reducible] def Jz : LD := ⟨58,[1,2],[(.ret,[0]),(.exit 0,[1])],⟨[.sl 0,.int .i64],[.row (.int .i64) 3]⟩,[(.exit 0,⟨[.sl 0],[.row (.int .i64) 3]⟩)]⟩
abbrev AS : Type := Int × (List Int)
abbrev Ab : Type := (List Int)
noncomputable def Lc (N : Nat) (f : AS → Option Ab) : AS → Option Ab
  | (x0,x1) =>
  ac (decide (x0 < (8 : Int))) (
    ac (decide ((List.length x1 + List.length [IntKind.wrap IntKind.i64 ((7 : Int) + x0),IntKind.wrap IntKind.i64 ((8 : Int) - x0)]) * (8 : Nat) ≤ (140737488355328 : Nat) ∧ List.length x1 + List.length [IntKind.wrap IntKind.i64 ((7 : Int) + x0),IntKind.wrap IntKind.i64 ((8 : Int) - x0)] ≤ (140737488355328 : Nat))) (
      Option.bind (f (IntKind.wrap IntKind.i64 (x0 + (1 : Int)),x1 ++ [IntKind.wrap IntKind.i64 ((7 : Int) + x0),IntKind.wrap IntKind.i64 ((8 : Int) - x0)])) fun r => some r) (
      none )) (
    some (x1))
noncomputable def q6 (N : Nat) : Nat → AS → Option Ab
  | 0,_ => none
  | k + 1,x => Lc N (q6 N k) x
noncomputable def Ks (N : Nat) (k : Nat) : Cut := Jz.cut (q6 N k)
theorem Hz (N : Nat) (k : Nat) : aj Tryz.prog false Tryz.f362 [] 58 (Ks N k) :=
  Jz.loopT af al (vT N) Tryz.f362 [] (cuts := []) trivial (by decide +kernel) (by kernel_rfl) (Lc N) (q6 N) (fun _ => rfl) (fun _ _ => rfl) (fun f x => by kernel_rfl) k
@[reducible] def w362 : List SP := [⟨[.sl 0],[.row (.int .i64) 3]⟩]
noncomputable def VH (N : Nat) : (Unit) → Option ((List Int))
  | () =>
  Option.bind (q6 N N ((1 : Int),[(16 : Int),(17 : Int),(18 : Int),(0 : Int)])) fun y0 =>
  ac (decide ((List.length y0 + (1 : Nat)) * (8 : Nat) ≤ (140737488355328 : Nat) ∧ List.length y0 + (1 : Nat) ≤ (140737488355328 : Nat))) (
    some (y0 ++ [(15 : Int)])) (
    none )
noncomputable def ad1 (N : Nat) : Pk → Tr Pk := ag s362 w362 (VH N)
theorem IV (N : Nat) : au Tryz.prog (362) (ad1 N) :=
  (ae af al (vT N) Tryz.func362 s362 w362 [] (cuts := [(58,Ks N N)]) ⟨Hz N N,trivial⟩ (fun _ => by kernel_rfl) (by decide +kernel) (VH N) (fun x => by kernel_rfl))
@[reducible] def s341 : SP := ⟨[.adr 0 [],.ro (.int .i64),.ro (.int .i64)],[.var 221 (.agg [.sl 1,.int .i64,.int .i64]),.row (.int .u8) 5]⟩
noncomputable def XF (N : Nat) : List (Nat × (Pk → Tr Pk)) := [(77,T77 N),(361,ad2 N),(360,ay1 N),(358,ad3 N),(354,ad6 N),(362,ad1 N),(269,Gz N),(222,UF N)]
theorem dV (N : Nat) : ah Tryz.prog (XF N) := ⟨ab8 N,IW N,TI N,IX N,I0 N,IV N,j6 N,zD N,trivial⟩
@[reducible] def Dm : LD := ⟨506,[58,57,1,2,8,0,56,9],[(.ret,[6]),(.exit 0,[9,0,8,2,1])],⟨[.int .i64,.int .i64,.ro (.int .i64),.ro (.int .i64),.sl 1,.adr 0 [],.sl 1,.sl 2],[.var 221 (.agg [.sl 3,.int .i64,.int .i64]),.row y4 373,.row (.int .i64) 3,.row (.int .u8) 5]⟩,[(.exit 0,⟨[.sl 1,.adr 0 [],.sl 2,.ro (.int .i64),.ro (.int .i64)],[.var 221 (.agg [.sl 3,.int .i64,.int .i64]),.row (.int .i64) 3,.row y4 373,.row (.int .u8) 5]⟩)]⟩
abbrev uf : Type := Int × Int × (List Int) × (List Int) × Int × Int × (List (Int × (Int × (Int × Unit)))) × (List Int) × (List Int)
abbrev tq : Type := (List Int) × (List Int) × Int × Int × (List Int) × (List (Int × (Int × (Int × Unit)))) × (List Int)
noncomputable def Ff (N : Nat) (f : uf → Option tq) : uf → Option tq
  | (x0,x1,x2,x3,x4,x5,x6,x7,x8) =>
  ac (decide (x0 < x1)) (
    ac (within x0 (List.length x6)) (
      Option.bind (x6[Int.toNat x0]?) fun y0 =>
      ac (within y0.1 (List.length x7)) (
        Option.bind (x7[Int.toNat y0.1]?) fun y1 =>
        ac (within y0.1 (List.length x7)) (
          Option.bind (x7[Int.toNat y0.1]?) fun y2 =>
          Option.bind (f (IntKind.wrap IntKind.i64 (x0 + (1 : Int)),x1,x2,x3,x4,x5,x6,List.set x7 (Int.toNat y0.1) (IntKind.wrap IntKind.i64 (y1 + (1 : Int))),x8)) fun r => some r) (
          none )) (
        none )) (
      none )) (
    some ((x3,x2,x4,x5,x7,x6,x8)))
noncomputable def mX (N : Nat) : Nat → uf → Option tq
  | 0,_ => none
  | k + 1,x => Ff N (mX N k) x
noncomputable def gi (N : Nat) (k : Nat) : Cut := Dm.cut (mX N k)
theorem dB (N : Nat) (k : Nat) : aj Tryz.prog false Tryz.f341 [0] 506 (gi N k) :=
  Dm.loopT af al (dV N) Tryz.f341 [0] (cuts := []) trivial (by decide +kernel) (by kernel_rfl) (Ff N) (mX N) (fun _ => rfl) (fun _ _ => rfl) (fun f x => by kernel_rfl) k
@[reducible] def xp : LD := ⟨8188,[17,12,0,8,14,16,2,1],[(.ret,[6]),(.exit 2,[1,2,16,17,14,8,0,12])],⟨[.int .i64,.sl 1,.adr 0 [],.sl 2,.sl 3,.sl 4,.ro (.int .i64),.ro (.int .i64)],[.var 221 (.agg [.sl 5,.int .i64,.int .i64]),.row (.int .i64) 3,.row y4 373,.row y0 248,.row (.int .i64) 3,.row (.int .u8) 5]⟩,[(.exit 2,⟨[.ro (.int .i64),.ro (.int .i64),.sl 1,.int .i64,.sl 2,.sl 3,.adr 0 [],.sl 4],[.var 221 (.agg [.sl 5,.int .i64,.int .i64]),.row (.int .i64) 3,.row y0 248,.row y4 373,.row (.int .i64) 3,.row (.int .u8) 5]⟩)]⟩
abbrev o6 : Type := Int × (List Int) × (List Int) × Int × Int × (List Int) × (List (Int × (Int × (Int × Unit)))) × (List (Int × (Int × Unit))) × (List Int) × (List Int)
abbrev oL : Type := (List Int) × (List Int) × Int × Int × Int × (List Int) × (List (Int × (Int × Unit))) × (List (Int × (Int × (Int × Unit)))) × (List Int) × (List Int)
noncomputable def yi (N : Nat) (f : o6 → Option oL) : o6 → Option oL
  | (x0,x1,x2,x3,x4,x5,x6,x7,x8,x9) =>
  ac (decide (x0 > (4 : Int))) (
    ac (within (IntKind.wrap IntKind.i64 (x0 - (1 : Int))) (List.length x8)) (
      Option.bind (x8[Int.toNat (IntKind.wrap IntKind.i64 (x0 - (1 : Int)))]?) fun y0 =>
      ac (within y0 (List.length x5)) (
        Option.bind (x5[Int.toNat y0]?) fun y1 =>
        ac (y1 == (0 : Int)) (
          Option.bind (f (IntKind.wrap IntKind.i64 (x0 - (1 : Int)),x1,x2,x3,x4,x5,x6,x7,x8,x9)) fun r => some r) (
          some ((x2,x1,x0,x3,x4,x8,x7,x6,x5,x9)))) (
        none )) (
      none )) (
    some ((x2,x1,x0,x3,x4,x8,x7,x6,x5,x9)))
noncomputable def kp (N : Nat) : Nat → o6 → Option oL
  | 0,_ => none
  | k + 1,x => yi N (kp N k) x
noncomputable def gh (N : Nat) (k : Nat) : Cut := xp.cut (kp N k)
theorem dS (N : Nat) (k : Nat) : aj Tryz.prog false Tryz.f341 [0] 8188 (gh N k) :=
  xp.loopT af al (dV N) Tryz.f341 [0] (cuts := [(506,gi N N)]) ⟨dB N N,trivial⟩ (by decide +kernel) (by kernel_rfl) (yi N) (kp N) (fun _ => rfl) (fun _ _ => rfl) (fun f x => by kernel_rfl) k
@[reducible] def pZ : LD := ⟨262138,[116,115,14,8,114,0,12],[(.ret,[6]),(.exit 4,[8,14,0])],⟨[.int .i64,.int .i64,.sl 1,.sl 2,.slp 3 (.c 0) .h,.adr 0 [],.sl 4],[.var 221 (.agg [.sl 5,.int .i64,.int .i64]),.row y0 248,.row y4 373,.row (.int .i64) 3,.row (.int .i64) 3,.row (.int .u8) 5]⟩,[(.exit 4,⟨[.sl 1,.sl 2,.adr 0 []],[.var 221 (.agg [.sl 3,.int .i64,.int .i64]),.row y4 373,.row y0 248,.row (.int .u8) 5]⟩)]⟩
abbrev jd : Type := Int × Int × Nat × Int × Int × (List (Int × (Int × Unit))) × (List (Int × (Int × (Int × Unit)))) × (List Int) × (List Int) × (List Int)
abbrev iY : Type := Int × Int × (List (Int × (Int × (Int × Unit)))) × (List (Int × (Int × Unit))) × (List Int)
noncomputable def qn (N : Nat) (f : jd → Option iY) : jd → Option iY
  | (x0,x1,x2,x3,x4,x5,x6,x7,x8,x9) =>
  ac (decide (x0 < x1)) (
    ac (within x0 x2) (
      Option.bind (x7[(0 : Nat) + Int.toNat x0]?) fun y0 =>
      ac (within y0 (List.length x8)) (
        Option.bind (x8[Int.toNat y0]?) fun y1 =>
        Option.bind (gY N ((3 : Int),y1,x3,x4,x9)) fun y2 =>
        Option.bind (f (IntKind.wrap IntKind.i64 (x0 + (1 : Int)),x1,x2,y2.1,y2.2.1,x5,x6,x7,x8,y2.2.2)) fun r => some r) (
        none )) (
      none )) (
    some ((x3,x4,x6,x5,x9)))
noncomputable def eV (N : Nat) : Nat → jd → Option iY
  | 0,_ => none
  | k + 1,x => qn N (eV N k) x
noncomputable def fa (N : Nat) (k : Nat) : Cut := pZ.cut (eV N k)
theorem eF (N : Nat) (k : Nat) : aj Tryz.prog false Tryz.f341 [0] 262138 (fa N k) :=
  pZ.loopT af al (dV N) Tryz.f341 [0] (cuts := [(506,gi N N),(8188,gh N N)]) ⟨dB N N,dS N N,trivial⟩ (by decide +kernel) (by kernel_rfl) (qn N) (eV N) (fun _ => rfl) (fun _ _ => rfl) (fun f x => by kernel_rfl) k
@[reducible] def pY : LD := ⟨524282,[129,128,127,14,0],[(.ret,[6]),(.exit 6,[])],⟨[.int .i64,.int .i64,.sl 1,.sl 2,.adr 0 []],[.var 221 (.agg [.sl 3,.int .i64,.int .i64]),.row y4 373,.row y0 248,.row (.int .u8) 5]⟩,[(.exit 6,⟨[],[.var 221 (.agg [.sl 1,.int .i64,.int .i64]),.row (.int .u8) 5]⟩)]⟩
abbrev jc : Type := Int × Int × Int × Int × (List (Int × (Int × (Int × Unit)))) × (List (Int × (Int × Unit))) × (List Int)
abbrev iX : Type := Int × Int × (List Int)
noncomputable def qm (N : Nat) (f : jc → Option iX) : jc → Option iX
  | (x0,x1,x2,x3,x4,x5,x6) =>
  ac (decide (x0 < x1)) (
    ac (within x0 (List.length x4)) (
      Option.bind (x4[Int.toNat x0]?) fun y0 =>
      ac (within y0.1 (List.length x5)) (
        Option.bind (x5[Int.toNat y0.1]?) fun y1 =>
        Option.bind (DW N (y1.1,y1.2.1,x2,x3,x6)) fun y2 =>
        Option.bind (gY N (y0.2.1,y0.2.2.1,y2.1,y2.2.1,y2.2.2)) fun y3 =>
        Option.bind (f (IntKind.wrap IntKind.i64 (x0 + (1 : Int)),x1,y3.1,y3.2.1,x4,x5,y3.2.2)) fun r => some r) (
        none )) (
      none )) (
    some ((x2,x3,x6)))
noncomputable def eU (N : Nat) : Nat → jc → Option iX
  | 0,_ => none
  | k + 1,x => qm N (eU N k) x
noncomputable def jC (N : Nat) (k : Nat) : Cut := pY.cut (eU N k)
theorem jB (N : Nat) (k : Nat) : aj Tryz.prog false Tryz.f341 [0] 524282 (jC N k) :=
  pY.loopT af al (dV N) Tryz.f341 [0] (cuts := [(506,gi N N),(8188,gh N N),(262138,fa N N)]) ⟨dB N N,dS N N,eF N N,trivial⟩ (by decide +kernel) (by kernel_rfl) (qm N) (eU N) (fun _ => rfl) (fun _ _ => rfl) (fun f x => by kernel_rfl) k
@[reducible] def JF : LD := ⟨15,[1,2,0],[(.ret,[6]),(.normal,[6])],⟨[.ro (.int .i64),.ro (.int .i64),.adr 0 []],[.var 221 (.agg [.sl 1,.int .i64,.int .i64]),.row (.int .u8) 5]⟩,[(.ret,⟨[.int .i64],[.var 221 (.agg [.sl 1,.int .i64,.int .i64]),.row (.int .u8) 5]⟩)]⟩
noncomputable def Bo (N : Nat) : ((List Int) × (List Int) × Int × Int × (List Int)) → Option (Int × Int × Int × (List Int))
  | (x0,x1,x2,x3,x4) =>
  Option.bind (VI N [x0,x1]) fun y0 =>
  Option.bind (ah9 N y0) fun y1 =>
  Option.bind (mX N N ((0 : Int),(↑(List.length y1) : Int),x0,x1,x2,x3,y1,List.replicate (19 : Nat) (0 : Int),x4)) fun (y2_0,y2_1,y2_2,y2_3,y2_4,y2_5,y2_6) =>
  Option.bind (VJ N (y2_4,(7 : Int))) fun y3 =>
  Option.bind (Re N y3.2) fun y4 =>
  Option.bind (VH N ()) fun y5 =>
  Option.bind (kp N N ((↑(List.length y5) : Int),y2_0,y2_1,y2_2,y2_3,y3.2,y2_5,y4.2,y5,y2_6)) fun (y6_0,y6_1,y6_2,y6_3,y6_4,y6_5,y6_6,y6_7,y6_8,y6_9) =>
  Option.bind (gY N ((5 : Int),IntKind.wrap IntKind.i64 ((↑(List.length y6_0) : Int) - (257 : Int)),y6_3,y6_4,y6_9)) fun y7 =>
  Option.bind (gY N ((5 : Int),IntKind.wrap IntKind.i64 ((↑(List.length y6_1) : Int) - (1 : Int)),y7.1,y7.2.1,y7.2.2)) fun y8 =>
  Option.bind (gY N ((4 : Int),IntKind.wrap IntKind.i64 (y6_2 - (4 : Int)),y8.1,y8.2.1,y8.2.2)) fun y9 =>
  ac (decide ((0 : Int) ≤ y6_2 ∧ y6_2 ≤ (↑(List.length y6_5) : Int))) (
    Option.bind (eV N N ((0 : Int),(↑(Int.toNat y6_2 - (0 : Nat)) : Int),Int.toNat y6_2 - (0 : Nat),y9.1,y9.2.1,y6_6,y6_7,y6_5,y6_8,y9.2.2)) fun y10 =>
    Option.bind (eU N N ((0 : Int),(↑(List.length y10.2.2.1) : Int),y10.1,y10.2.1,y10.2.2.1,y10.2.2.2.1,y10.2.2.2.2)) fun y11 =>
    some (((0 : Int),y11.1,y11.2.1,y11.2.2))) (
    none )
noncomputable def Ky (N : Nat) (_ : Nat) : Cut := JF.cut (Bo N)
theorem HE (N : Nat) (k : Nat) : aj Tryz.prog false Tryz.f341 [0] 15 (Ky N k) :=
  JF.pieceT af al (dV N) Tryz.f341 [0] (cuts := [(506,gi N N),(8188,gh N N),(262138,fa N N),(524282,jC N N)]) ⟨dB N N,dS N N,eF N N,jB N N,trivial⟩ (by decide +kernel) (by kernel_rfl) (Bo N) (fun x => by kernel_rfl)
@[reducible] def w341 : List SP := [⟨[.int .i64],[.var 221 (.agg [.sl 1,.int .i64,.int .i64]),.row (.int .u8) 5]⟩]
noncomputable def ai4 (N : Nat) : ((List Int) × (List Int) × Int × Int × (List Int)) → Option (Int × Int × Int × (List Int))
  | (x0,x1,x2,x3,x4) =>
  ac (decide ((↑(List.length x0) : Int) < (257 : Int))) (
    some (((1 : Int),x2,x3,x4))) (
    ac (decide ((↑(List.length x0) : Int) > (286 : Int))) (
      some (((1 : Int),x2,x3,x4))) (
      ac (decide ((↑(List.length x1) : Int) < (1 : Int))) (
        some (((1 : Int),x2,x3,x4))) (
        ac (decide ((↑(List.length x1) : Int) > (30 : Int))) (
          some (((1 : Int),x2,x3,x4))) (
          Option.bind (F77 N x0) fun y0 =>
          ac (y0) (
            some (((1 : Int),x2,x3,x4))) (
            Option.bind (F77 N x1) fun y1 =>
            ac (y1) (
              some (((1 : Int),x2,x3,x4))) (
              Option.bind (Bo N (x0,x1,x2,x3,x4)) fun y2 =>
              some ((y2.1,y2.2.1,y2.2.2.1,y2.2.2.2))))))))
noncomputable def az2 (N : Nat) : Pk → Tr Pk := ag s341 w341 (ai4 N)
theorem TT (N : Nat) : au Tryz.prog (341) (az2 N) :=
  (ae af al (dV N) Tryz.func341 s341 w341 [0] (cuts := [(506,gi N N),(8188,gh N N),(262138,fa N N),(524282,jC N N),(15,Ky N N)]) ⟨dB N N,dS N N,eF N N,jB N N,HE N N,trivial⟩ (fun _ => by kernel_rfl) (by decide +kernel) (ai4 N) (fun x => by kernel_rfl))
@[reducible] def s323 : SP := ⟨[.adr 0 [],.ro y4,.bool,.bool],[.var 221 (.agg [.sl 1,.int .i64,.int .i64]),.row (.int .u8) 5]⟩
noncomputable def XS (N : Nat) : List (Nat × (Pk → Tr Pk)) := [(335,QB N),(271,ae6 N),(336,ae1 N),(337,az5 N),(338,ae0 N),(340,az3 N),(339,az4 N),(341,az2 N)]
theorem vZ (N : Nat) : ah Tryz.prog (XS N) := ⟨qL N,I6 N,I3 N,TX N,I2 N,TU N,TW N,TT N,trivial⟩
@[reducible] def JI : LD := ⟨26,[19,1,0,3,2,18,20],[(.ret,[8]),(.exit 0,[2,3,0,1])],⟨[.int .i64,.ro y4,.adr 0 [],.bool,.bool,.ro y4,.int .i64],[.var 221 (.agg [.sl 1,.int .i64,.int .i64]),.row (.int .u8) 5]⟩,[(.ret,⟨[.int .i64],[.var 221 (.agg [.sl 1,.int .i64,.int .i64]),.row (.int .u8) 5]⟩),(.exit 0,⟨[.bool,.bool,.adr 0 [],.ro y4],[.var 221 (.agg [.sl 1,.int .i64,.int .i64]),.row (.int .u8) 5]⟩)]⟩
abbrev AZ : Type := Int × (List (Int × (Int × (Int × Unit)))) × Bool × Bool × (List (Int × (Int × (Int × Unit)))) × Int × Int × Int × (List Int)
abbrev Ai : Type := ((Int × Int × Int × (List Int)) ⊕ (Bool × Bool × (List (Int × (Int × (Int × Unit)))) × Int × Int × (List Int)))
noncomputable def Ll (N : Nat) (f : AZ → Option Ai) : AZ → Option Ai
  | (x0,x1,x2,x3,x4,x5,x6,x7,x8) =>
  ac (decide (x5 < x0)) (
    ac (within x5 (List.length x4)) (
      Option.bind (x4[Int.toNat x5]?) fun y0 =>
      Option.bind (N6 N (y0.1,y0.2.1,y0.2.2.1)) fun y1 =>
      ac (!y1) (
        some (.inl (((1 : Int),x6,x7,x8)))) (
        Option.bind (f (x0,x1,x2,x3,x4,IntKind.wrap IntKind.i64 (x5 + (1 : Int)),x6,x7,x8)) fun r => match r with | .inl y => some (.inl y) | .inr y => some (.inr y))) (
      none )) (
    some (.inr ((x3,x2,x1,x6,x7,x8))))
noncomputable def ri (N : Nat) : Nat → AZ → Option Ai
  | 0,_ => none
  | k + 1,x => Ll N (ri N k) x
noncomputable def KA (N : Nat) (k : Nat) : Cut := JI.cut (ri N k)
theorem HG (N : Nat) (k : Nat) : aj Tryz.prog false Tryz.f323 [0] 26 (KA N k) :=
  JI.loopT af al (vZ N) Tryz.f323 [0] (cuts := []) trivial (by decide +kernel) (by kernel_rfl) (Ll N) (ri N) (fun _ => rfl) (fun _ _ => rfl) (fun f x => by kernel_rfl) k
@[reducible] def w323 : List SP := [⟨[.int .i64],[.var 221 (.agg [.sl 1,.int .i64,.int .i64]),.row (.int .u8) 5]⟩]
noncomputable def ai8 (N : Nat) : ((List (Int × (Int × (Int × Unit)))) × Bool × Bool × Int × Int × (List Int)) → Option (Int × Int × Int × (List Int))
  | (x0,x1,x2,x3,x4,x5) =>
  Option.bind (ri N N ((↑(List.length x0) : Int),x0,x2,x1,x0,(0 : Int),x3,x4,x5)) fun y0 =>
  match y0 with
  | .inl y1 =>
    some ((y1.1,y1.2.1,y1.2.2.1,y1.2.2.2))
  | .inr (y1_0,y1_1,y1_2,y1_3,y1_4,y1_5) =>
    ac (!y1_0) (
      Option.bind (N9 N (y1_1,(1 : Int),y1_3,y1_4,y1_5)) fun y2 =>
      Option.bind (VR N ()) fun y3 =>
      Option.bind (VQ N (y3.1,y3.2,y1_2,y2.1,y2.2.1,y2.2.2)) fun y4 =>
      some ((y4.1,y4.2.1,y4.2.2.1,y4.2.2.2))) (
      Option.bind (VP N y1_2) fun y5 =>
      Option.bind (VN N y5.1) fun y6 =>
      Option.bind (VO N (y6,(257 : Int))) fun y7 =>
      Option.bind (VN N y5.2) fun y8 =>
      Option.bind (VO N (y8,(1 : Int))) fun y9 =>
      Option.bind (N9 N (y1_1,(2 : Int),y1_3,y1_4,y1_5)) fun y10 =>
      Option.bind (ai4 N (y7,y9,y10.1,y10.2.1,y10.2.2)) fun y11 =>
      ac (y11.1 != (0 : Int)) (
        some ((y11.1,y11.2.1,y11.2.2.1,y11.2.2.2))) (
        Option.bind (VQ N (y7,y9,y1_2,y11.2.1,y11.2.2.1,y11.2.2.2)) fun y12 =>
        some ((y12.1,y12.2.1,y12.2.2.1,y12.2.2.2))))
noncomputable def aA0 (N : Nat) : Pk → Tr Pk := ag s323 w323 (ai8 N)
theorem Uc (N : Nat) : au Tryz.prog (323) (aA0 N) :=
  (ae af al (vZ N) Tryz.func323 s323 w323 [0] (cuts := [(26,KA N N)]) ⟨HG N N,trivial⟩ (fun _ => by kernel_rfl) (by decide +kernel) (ai8 N) (fun x => by kernel_rfl))
@[reducible] def s322 : SP := ⟨[.adr 0 [],.adr 1 [],.adr 2 [],.adr 3 []],[.var 221 (.agg [.sl 4,.int .i64,.int .i64]),.var 278 (.ro y4),.var 4 (.bool),.var 4 (.bool),.row (.int .u8) 5]⟩
noncomputable def XU (N : Nat) : List (Nat × (Pk → Tr Pk)) := [(323,aA0 N)]
theorem Mn (N : Nat) : ah Tryz.prog (XU N) := ⟨Uc N,trivial⟩
@[reducible] def w322 : List SP := [⟨[.tup []],[.var 221 (.agg [.sl 4,.int .i64,.int .i64]),.var 278 (.ro y4),.var 4 (.bool),.var 4 (.bool),.row (.int .u8) 5]⟩]
noncomputable def Rk (N : Nat) : (Int × Int × (List (Int × (Int × (Int × Unit)))) × Bool × Bool × (List Int)) → Option (Int × Int × (List (Int × (Int × (Int × Unit)))) × Bool × Bool × (List Int))
  | (x0,x1,x2,x3,x4,x5) =>
  Option.bind (ai8 N (x2,x3,x4,x0,x1,x5)) fun y0 =>
  some ((y0.2.1,y0.2.2.1,x2,x3,x4,y0.2.2.2))
noncomputable def ae2 (N : Nat) : Pk → Tr Pk := ag s322 w322 (Rk N)
theorem I4 (N : Nat) : au Tryz.prog (322) (ae2 N) :=
  (ae af al (Mn N) Tryz.func322 s322 w322 [0,1,2,3] (cuts := []) trivial (fun _ => by kernel_rfl) (by decide +kernel) (Rk N) (fun x => by kernel_rfl))
@[reducible] def s324 : SP := ⟨[.radr y3 [.i 0 3]],[]⟩
noncomputable def XR (N : Nat) : List (Nat × (Pk → Tr Pk)) := []
theorem Mm (N : Nat) : ah Tryz.prog (XR N) := trivial
@[reducible] def w324 : List SP := [⟨[.int .i64],[]⟩]
noncomputable def ai7 (N : Nat) : (((List Int) × (Int × (Int × Unit)))) → Option (Int)
  | x0 =>
  some (IntKind.wrap IntKind.i64 (IntKind.wrap IntKind.i64 ((8 : Int) * (↑(List.length x0.1) : Int)) + x0.2.2.1))
noncomputable def az9 (N : Nat) : Pk → Tr Pk := ag s324 w324 (ai7 N)
theorem Ub (N : Nat) : au Tryz.prog (324) (az9 N) :=
  (ae af al (Mm N) Tryz.func324 s324 w324 [] (cuts := []) trivial (fun _ => by kernel_rfl) (by decide +kernel) (ai7 N) (fun x => by kernel_rfl))
@[reducible] def s290 : SP := ⟨[.ro y4,.bool,.bool],[]⟩
noncomputable def X4 (N : Nat) : List (Nat × (Pk → Tr Pk)) := [(322,ae2 N),(324,az9 N)]
theorem Mv (N : Nat) : ah Tryz.prog (X4 N) := ⟨I4 N,Ub N,trivial⟩
@[reducible] def w290 : List SP := [⟨[.agg [.int .i64,.clo 322 [.adr 0 [],.adr 1 [],.adr 2 []]]],[.var 278 (.ro y4),.var 4 (.bool),.var 4 (.bool)]⟩]
noncomputable def VV (N : Nat) : ((List (Int × (Int × (Int × Unit)))) × Bool × Bool) → Option (Int × (List (Int × (Int × (Int × Unit)))) × Bool × Bool)
  | (x0,x1,x2) =>
  Option.bind (Rk N ((0 : Int),(0 : Int),x0,x1,x2,[])) fun (y0_0,y0_1,y0_2,y0_3,y0_4,y0_5) =>
  Option.bind (ai7 N (y0_5,y0_0,y0_1,())) fun y1 =>
  some ((y1,y0_2,y0_3,y0_4))
noncomputable def aA7 (N : Nat) : Pk → Tr Pk := ag s290 w290 (VV N)
theorem Ul (N : Nat) : au Tryz.prog (290) (aA7 N) :=
  (ae af al (Mv N) Tryz.func290 s290 w290 [] (cuts := []) trivial (fun _ => by kernel_rfl) (by decide +kernel) (VV N) (fun x => by kernel_rfl))
@[reducible] def s289 : SP := ⟨[.agg [.int .i64,.clo 322 [.adr 0 [],.adr 1 [],.adr 2 []]],.agg [.int .i64,.clo 322 [.adr 3 [],.adr 4 [],.adr 5 []]]],[.var 278 (.ro y4),.var 4 (.bool),.var 4 (.bool),.var 278 (.ro y4),.var 4 (.bool),.var 4 (.bool)]⟩
noncomputable def X5 (N : Nat) : List (Nat × (Pk → Tr Pk)) := []
theorem Mw (N : Nat) : ah Tryz.prog (X5 N) := trivial
@[reducible] def w289 : List SP := [⟨[.agg [.int .i64,.clo 322 [.adr 3 [],.adr 4 [],.adr 5 []]]],[.var 278 (.ro y4),.var 4 (.bool),.var 4 (.bool),.var 278 (.ro y4),.var 4 (.bool),.var 4 (.bool)]⟩,⟨[.agg [.int .i64,.clo 322 [.adr 0 [],.adr 1 [],.adr 2 []]]],[.var 278 (.ro y4),.var 4 (.bool),.var 4 (.bool),.var 278 (.ro y4),.var 4 (.bool),.var 4 (.bool)]⟩]
noncomputable def aj4 (N : Nat) : (Int × Int × (List (Int × (Int × (Int × Unit)))) × Bool × Bool × (List (Int × (Int × (Int × Unit)))) × Bool × Bool) → Option (((Int × (List (Int × (Int × (Int × Unit)))) × Bool × Bool × (List (Int × (Int × (Int × Unit)))) × Bool × Bool) ⊕ (Int × (List (Int × (Int × (Int × Unit)))) × Bool × Bool × (List (Int × (Int × (Int × Unit)))) × Bool × Bool)))
  | (x0,x1,x2,x3,x4,x5,x6,x7) =>
  ac (decide (x1 < x0)) (
    some (.inl ((x1,x2,x3,x4,x5,x6,x7)))) (
    some (.inr ((x0,x2,x3,x4,x5,x6,x7))))
noncomputable def aA8 (N : Nat) : Pk → Tr Pk := ag s289 w289 (aj4 N)
theorem Um (N : Nat) : au Tryz.prog (289) (aA8 N) :=
  (ae af al (Mw N) Tryz.func289 s289 w289 [0,1,2,3,4,5] (cuts := []) trivial (fun _ => by kernel_rfl) (by decide +kernel) (aj4 N) (fun x => by kernel_rfl))
@[reducible] def s289a : SP := ⟨[.agg [.int .i64,.clo 288 [.adr 0 [],.adr 1 []]],.agg [.int .i64,.clo 322 [.adr 2 [],.adr 3 [],.adr 4 []]]],[.var 9 (.str),.var 4 (.bool),.var 278 (.ro y4),.var 4 (.bool),.var 4 (.bool)]⟩
noncomputable def SB (N : Nat) : List (Nat × (Pk → Tr Pk)) := []
theorem FF (N : Nat) : ah Tryz.prog (SB N) := trivial
@[reducible] def w289a : List SP := [⟨[.agg [.int .i64,.clo 322 [.adr 2 [],.adr 3 [],.adr 4 []]]],[.var 9 (.str),.var 4 (.bool),.var 278 (.ro y4),.var 4 (.bool),.var 4 (.bool)]⟩,⟨[.agg [.int .i64,.clo 288 [.adr 0 [],.adr 1 []]]],[.var 9 (.str),.var 4 (.bool),.var 278 (.ro y4),.var 4 (.bool),.var 4 (.bool)]⟩]
noncomputable def Kb (N : Nat) : (Int × Int × ByteArray × Bool × (List (Int × (Int × (Int × Unit)))) × Bool × Bool) → Option (((Int × ByteArray × Bool × (List (Int × (Int × (Int × Unit)))) × Bool × Bool) ⊕ (Int × ByteArray × Bool × (List (Int × (Int × (Int × Unit)))) × Bool × Bool)))
  | (x0,x1,x2,x3,x4,x5,x6) =>
  ac (decide (x1 < x0)) (
    some (.inl ((x1,x2,x3,x4,x5,x6)))) (
    some (.inr ((x0,x2,x3,x4,x5,x6))))
noncomputable def WE (N : Nat) : Pk → Tr Pk := ag s289a w289a (Kb N)
theorem QE (N : Nat) : au Tryz.prog (289) (WE N) :=
  (ae af al (FF N) Tryz.func289 s289a w289a [0,1,2,3,4] (cuts := []) trivial (fun _ => by kernel_rfl) (by decide +kernel) (Kb N) (fun x => by kernel_rfl))
@[reducible] def s272 : SP := ⟨[.adr 0 [],.str],[.var 221 (.agg [.sl 1,.int .i64,.int .i64]),.row (.int .u8) 5]⟩
noncomputable def Yb (N : Nat) : List (Nat × (Pk → Tr Pk)) := [(223,UE N)]
theorem MB (N : Nat) : ah Tryz.prog (Yb N) := ⟨zC N,trivial⟩
@[reducible] def w272 : List SP := [⟨[.tup []],[.var 221 (.agg [.sl 1,.int .i64,.int .i64]),.row (.int .u8) 5]⟩]
noncomputable def VY (N : Nat) : (ByteArray × Int × Int × (List Int)) → Option (Int × Int × (List Int))
  | (x0,x1,x2,x3) =>
  Option.bind (Oc N (x1,x2,x3)) fun y0 =>
  ac (decide ((List.length y0.2.2 + List.length (bytesOf x0)) * (1 : Nat) ≤ (140737488355328 : Nat) ∧ List.length y0.2.2 + List.length (bytesOf x0) ≤ (140737488355328 : Nat))) (
    some ((y0.1,y0.2.1,y0.2.2 ++ bytesOf x0))) (
    none )
noncomputable def aB4 (N : Nat) : Pk → Tr Pk := ag s272 w272 (VY N)
theorem Us (N : Nat) : au Tryz.prog (272) (aB4 N) :=
  (ae af al (MB N) Tryz.func272 s272 w272 [0] (cuts := []) trivial (fun _ => by kernel_rfl) (by decide +kernel) (VY N) (fun x => by kernel_rfl))
@[reducible] def s228 : SP := ⟨[.adr 0 [],.str,.bool],[.var 221 (.agg [.sl 1,.int .i64,.int .i64]),.row (.int .u8) 5]⟩
noncomputable def Yr (N : Nat) : List (Nat × (Pk → Tr Pk)) := [(271,ae6 N),(223,UE N),(269,Gz N),(272,aB4 N)]
theorem wm (N : Nat) : ah Tryz.prog (Yr N) := ⟨I6 N,zC N,j6 N,Us N,trivial⟩
@[reducible] def QW : LD := ⟨2,[1,2,0],[(.ret,[])],⟨[.str,.bool,.adr 0 []],[.var 221 (.agg [.sl 1,.int .i64,.int .i64]),.row (.int .u8) 5]⟩,[(.ret,⟨[],[.var 221 (.agg [.sl 1,.int .i64,.int .i64]),.row (.int .u8) 5]⟩)]⟩
abbrev GX : Type := ByteArray × Bool × Int × Int × (List Int)
abbrev GJ : Type := Int × Int × (List Int)
noncomputable def Sn (N : Nat) (f : GX → Option GJ) : GX → Option GJ
  | (x0,x1,x2,x3,x4) =>
  ac (x1) (
    Option.bind (N9 N ((if (65535 : Int) < (↑(ByteArray.size x0) : Int) then (65535 : Int) else (↑(ByteArray.size x0) : Int)) == (↑(ByteArray.size x0) : Int),(0 : Int),x2,x3,x4)) fun y0 =>
    Option.bind (Oc N (y0.1,y0.2.1,y0.2.2)) fun y1 =>
    Option.bind (gY N ((16 : Int),if (65535 : Int) < (↑(ByteArray.size x0) : Int) then (65535 : Int) else (↑(ByteArray.size x0) : Int),y1.1,y1.2.1,y1.2.2)) fun y2 =>
    Option.bind (gY N ((16 : Int),IntKind.wrap IntKind.i64 (↑(BitVec.toNat (BitVec.ofInt (64 : Nat) (if (65535 : Int) < (↑(ByteArray.size x0) : Int) then (65535 : Int) else (↑(ByteArray.size x0) : Int)) ^^^ BitVec.ofInt (64 : Nat) (65535 : Int))) : Int),y2.1,y2.2.1,y2.2.2)) fun y3 =>
    ac (decide (((0 : Int) ≤ if (65535 : Int) < (↑(ByteArray.size x0) : Int) then (65535 : Int) else (↑(ByteArray.size x0) : Int)) ∧ (if (65535 : Int) < (↑(ByteArray.size x0) : Int) then (65535 : Int) else (↑(ByteArray.size x0) : Int)) ≤ (↑(ByteArray.size x0) : Int))) (
      Option.bind (VY N (ByteArray.extract x0 (0 : Nat) (Int.toNat (if (65535 : Int) < (↑(ByteArray.size x0) : Int) then (65535 : Int) else (↑(ByteArray.size x0) : Int))),y3.1,y3.2.1,y3.2.2)) fun y4 =>
      ac (decide (((0 : Int) ≤ if (65535 : Int) < (↑(ByteArray.size x0) : Int) then (65535 : Int) else (↑(ByteArray.size x0) : Int)) ∧ (if (65535 : Int) < (↑(ByteArray.size x0) : Int) then (65535 : Int) else (↑(ByteArray.size x0) : Int)) ≤ (↑(ByteArray.size x0) : Int))) (
        ac (ByteArray.toList (ByteArray.extract x0 (Int.toNat (if (65535 : Int) < (↑(ByteArray.size x0) : Int) then (65535 : Int) else (↑(ByteArray.size x0) : Int))) (ByteArray.size x0)) == []) (
          some ((y4.1,y4.2.1,y4.2.2))) (
          Option.bind (f (ByteArray.extract x0 (Int.toNat (if (65535 : Int) < (↑(ByteArray.size x0) : Int) then (65535 : Int) else (↑(ByteArray.size x0) : Int))) (ByteArray.size x0),x1,y4.1,y4.2.1,y4.2.2)) fun r => some r)) (
        none )) (
      none )) (
    Option.bind (N9 N (false,(0 : Int),x2,x3,x4)) fun y5 =>
    Option.bind (Oc N (y5.1,y5.2.1,y5.2.2)) fun y6 =>
    Option.bind (gY N ((16 : Int),if (65535 : Int) < (↑(ByteArray.size x0) : Int) then (65535 : Int) else (↑(ByteArray.size x0) : Int),y6.1,y6.2.1,y6.2.2)) fun y7 =>
    Option.bind (gY N ((16 : Int),IntKind.wrap IntKind.i64 (↑(BitVec.toNat (BitVec.ofInt (64 : Nat) (if (65535 : Int) < (↑(ByteArray.size x0) : Int) then (65535 : Int) else (↑(ByteArray.size x0) : Int)) ^^^ BitVec.ofInt (64 : Nat) (65535 : Int))) : Int),y7.1,y7.2.1,y7.2.2)) fun y8 =>
    ac (decide (((0 : Int) ≤ if (65535 : Int) < (↑(ByteArray.size x0) : Int) then (65535 : Int) else (↑(ByteArray.size x0) : Int)) ∧ (if (65535 : Int) < (↑(ByteArray.size x0) : Int) then (65535 : Int) else (↑(ByteArray.size x0) : Int)) ≤ (↑(ByteArray.size x0) : Int))) (
      Option.bind (VY N (ByteArray.extract x0 (0 : Nat) (Int.toNat (if (65535 : Int) < (↑(ByteArray.size x0) : Int) then (65535 : Int) else (↑(ByteArray.size x0) : Int))),y8.1,y8.2.1,y8.2.2)) fun y9 =>
      ac (decide (((0 : Int) ≤ if (65535 : Int) < (↑(ByteArray.size x0) : Int) then (65535 : Int) else (↑(ByteArray.size x0) : Int)) ∧ (if (65535 : Int) < (↑(ByteArray.size x0) : Int) then (65535 : Int) else (↑(ByteArray.size x0) : Int)) ≤ (↑(ByteArray.size x0) : Int))) (
        ac (ByteArray.toList (ByteArray.extract x0 (Int.toNat (if (65535 : Int) < (↑(ByteArray.size x0) : Int) then (65535 : Int) else (↑(ByteArray.size x0) : Int))) (ByteArray.size x0)) == []) (
          some ((y9.1,y9.2.1,y9.2.2))) (
          Option.bind (f (ByteArray.extract x0 (Int.toNat (if (65535 : Int) < (↑(ByteArray.size x0) : Int) then (65535 : Int) else (↑(ByteArray.size x0) : Int))) (ByteArray.size x0),x1,y9.1,y9.2.1,y9.2.2)) fun r => some r)) (
        none )) (
      none ))
noncomputable def Bs (N : Nat) : Nat → GX → Option GJ
  | 0,_ => none
  | k + 1,x => Sn N (Bs N k) x
noncomputable def Sf (N : Nat) (k : Nat) : Cut := QW.cut (Bs N k)
theorem Ov (N : Nat) (k : Nat) : aj Tryz.prog false Tryz.f228 [0] 2 (Sf N k) :=
  QW.loopT af al (wm N) Tryz.f228 [0] (cuts := []) trivial (by decide +kernel) (by kernel_rfl) (Sn N) (Bs N) (fun _ => rfl) (fun _ _ => rfl) (fun f x => by kernel_rfl) k
@[reducible] def w228 : List SP := [⟨[.tup []],[.var 221 (.agg [.sl 1,.int .i64,.int .i64]),.row (.int .u8) 5]⟩]
noncomputable def Rt (N : Nat) : (ByteArray × Bool × Int × Int × (List Int)) → Option (Int × Int × (List Int))
  | (x0,x1,x2,x3,x4) =>
  Option.bind (Bs N N (x0,x1,x2,x3,x4)) fun y0 =>
  some ((y0.1,y0.2.1,y0.2.2))
noncomputable def af1 (N : Nat) : Pk → Tr Pk := ag s228 w228 (Rt N)
theorem Ja (N : Nat) : au Tryz.prog (228) (af1 N) :=
  (ae af al (wm N) Tryz.func228 s228 w228 [0] (cuts := [(2,Sf N N)]) ⟨Ov N N,trivial⟩ (fun _ => by kernel_rfl) (by decide +kernel) (Rt N) (fun x => by kernel_rfl))
@[reducible] def s288 : SP := ⟨[.adr 0 [],.adr 1 [],.adr 2 []],[.var 221 (.agg [.sl 3,.int .i64,.int .i64]),.var 9 (.str),.var 4 (.bool),.row (.int .u8) 5]⟩
noncomputable def X6 (N : Nat) : List (Nat × (Pk → Tr Pk)) := [(228,af1 N)]
theorem Mx (N : Nat) : ah Tryz.prog (X6 N) := ⟨Ja N,trivial⟩
@[reducible] def w288 : List SP := [⟨[.tup []],[.var 221 (.agg [.sl 3,.int .i64,.int .i64]),.var 9 (.str),.var 4 (.bool),.row (.int .u8) 5]⟩]
noncomputable def VW (N : Nat) : (Int × Int × ByteArray × Bool × (List Int)) → Option (Int × Int × ByteArray × Bool × (List Int))
  | (x0,x1,x2,x3,x4) =>
  Option.bind (Rt N (x2,x3,x0,x1,x4)) fun y0 =>
  some ((y0.1,y0.2.1,x2,x3,y0.2.2))
noncomputable def aA9 (N : Nat) : Pk → Tr Pk := ag s288 w288 (VW N)
theorem Un (N : Nat) : au Tryz.prog (288) (aA9 N) :=
  (ae af al (Mx N) Tryz.func288 s288 w288 [0,1,2] (cuts := []) trivial (fun _ => by kernel_rfl) (by decide +kernel) (VW N) (fun x => by kernel_rfl))
@[reducible] def s252 : SP := ⟨[.adr 0 [],.ro y4,.str,.bool],[.var 221 (.agg [.sl 1,.int .i64,.int .i64]),.row (.int .u8) 5]⟩
noncomputable def Yl (N : Nat) : List (Nat × (Pk → Tr Pk)) := [(290,aA7 N),(289,SN s289.I (aA8 N) (WE N)),(322,ae2 N),(288,aA9 N)]
theorem MF (N : Nat) : ah Tryz.prog (Yl N) := ⟨Ul N,kW (Um N) (QE N),I4 N,Un N,trivial⟩
@[reducible] def w252 : List SP := [⟨[.tup []],[.var 221 (.agg [.sl 1,.int .i64,.int .i64]),.row (.int .u8) 5]⟩]
noncomputable def vA (N : Nat) : ((List (Int × (Int × (Int × Unit)))) × ByteArray × Bool × Int × Int × (List Int)) → Option (Int × Int × (List Int))
  | (x0,x1,x2,x3,x4,x5) =>
  Option.bind (VV N (x0,false,x2)) fun y0 =>
  Option.bind (VV N (x0,true,x2)) fun y1 =>
  Option.bind (aj4 N (y0.1,y1.1,y0.2.1,y0.2.2.1,y0.2.2.2,y1.2.1,y1.2.2.1,y1.2.2.2)) fun y2 =>
  match y2 with
  | .inl (y3_0,y3_1,y3_2,y3_3,y3_4,y3_5,y3_6) =>
    Option.bind (Kb N (IntKind.wrap IntKind.i64 (IntKind.wrap IntKind.i64 ((8 : Int) * (↑(ByteArray.size x1) : Int)) + IntKind.wrap IntKind.i64 ((40 : Int) * IntKind.wrap IntKind.i64 ((1 : Int) + IntKind.wrap IntKind.i64 (Int.tdiv (↑(ByteArray.size x1) : Int) (65535 : Int))))),y3_0,x1,x2,y3_4,y3_5,y3_6)) fun y4 =>
    match y4 with
    | .inl (y5_0,y5_1,y5_2,y5_3,y5_4,y5_5) =>
      Option.bind (Rk N (x3,x4,y5_3,y5_4,y5_5,x5)) fun (y6_0,y6_1,y6_2,y6_3,y6_4,y6_5) =>
      some ((y6_0,y6_1,y6_5))
    | .inr (y5_0,y5_1,y5_2,y5_3,y5_4,y5_5) =>
      Option.bind (VW N (x3,x4,y5_1,y5_2,x5)) fun y7 =>
      some ((y7.1,y7.2.1,y7.2.2.2.2))
  | .inr (y3_0,y3_1,y3_2,y3_3,y3_4,y3_5,y3_6) =>
    Option.bind (Kb N (IntKind.wrap IntKind.i64 (IntKind.wrap IntKind.i64 ((8 : Int) * (↑(ByteArray.size x1) : Int)) + IntKind.wrap IntKind.i64 ((40 : Int) * IntKind.wrap IntKind.i64 ((1 : Int) + IntKind.wrap IntKind.i64 (Int.tdiv (↑(ByteArray.size x1) : Int) (65535 : Int))))),y3_0,x1,x2,y3_1,y3_2,y3_3)) fun y8 =>
    match y8 with
    | .inl (y9_0,y9_1,y9_2,y9_3,y9_4,y9_5) =>
      Option.bind (Rk N (x3,x4,y9_3,y9_4,y9_5,x5)) fun (y10_0,y10_1,y10_2,y10_3,y10_4,y10_5) =>
      some ((y10_0,y10_1,y10_5))
    | .inr (y9_0,y9_1,y9_2,y9_3,y9_4,y9_5) =>
      Option.bind (VW N (x3,x4,y9_1,y9_2,x5)) fun y11 =>
      some ((y11.1,y11.2.1,y11.2.2.2.2))
noncomputable def aC1 (N : Nat) : Pk → Tr Pk := ag s252 w252 (vA N)
theorem Uz (N : Nat) : au Tryz.prog (252) (aC1 N) :=
  (ae af al (MF N) Tryz.func252 s252 w252 [0] (cuts := []) trivial (fun _ => by kernel_rfl) (by decide +kernel) (vA N) (fun x => by kernel_rfl))
@[reducible] def s192 : SP := ⟨[.adr 0 [],.str,.str,.bool],[.var 221 (.agg [.sl 1,.int .i64,.int .i64]),.row (.int .u8) 5]⟩
noncomputable def YN (N : Nat) : List (Nat × (Pk → Tr Pk)) := [(251,aC2 N),(252,aC1 N)]
theorem fz (N : Nat) : ah Tryz.prog (YN N) := ⟨UA N,Uz N,trivial⟩
@[reducible] def fW : LD := ⟨7322,[11,30,29,0,3,2,10,8,28],[(.exit 2,[8,10,2,11,3,0]),(.exit 1,[3,0,2,8])],⟨[.int .i64,.int .i64,.int .i64,.adr 0 [],.bool,.str,.int .i64,.sl 1,.slp 1 (.c 0) .h],[.var 221 (.agg [.sl 2,.int .i64,.int .i64]),.row y4 281,.row (.int .u8) 5]⟩,[(.exit 2,⟨[.sl 1,.int .i64,.str,.int .i64,.bool,.adr 0 []],[.var 221 (.agg [.sl 2,.int .i64,.int .i64]),.row y4 281,.row (.int .u8) 5]⟩)]⟩
abbrev o8 : Type := Int × Int × Int × Bool × ByteArray × Int × Nat × Int × Int × (List (Int × (Int × (Int × Unit)))) × (List Int)
abbrev oN : Type := Int × ByteArray × Int × Bool × Int × Int × (List (Int × (Int × (Int × Unit)))) × (List Int)
noncomputable def yk (N : Nat) (f : o8 → Option oN) : o8 → Option oN
  | (x0,x1,x2,x3,x4,x5,x6,x7,x8,x9,x10) =>
  ac (decide (x1 < x2)) (
    ac (within x1 x6) (
      Option.bind (x9[(0 : Nat) + Int.toNat x1]?) fun y0 =>
      Option.bind (f (IntKind.wrap IntKind.i64 (x0 + if (1 : Int) > y0.2.1 then (1 : Int) else y0.2.1),IntKind.wrap IntKind.i64 (x1 + (1 : Int)),x2,x3,x4,x5,x6,x7,x8,x9,x10)) fun r => some r) (
      none )) (
    some ((x5,x4,x0,x3,x7,x8,x9,x10)))
noncomputable def gb (N : Nat) : Nat → o8 → Option oN
  | 0,_ => none
  | k + 1,x => yk N (gb N k) x
noncomputable def gm (N : Nat) (k : Nat) : Cut := fW.cut (gb N k)
theorem dU (N : Nat) (k : Nat) : aj Tryz.prog false Tryz.f192 [0] 7322 (gm N k) :=
  fW.loopT af al (fz N) Tryz.f192 [0] (cuts := []) trivial (by decide +kernel) (by kernel_rfl) (yk N) (gb N) (fun _ => rfl) (fun _ _ => rfl) (fun f x => by kernel_rfl) k
@[reducible] def uG : LD := ⟨7322,[11,30,29,0,3,2,10,8,28],[(.exit 2,[8,10,2,11,3,0]),(.exit 1,[3,0,2,8])],⟨[.int .i64,.int .i64,.int .i64,.adr 0 [],.bool,.str,.int .i64,.slp 1 .h .h,.slp 1 .h .h],[.var 221 (.agg [.sl 2,.int .i64,.int .i64]),.row y4 281,.row (.int .u8) 5]⟩,[(.exit 2,⟨[.slp 1 .h .h,.int .i64,.str,.int .i64,.bool,.adr 0 []],[.var 221 (.agg [.sl 2,.int .i64,.int .i64]),.row y4 281,.row (.int .u8) 5]⟩)]⟩
abbrev lC : Type := Int × Int × Int × Bool × ByteArray × Int × Nat × Nat × Nat × Nat × Int × Int × (List (Int × (Int × (Int × Unit)))) × (List Int)
abbrev lr : Type := Nat × Nat × Int × ByteArray × Int × Bool × Int × Int × (List (Int × (Int × (Int × Unit)))) × (List Int)
noncomputable def u9 (N : Nat) (f : lC → Option lr) : lC → Option lr
  | (x0,x1,x2,x3,x4,x5,x6,x7,x8,x9,x10,x11,x12,x13) =>
  ac (decide (x1 < x2)) (
    ac (within x1 x9) (
      Option.bind (x12[x8 + Int.toNat x1]?) fun y0 =>
      Option.bind (f (IntKind.wrap IntKind.i64 (x0 + if (1 : Int) > y0.2.1 then (1 : Int) else y0.2.1),IntKind.wrap IntKind.i64 (x1 + (1 : Int)),x2,x3,x4,x5,x6,x7,x8,x9,x10,x11,x12,x13)) fun r => some r) (
      none )) (
    some ((x6,x7,x5,x4,x0,x3,x10,x11,x12,x13)))
noncomputable def eA (N : Nat) : Nat → lC → Option lr
  | 0,_ => none
  | k + 1,x => u9 N (eA N k) x
noncomputable def ie (N : Nat) (k : Nat) : Cut := uG.cut (eA N k)
theorem ft (N : Nat) (k : Nat) : aj Tryz.prog false Tryz.f192 [0] 7322 (ie N k) :=
  uG.loopT af al (fz N) Tryz.f192 [0] (cuts := [(7322,gm N N)]) ⟨dU N N,trivial⟩ (by decide +kernel) (by kernel_rfl) (u9 N) (eA N) (fun _ => rfl) (fun _ _ => rfl) (fun f x => by kernel_rfl) k
@[reducible] def er : LD := ⟨14,[9,3,0,2,8],[(.exit 0,[])],⟨[.bool,.bool,.adr 0 [],.str,.slp 1 .h .h],[.var 221 (.agg [.sl 2,.int .i64,.int .i64]),.row y4 281,.row (.int .u8) 5]⟩,[(.exit 0,⟨[],[.var 221 (.agg [.sl 1,.int .i64,.int .i64]),.row (.int .u8) 5]⟩)]⟩
abbrev uq : Type := Bool × Bool × ByteArray × Nat × Nat × Int × Int × (List (Int × (Int × (Int × Unit)))) × (List Int)
abbrev tC : Type := Int × Int × (List Int)
noncomputable def vb (N : Nat) (f : uq → Option tC) : uq → Option tC
  | (x0,x1,x2,x3,x4,x5,x6,x7,x8) =>
  ac (x0) (
    ac (decide (((0 : Int) ≤ if (8192 : Int) < (↑x4 : Int) then (8192 : Int) else (↑x4 : Int)) ∧ (if (8192 : Int) < (↑x4 : Int) then (8192 : Int) else (↑x4 : Int)) ≤ (↑x4 : Int))) (
      Option.bind (eA N N ((0 : Int),(0 : Int),(↑(Int.toNat (if (8192 : Int) < (↑x4 : Int) then (8192 : Int) else (↑x4 : Int)) - (0 : Nat)) : Int),x1,x2,if (8192 : Int) < (↑x4 : Int) then (8192 : Int) else (↑x4 : Int),x3,x4,x3 + (0 : Nat),Int.toNat (if (8192 : Int) < (↑x4 : Int) then (8192 : Int) else (↑x4 : Int)) - (0 : Nat),x5,x6,x7,x8)) fun (y0_0,y0_1,y0_2,y0_3,y0_4,y0_5,y0_6,y0_7,y0_8,y0_9) =>
      ac (decide ((0 : Int) ≤ y0_2 ∧ y0_2 ≤ (↑y0_1 : Int))) (
        ac (decide ((0 : Int) ≤ y0_4 ∧ y0_4 ≤ (↑(ByteArray.size y0_3) : Int))) (
          ac (y0_5) (
            Option.bind (vA N (List.take (Int.toNat y0_2 - (0 : Nat)) (List.drop (y0_0 + (0 : Nat)) y0_8),ByteArray.extract y0_3 (0 : Nat) (Int.toNat y0_4),y0_2 == (↑y0_1 : Int),y0_6,y0_7,y0_9)) fun y1 =>
            ac (decide ((0 : Int) ≤ y0_2 ∧ y0_2 ≤ (↑y0_1 : Int))) (
              ac (decide ((0 : Int) ≤ y0_4 ∧ y0_4 ≤ (↑(ByteArray.size y0_3) : Int))) (
                Option.bind (f (false,y0_5,ByteArray.extract y0_3 (Int.toNat y0_4) (ByteArray.size y0_3),y0_0 + Int.toNat y0_2,y0_1 - Int.toNat y0_2,y1.1,y1.2.1,y0_8,y1.2.2)) fun r => some r) (
                none )) (
              none )) (
            Option.bind (vA N (List.take (Int.toNat y0_2 - (0 : Nat)) (List.drop (y0_0 + (0 : Nat)) y0_8),ByteArray.extract y0_3 (0 : Nat) (Int.toNat y0_4),false,y0_6,y0_7,y0_9)) fun y2 =>
            ac (decide ((0 : Int) ≤ y0_2 ∧ y0_2 ≤ (↑y0_1 : Int))) (
              ac (decide ((0 : Int) ≤ y0_4 ∧ y0_4 ≤ (↑(ByteArray.size y0_3) : Int))) (
                Option.bind (f (false,y0_5,ByteArray.extract y0_3 (Int.toNat y0_4) (ByteArray.size y0_3),y0_0 + Int.toNat y0_2,y0_1 - Int.toNat y0_2,y2.1,y2.2.1,y0_8,y2.2.2)) fun r => some r) (
                none )) (
              none ))) (
          none )) (
        none )) (
      none )) (
    ac (decide ((↑x4 : Int) > (0 : Int))) (
      ac (decide (((0 : Int) ≤ if (8192 : Int) < (↑x4 : Int) then (8192 : Int) else (↑x4 : Int)) ∧ (if (8192 : Int) < (↑x4 : Int) then (8192 : Int) else (↑x4 : Int)) ≤ (↑x4 : Int))) (
        Option.bind (eA N N ((0 : Int),(0 : Int),(↑(Int.toNat (if (8192 : Int) < (↑x4 : Int) then (8192 : Int) else (↑x4 : Int)) - (0 : Nat)) : Int),x1,x2,if (8192 : Int) < (↑x4 : Int) then (8192 : Int) else (↑x4 : Int),x3,x4,x3 + (0 : Nat),Int.toNat (if (8192 : Int) < (↑x4 : Int) then (8192 : Int) else (↑x4 : Int)) - (0 : Nat),x5,x6,x7,x8)) fun (y3_0,y3_1,y3_2,y3_3,y3_4,y3_5,y3_6,y3_7,y3_8,y3_9) =>
        ac (decide ((0 : Int) ≤ y3_2 ∧ y3_2 ≤ (↑y3_1 : Int))) (
          ac (decide ((0 : Int) ≤ y3_4 ∧ y3_4 ≤ (↑(ByteArray.size y3_3) : Int))) (
            ac (y3_5) (
              Option.bind (vA N (List.take (Int.toNat y3_2 - (0 : Nat)) (List.drop (y3_0 + (0 : Nat)) y3_8),ByteArray.extract y3_3 (0 : Nat) (Int.toNat y3_4),y3_2 == (↑y3_1 : Int),y3_6,y3_7,y3_9)) fun y4 =>
              ac (decide ((0 : Int) ≤ y3_2 ∧ y3_2 ≤ (↑y3_1 : Int))) (
                ac (decide ((0 : Int) ≤ y3_4 ∧ y3_4 ≤ (↑(ByteArray.size y3_3) : Int))) (
                  Option.bind (f (false,y3_5,ByteArray.extract y3_3 (Int.toNat y3_4) (ByteArray.size y3_3),y3_0 + Int.toNat y3_2,y3_1 - Int.toNat y3_2,y4.1,y4.2.1,y3_8,y4.2.2)) fun r => some r) (
                  none )) (
                none )) (
              Option.bind (vA N (List.take (Int.toNat y3_2 - (0 : Nat)) (List.drop (y3_0 + (0 : Nat)) y3_8),ByteArray.extract y3_3 (0 : Nat) (Int.toNat y3_4),false,y3_6,y3_7,y3_9)) fun y5 =>
              ac (decide ((0 : Int) ≤ y3_2 ∧ y3_2 ≤ (↑y3_1 : Int))) (
                ac (decide ((0 : Int) ≤ y3_4 ∧ y3_4 ≤ (↑(ByteArray.size y3_3) : Int))) (
                  Option.bind (f (false,y3_5,ByteArray.extract y3_3 (Int.toNat y3_4) (ByteArray.size y3_3),y3_0 + Int.toNat y3_2,y3_1 - Int.toNat y3_2,y5.1,y5.2.1,y3_8,y5.2.2)) fun r => some r) (
                  none )) (
                none ))) (
            none )) (
          none )) (
        none )) (
      some ((x5,x6,x8))))
noncomputable def jq (N : Nat) : Nat → uq → Option tC
  | 0,_ => none
  | k + 1,x => vb N (jq N k) x
noncomputable def uZ (N : Nat) (k : Nat) : Cut := er.cut (jq N k)
theorem qi (N : Nat) (k : Nat) : aj Tryz.prog false Tryz.f192 [0] 14 (uZ N k) :=
  er.loopT af al (fz N) Tryz.f192 [0] (cuts := [(7322,BJ fW.s.I (gm N N) (ie N N))]) ⟨fun c' h => cb (dU N N c' h) (ft N N c' h) rfl rfl,trivial⟩ (by decide +kernel) (by kernel_rfl) (vb N) (jq N) (fun _ => rfl) (fun _ _ => rfl) (fun f x => by kernel_rfl) k
@[reducible] def JW : LD := ⟨14,er.live,er.out,⟨[.bool,.bool,.adr 0 [],.str,.sl 1],[.var 221 (.agg [.sl 2,.int .i64,.int .i64]),.row y4 281,.row (.int .u8) 5]⟩,er.w⟩
noncomputable def Lr (N : Nat) (f : (Bool × Bool × ByteArray × Nat × Nat × Int × Int × (List (Int × (Int × (Int × Unit)))) × (List Int)) → Option (Int × Int × (List Int))) : (Bool × Bool × ByteArray × Int × Int × (List (Int × (Int × (Int × Unit)))) × (List Int)) → Option (Int × Int × (List Int))
  | (x0,x1,x2,x3,x4,x5,x6) =>
  ac (x0) (
    ac (decide (((0 : Int) ≤ if (8192 : Int) < (↑(List.length x5) : Int) then (8192 : Int) else (↑(List.length x5) : Int)) ∧ (if (8192 : Int) < (↑(List.length x5) : Int) then (8192 : Int) else (↑(List.length x5) : Int)) ≤ (↑(List.length x5) : Int))) (
      Option.bind (gb N N ((0 : Int),(0 : Int),(↑(Int.toNat (if (8192 : Int) < (↑(List.length x5) : Int) then (8192 : Int) else (↑(List.length x5) : Int)) - (0 : Nat)) : Int),x1,x2,if (8192 : Int) < (↑(List.length x5) : Int) then (8192 : Int) else (↑(List.length x5) : Int),Int.toNat (if (8192 : Int) < (↑(List.length x5) : Int) then (8192 : Int) else (↑(List.length x5) : Int)) - (0 : Nat),x3,x4,x5,x6)) fun (y0_0,y0_1,y0_2,y0_3,y0_4,y0_5,y0_6,y0_7) =>
      ac (decide ((0 : Int) ≤ y0_0 ∧ y0_0 ≤ (↑(List.length y0_6) : Int))) (
        ac (decide ((0 : Int) ≤ y0_2 ∧ y0_2 ≤ (↑(ByteArray.size y0_1) : Int))) (
          ac (y0_3) (
            Option.bind (vA N (List.take (Int.toNat y0_0 - (0 : Nat)) y0_6,ByteArray.extract y0_1 (0 : Nat) (Int.toNat y0_2),y0_0 == (↑(List.length y0_6) : Int),y0_4,y0_5,y0_7)) fun y1 =>
            ac (decide ((0 : Int) ≤ y0_0 ∧ y0_0 ≤ (↑(List.length y0_6) : Int))) (
              ac (decide ((0 : Int) ≤ y0_2 ∧ y0_2 ≤ (↑(ByteArray.size y0_1) : Int))) (
                Option.bind (f (false,y0_3,ByteArray.extract y0_1 (Int.toNat y0_2) (ByteArray.size y0_1),Int.toNat y0_0,List.length y0_6 - Int.toNat y0_0,y1.1,y1.2.1,y0_6,y1.2.2)) fun r => some r) (
                none )) (
              none )) (
            Option.bind (vA N (List.take (Int.toNat y0_0 - (0 : Nat)) y0_6,ByteArray.extract y0_1 (0 : Nat) (Int.toNat y0_2),false,y0_4,y0_5,y0_7)) fun y2 =>
            ac (decide ((0 : Int) ≤ y0_0 ∧ y0_0 ≤ (↑(List.length y0_6) : Int))) (
              ac (decide ((0 : Int) ≤ y0_2 ∧ y0_2 ≤ (↑(ByteArray.size y0_1) : Int))) (
                Option.bind (f (false,y0_3,ByteArray.extract y0_1 (Int.toNat y0_2) (ByteArray.size y0_1),Int.toNat y0_0,List.length y0_6 - Int.toNat y0_0,y2.1,y2.2.1,y0_6,y2.2.2)) fun r => some r) (
                none )) (
              none ))) (
          none )) (
        none )) (
      none )) (
    ac (decide ((↑(List.length x5) : Int) > (0 : Int))) (
      ac (decide (((0 : Int) ≤ if (8192 : Int) < (↑(List.length x5) : Int) then (8192 : Int) else (↑(List.length x5) : Int)) ∧ (if (8192 : Int) < (↑(List.length x5) : Int) then (8192 : Int) else (↑(List.length x5) : Int)) ≤ (↑(List.length x5) : Int))) (
        Option.bind (gb N N ((0 : Int),(0 : Int),(↑(Int.toNat (if (8192 : Int) < (↑(List.length x5) : Int) then (8192 : Int) else (↑(List.length x5) : Int)) - (0 : Nat)) : Int),x1,x2,if (8192 : Int) < (↑(List.length x5) : Int) then (8192 : Int) else (↑(List.length x5) : Int),Int.toNat (if (8192 : Int) < (↑(List.length x5) : Int) then (8192 : Int) else (↑(List.length x5) : Int)) - (0 : Nat),x3,x4,x5,x6)) fun (y3_0,y3_1,y3_2,y3_3,y3_4,y3_5,y3_6,y3_7) =>
        ac (decide ((0 : Int) ≤ y3_0 ∧ y3_0 ≤ (↑(List.length y3_6) : Int))) (
          ac (decide ((0 : Int) ≤ y3_2 ∧ y3_2 ≤ (↑(ByteArray.size y3_1) : Int))) (
            ac (y3_3) (
              Option.bind (vA N (List.take (Int.toNat y3_0 - (0 : Nat)) y3_6,ByteArray.extract y3_1 (0 : Nat) (Int.toNat y3_2),y3_0 == (↑(List.length y3_6) : Int),y3_4,y3_5,y3_7)) fun y4 =>
              ac (decide ((0 : Int) ≤ y3_0 ∧ y3_0 ≤ (↑(List.length y3_6) : Int))) (
                ac (decide ((0 : Int) ≤ y3_2 ∧ y3_2 ≤ (↑(ByteArray.size y3_1) : Int))) (
                  Option.bind (f (false,y3_3,ByteArray.extract y3_1 (Int.toNat y3_2) (ByteArray.size y3_1),Int.toNat y3_0,List.length y3_6 - Int.toNat y3_0,y4.1,y4.2.1,y3_6,y4.2.2)) fun r => some r) (
                  none )) (
                none )) (
              Option.bind (vA N (List.take (Int.toNat y3_0 - (0 : Nat)) y3_6,ByteArray.extract y3_1 (0 : Nat) (Int.toNat y3_2),false,y3_4,y3_5,y3_7)) fun y5 =>
              ac (decide ((0 : Int) ≤ y3_0 ∧ y3_0 ≤ (↑(List.length y3_6) : Int))) (
                ac (decide ((0 : Int) ≤ y3_2 ∧ y3_2 ≤ (↑(ByteArray.size y3_1) : Int))) (
                  Option.bind (f (false,y3_3,ByteArray.extract y3_1 (Int.toNat y3_2) (ByteArray.size y3_1),Int.toNat y3_0,List.length y3_6 - Int.toNat y3_0,y5.1,y5.2.1,y3_6,y5.2.2)) fun r => some r) (
                  none )) (
                none ))) (
            none )) (
          none )) (
        none )) (
      some ((x3,x4,x6))))
noncomputable def Kc (N : Nat) (k : Nat) : (Bool × Bool × ByteArray × Int × Int × (List (Int × (Int × (Int × Unit)))) × (List Int)) → Option (Int × Int × (List Int)) := Lr N (jq N k)
noncomputable def KN (N : Nat) (k : Nat) : Cut := JW.cut (Kc N k)
theorem HU (N : Nat) (k : Nat) : aj Tryz.prog false Tryz.f192 [0] 14 (KN N k) :=
  JW.loop2T af al (fz N) er.s Tryz.f192 [0] (cuts := [(7322,BJ fW.s.I (gm N N) (ie N N)),(14,uZ N N)]) ⟨fun c' h => cb (dU N N c' h) (ft N N c' h) rfl rfl,qi N N,trivial⟩ (by decide +kernel) (by kernel_rfl) (Lr N) (vb N) (jq N) (fun _ => rfl) (fun _ _ => rfl) (fun f g x => by kernel_rfl) (fun f g x => by kernel_rfl) k
@[reducible] def w192 : List SP := [⟨[.tup []],[.var 221 (.agg [.sl 1,.int .i64,.int .i64]),.row (.int .u8) 5]⟩]
noncomputable def ak7 (N : Nat) : (ByteArray × ByteArray × Bool × Int × Int × (List Int)) → Option (Int × Int × (List Int))
  | (x0,x1,x2,x3,x4,x5) =>
  Option.bind (ak1 N (x0,x1)) fun y0 =>
  Option.bind (Kc N N (true,x2,x1,x3,x4,y0,x5)) fun y1 =>
  some ((y1.1,y1.2.1,y1.2.2))
noncomputable def aD8 (N : Nat) : Pk → Tr Pk := ag s192 w192 (ak7 N)
theorem UT (N : Nat) : au Tryz.prog (192) (aD8 N) :=
  (ae af al (fz N) Tryz.func192 s192 w192 [0] (cuts := [(7322,BJ fW.s.I (gm N N) (ie N N)),(14,BJ er.s.I (uZ N N) (KN N N))]) ⟨fun c' h => cb (dU N N c' h) (ft N N c' h) rfl rfl,fun c' h => cb (qi N N c' h) (HU N N c' h) rfl rfl,trivial⟩ (fun _ => by kernel_rfl) (by decide +kernel) (ak7 N) (fun x => by kernel_rfl))
@[reducible] def s162 : SP := ⟨[.str,.str],[]⟩
noncomputable def YU (N : Nat) : List (Nat × (Pk → Tr Pk)) := [(192,aD8 N),(228,af1 N),(193,af5 N)]
theorem M2 (N : Nat) : ah Tryz.prog (YU N) := ⟨UT N,Ja N,Je N,trivial⟩
@[reducible] def w162 : List SP := [⟨[.str],[]⟩]
noncomputable def al1 (N : Nat) : (ByteArray × ByteArray) → Option (ByteArray)
  | (x0,x1) =>
  ac (!ByteArray.toList x1 == []) (
    Option.bind (ak7 N (x0,x1,false,(0 : Int),(0 : Int),[])) fun y0 =>
    Option.bind (Rt N (ByteArray.mk #[],false,y0.1,y0.2.1,y0.2.2)) fun y1 =>
    Option.bind (RB N (y1.2.2,y1.1,y1.2.1,())) fun y2 =>
    some (y2)) (
    Option.bind (Rt N (ByteArray.mk #[],false,(0 : Int),(0 : Int),[])) fun y3 =>
    Option.bind (RB N (y3.2.2,y3.1,y3.2.1,())) fun y4 =>
    some (y4))
noncomputable def aE4 (N : Nat) : Pk → Tr Pk := ag s162 w162 (al1 N)
theorem UZ (N : Nat) : au Tryz.prog (162) (aE4 N) :=
  (ae af al (M2 N) Tryz.func162 s162 w162 [] (cuts := []) trivial (fun _ => by kernel_rfl) (by decide +kernel) (al1 N) (fun x => by kernel_rfl))
@[reducible] def s163 : SP := ⟨[.adr 0 [.f 0 0],.str],[.var 64 (.agg [.agg [.bool,.str]])]⟩
noncomputable def YT (N : Nat) : List (Nat × (Pk → Tr Pk)) := [(229,NX N)]
theorem M1 (N : Nat) : ah Tryz.prog (YT N) := ⟨mD N,trivial⟩
@[reducible] def w163 : List SP := [⟨[.tup []],[.var 64 (.agg [.agg [.bool,.str]])]⟩]
noncomputable def V8 (N : Nat) : (ByteArray × Bool × ByteArray) → Option (Bool × ByteArray)
  | (x0,x1,x2) =>
  ac (decide ((↑(ByteArray.size x2 + ByteArray.size x0) : Int) > (9223372036854775807 : Int))) (
    none ) (
    Option.bind (G7 N (x2 ++ x0)) fun y0 =>
    some ((true,y0)))
noncomputable def aE3 (N : Nat) : Pk → Tr Pk := ag s163 w163 (V8 N)
theorem UY (N : Nat) : au Tryz.prog (163) (aE3 N) :=
  (ae af al (M1 N) Tryz.func163 s163 w163 [0] (cuts := []) trivial (fun _ => by kernel_rfl) (by decide +kernel) (V8 N) (fun x => by kernel_rfl))
@[reducible] def s99 : SP := ⟨[.adr 0 [],.str],[.var 64 (.agg [.agg [.bool,.str]])]⟩
noncomputable def an5 (N : Nat) : List (Nat × (Pk → Tr Pk)) := [(162,aE4 N),(163,aE3 N)]
theorem OQ (N : Nat) : ah Tryz.prog (an5 N) := ⟨UZ N,UY N,trivial⟩
@[reducible] def w99 : List SP := [⟨[.str],[.var 64 (.agg [.agg [.bool,.str]])]⟩]
noncomputable def F99 (N : Nat) : (ByteArray × Bool × ByteArray) → Option (ByteArray × Bool × ByteArray)
  | (x0,x1,x2) =>
  Option.bind (al1 N (x2,x0)) fun y0 =>
  ac (!x1) (
    ac (decide ((↑((2 : Nat) + ByteArray.size y0) : Int) > (9223372036854775807 : Int))) (
      none ) (
      Option.bind (V8 N (x0,x1,x2)) fun y1 =>
      some ((ByteArray.mk #[(120 : UInt8),(156 : UInt8)] ++ y0,y1.1,y1.2)))) (
    Option.bind (V8 N (x0,x1,x2)) fun y2 =>
    some ((y0,y2.1,y2.2)))
noncomputable def T99 (N : Nat) : Pk → Tr Pk := ag s99 w99 (F99 N)
theorem aa4 (N : Nat) : au Tryz.prog (99) (T99 N) :=
  (ae af al (OQ N) Tryz.func99 s99 w99 [0] (cuts := []) trivial (fun _ => by kernel_rfl) (by decide +kernel) (F99 N) (fun x => by kernel_rfl))
@[reducible] def s164 : SP := ⟨[.int .i64,.int .i64],[]⟩
noncomputable def YS (N : Nat) : List (Nat × (Pk → Tr Pk)) := [(230,af0 N)]
theorem wz (N : Nat) : ah Tryz.prog (YS N) := ⟨I9 N,trivial⟩
@[reducible] def DC : LD := ⟨122,[25,24,6,1],[(.ret,[4,5]),(.exit 0,[6])],⟨[.int .i64,.int .i64,.sl 0,.int .i64],[.row (.int .u8) 5]⟩,[(.exit 0,⟨[.sl 0],[.row (.int .u8) 5]⟩)]⟩
abbrev uv : Type := Int × Int × Int × (List Int)
abbrev tG : Type := (List Int)
noncomputable def Fq (N : Nat) (f : uv → Option tG) : uv → Option tG
  | (x0,x1,x2,x3) =>
  ac (decide (x0 < x1)) (
    ac (decide (IntKind.wrap IntKind.i64 ((8 : Int) * x0) < (0 : Int))) (
      none ) (
      ac (within x0 (List.length x3)) (
        Option.bind (x3[Int.toNat x0]?) fun y0 =>
        Option.bind (f (IntKind.wrap IntKind.i64 (x0 + (1 : Int)),x1,x2,List.set x3 (Int.toNat x0) (IntKind.wrap IntKind.u8 (Int.fdiv x2 ((2 : Int) ^ min (Int.toNat (IntKind.wrap IntKind.i64 ((8 : Int) * x0))) (64 : Nat)))))) fun r => some r) (
        none ))) (
    some (x3))
noncomputable def nh (N : Nat) : Nat → uv → Option tG
  | 0,_ => none
  | k + 1,x => Fq N (nh N k) x
noncomputable def ER (N : Nat) (k : Nat) : Cut := DC.cut (nh N k)
theorem EQ (N : Nat) (k : Nat) : aj Tryz.prog false Tryz.f164 [] 122 (ER N k) :=
  DC.loopT af al (wz N) Tryz.f164 [] (cuts := []) trivial (by decide +kernel) (by kernel_rfl) (Fq N) (nh N) (fun _ => rfl) (fun _ _ => rfl) (fun f x => by kernel_rfl) k
@[reducible] def w164 : List SP := [⟨[.tup [.str,.int .i64]],[]⟩]
noncomputable def al0 (N : Nat) : (Int × Int) → Option (ByteArray × Int)
  | (x0,x1) =>
  Option.bind (Rs N x0) fun y0 =>
  ac (!y0) (
    some ((ByteArray.mk #[],(1 : Int)))) (
    ac (decide (x1 < (0 : Int))) (
      some ((ByteArray.mk #[],(1 : Int)))) (
      ac (decide (IntKind.wrap IntKind.i64 ((8 : Int) * x0) < (0 : Int))) (
        none ) (
        ac (Int.fdiv x1 ((2 : Int) ^ min (Int.toNat (IntKind.wrap IntKind.i64 ((8 : Int) * x0))) (64 : Nat)) != (0 : Int)) (
          some ((ByteArray.mk #[],(1 : Int)))) (
          ac (decide ((0 : Int) ≤ x0 ∧ x0 ≤ x0 ∧ x0 * (1 : Int) ≤ (140737488355328 : Int) ∧ x0 ≤ (140737488355328 : Int))) (
            Option.bind (nh N N ((0 : Int),x0,x1,List.replicate (Int.toNat x0) (0 : Int))) fun y1 =>
            some ((aB y1,(0 : Int)))) (
            none )))))
noncomputable def aE2 (N : Nat) : Pk → Tr Pk := ag s164 w164 (al0 N)
theorem UX (N : Nat) : au Tryz.prog (164) (aE2 N) :=
  (ae af al (wz N) Tryz.func164 s164 w164 [] (cuts := [(122,ER N N)]) ⟨EQ N N,trivial⟩ (fun _ => by kernel_rfl) (by decide +kernel) (al0 N) (fun x => by kernel_rfl))
@[reducible] def s100 : SP := ⟨[.int .i64,.int .i64],[]⟩
noncomputable def Zr (N : Nat) : List (Nat × (Pk → Tr Pk)) := [(164,aE2 N),(165,af6 N)]
theorem Np (N : Nat) : ah Tryz.prog (Zr N) := ⟨UX N,Jf N,trivial⟩
@[reducible] def w100 : List SP := [⟨[.tup [.str,.int .i64]],[]⟩]
noncomputable def al9 (N : Nat) : (Int × Int) → Option (ByteArray × Int)
  | (x0,x1) =>
  Option.bind (al0 N (x0,x1)) fun y0 =>
  Option.bind (vC N y0.1) fun y1 =>
  some ((y1,y0.2))
noncomputable def aG5 (N : Nat) : Pk → Tr Pk := ag s100 w100 (al9 N)
theorem Vr (N : Nat) : au Tryz.prog (100) (aG5 N) :=
  (ae af al (Np N) Tryz.func100 s100 w100 [] (cuts := []) trivial (fun _ => by kernel_rfl) (by decide +kernel) (al9 N) (fun x => by kernel_rfl))
@[reducible] def s40 : SP := ⟨[.adr 0 [],.agg [.int .i64,.int .i64,.bool,.bool,.int .i64,.int .i64,.int .i64,.int .i64,.int .i64,.int .i64],.int .i64,.int .i64,.sl 1],[.var 64 (.agg [.agg [.bool,.str]]),.row (.int .i64) 3]⟩
noncomputable def ap9 (N : Nat) : List (Nat × (Pk → Tr Pk)) := [(34,T34 N),(99,T99 N),(100,aG5 N)]
theorem O4 (N : Nat) : ah Tryz.prog (ap9 N) := ⟨ad7 N,aa4 N,Vr N,trivial⟩
@[reducible] def w40 : List SP := [⟨[.tup [.str,.int .i64]],[.var 64 (.agg [.agg [.bool,.str]])]⟩]
noncomputable def F40 (N : Nat) : (Int × Int × Bool × Bool × Int × Int × Int × Int × Int × Int × Int × Int × Bool × ByteArray × (List Int)) → Option (ByteArray × Int × Bool × ByteArray)
  | (x0,x1,x2,x3,x4,x5,x6,x7,x8,x9,x10,x11,x12,x13,x14) =>
  Option.bind (F34 N (x0,x1,x2,x3,x4,x5,x6,x7,x8,x9,x10,x11,x14)) fun y0 =>
  ac (y0.2 != (0 : Int)) (
    some ((ByteArray.mk #[],y0.2,x12,x13))) (
    Option.bind (F99 N (y0.1,x12,x13)) fun y1 =>
    Option.bind (al9 N ((4 : Int),(↑(ByteArray.size y1.1) : Int))) fun y2 =>
    ac (decide ((↑(ByteArray.size y2.1 + ByteArray.size y1.1) : Int) > (9223372036854775807 : Int))) (
      none ) (
      some ((y2.1 ++ y1.1,(0 : Int),y1.2.1,y1.2.2))))
noncomputable def T40 (N : Nat) : Pk → Tr Pk := ag s40 w40 (F40 N)
theorem ac0 (N : Nat) : au Tryz.prog (40) (T40 N) :=
  (ae af al (O4 N) Tryz.func40 s40 w40 [0] (cuts := []) trivial (fun _ => by kernel_rfl) (by decide +kernel) (F40 N) (fun x => by kernel_rfl))
@[reducible] def s32 : SP := ⟨[.agg [.int .i64,.int .i64,.bool,.bool,.int .i64,.int .i64,.int .i64,.int .i64,.int .i64,.int .i64],.int .i64,.int .i64],[]⟩
noncomputable def aq6 (N : Nat) : List (Nat × (Pk → Tr Pk)) := [(35,T35 N),(37,T37 N),(82,T82 N)]
theorem O7 (N : Nat) : ah Tryz.prog (aq6 N) := ⟨zx N,zu N,Gv N,trivial⟩
@[reducible] def w32 : List SP := [⟨[.int .i64],[]⟩]
noncomputable def F32 (N : Nat) : (Int × Int × Bool × Bool × Int × Int × Int × Int × Int × Int × Int × Int) → Option (Int)
  | (x0,x1,x2,x3,x4,x5,x6,x7,x8,x9,x10,x11) =>
  Option.bind (WM N (x0,x1,x2,x3,x4,x5,x6,x7,x8,x9,x10,x11)) fun y0 =>
  ac (!y0) (
    some ((0 : Int))) (
    Option.bind (J8 N (x0,x1,x2,x3,x4,x5,x6,x7,x8,x9)) fun y1 =>
    Option.bind (F82 N (x10,x11,(64 : Int))) fun y2 =>
    some (IntKind.wrap IntKind.i64 (IntKind.wrap IntKind.i64 ((512 : Int) * (↑(List.length y2) : Int)) + IntKind.wrap IntKind.i64 (IntKind.wrap IntKind.i64 (x10 * x11) * IntKind.wrap IntKind.i64 (y1.1 + (2 : Int))))))
noncomputable def T32 (N : Nat) : Pk → Tr Pk := ag s32 w32 (F32 N)
theorem QC (N : Nat) : au Tryz.prog (32) (T32 N) :=
  (ae af al (O7 N) Tryz.func32 s32 w32 [] (cuts := []) trivial (fun _ => by kernel_rfl) (by decide +kernel) (F32 N) (fun x => by kernel_rfl))
@[reducible] def s246 : SP := ⟨[.str],[]⟩
noncomputable def Yn (N : Nat) : List (Nat × (Pk → Tr Pk)) := [(81,T81 N),(105,NZ N),(84,T84 N)]
theorem MG (N : Nat) : ah Tryz.prog (Yn N) := ⟨Gw N,mF N,ox N,trivial⟩
@[reducible] def w246 : List SP := [⟨[.int .i64],[]⟩]
noncomputable def ak2 (N : Nat) : (ByteArray) → Option (Int)
  | x0 =>
  Option.bind (F81 N x0) fun y0 =>
  Option.bind (uP N ((1 : Int),y0.1,y0.2.1,y0.2.2)) fun y1 =>
  Option.bind (uP N ((1 : Int),y1.2.1,y1.2.2.1,y1.2.2.2)) fun y2 =>
  Option.bind (Sr N (y2.2.1,y2.2.2.1,y2.2.2.2,())) fun y3 =>
  ac (y3 != (0 : Int)) (
    Option.bind (Sr N (y2.2.1,y2.2.2.1,y2.2.2.2,())) fun y4 =>
    some (y4)) (
    ac (IntKind.wrap IntKind.i64 (↑(BitVec.toNat (BitVec.ofInt (64 : Nat) y1.1 &&& BitVec.ofInt (64 : Nat) (15 : Int))) : Int) != (8 : Int)) (
      some ((100 : Int))) (
      ac (decide (Int.fdiv y1.1 (16 : Int) > (7 : Int))) (
        some ((100 : Int))) (
        ac (IntKind.wrap IntKind.i64 (↑(BitVec.toNat (BitVec.ofInt (64 : Nat) y2.1 &&& BitVec.ofInt (64 : Nat) (32 : Int))) : Int) != (0 : Int)) (
          some ((100 : Int))) (
          ac (Int.tmod (IntKind.wrap IntKind.i64 (↑(BitVec.toNat (BitVec.ofInt (64 : Nat) (IntKind.wrap IntKind.i64 (y1.1 * (256 : Int))) ||| BitVec.ofInt (64 : Nat) y2.1)) : Int)) (31 : Int) != (0 : Int)) (
            some ((100 : Int))) (
            some ((0 : Int)))))))
noncomputable def aC3 (N : Nat) : Pk → Tr Pk := ag s246 w246 (ak2 N)
theorem UB (N : Nat) : au Tryz.prog (246) (aC3 N) :=
  (ae af al (MG N) Tryz.func246 s246 w246 [] (cuts := []) trivial (fun _ => by kernel_rfl) (by decide +kernel) (ak2 N) (fun x => by kernel_rfl))
@[reducible] def s283 : SP := ⟨[.str],[]⟩
noncomputable def X9 (N : Nat) : List (Nat × (Pk → Tr Pk)) := []
theorem Mz (N : Nat) : ah Tryz.prog (X9 N) := trivial
@[reducible] def w283 : List SP := [⟨[.adr 0 []],[.var 345 (.agg [.str,.int .i64,.int .i64])]⟩]
noncomputable def aj6 (N : Nat) : (ByteArray) → Option (ByteArray × Int × Int)
  | x0 =>
  some ((x0,(0 : Int),(0 : Int)))
noncomputable def aB2 (N : Nat) : Pk → Tr Pk := ag s283 w283 (aj6 N)
theorem Uq (N : Nat) : au Tryz.prog (283) (aB2 N) :=
  (ae af al (Mz N) Tryz.func283 s283 w283 [] (cuts := []) trivial (fun _ => by kernel_rfl) (by decide +kernel) (aj6 N) (fun x => by kernel_rfl))
@[reducible] def s305 : SP := ⟨[.radr y2 [.i 0 3]],[]⟩
noncomputable def X3 (N : Nat) : List (Nat × (Pk → Tr Pk)) := []
theorem Mu (N : Nat) : ah Tryz.prog (X3 N) := trivial
@[reducible] def w305 : List SP := [⟨[.int .i64],[]⟩]
noncomputable def N8 (N : Nat) : ((ByteArray × (Int × (Int × Unit)))) → Option (Int)
  | x0 =>
  some (IntKind.wrap IntKind.i64 (IntKind.wrap IntKind.i64 ((8 : Int) * (↑(ByteArray.size x0.1) : Int)) - x0.2.1))
noncomputable def Uk (N : Nat) : Pk → Tr Pk := ag s305 w305 (N8 N)
theorem zB (N : Nat) : au Tryz.prog (305) (Uk N) :=
  (ae af al (Mu N) Tryz.func305 s305 w305 [] (cuts := []) trivial (fun _ => by kernel_rfl) (by decide +kernel) (N8 N) (fun x => by kernel_rfl))
@[reducible] def s344 : SP := ⟨[.adr 0 [],.int .i64],[.var 345 (.agg [.str,.int .i64,.int .i64])]⟩
noncomputable def XE (N : Nat) : List (Nat × (Pk → Tr Pk)) := [(305,Uk N)]
theorem Me (N : Nat) : ah Tryz.prog (XE N) := ⟨zB N,trivial⟩
@[reducible] def w344 : List SP := [⟨[.bool],[.var 345 (.agg [.str,.int .i64,.int .i64])]⟩]
noncomputable def N5 (N : Nat) : (Int × ByteArray × Int × Int) → Option (Bool × ByteArray × Int × Int)
  | (x0,x1,x2,x3) =>
  ac (x3 == (0 : Int)) (
    Option.bind (N8 N (x1,x2,x3,())) fun y0 =>
    ac (decide (x0 > y0)) (
      some ((false,x1,x2,(2 : Int)))) (
      some ((x3 == (0 : Int),x1,x2,x3)))) (
    some ((x3 == (0 : Int),x1,x2,x3)))
noncomputable def ad8 (N : Nat) : Pk → Tr Pk := ag s344 w344 (N5 N)
theorem I1 (N : Nat) : au Tryz.prog (344) (ad8 N) :=
  (ae af al (Me N) Tryz.func344 s344 w344 [0] (cuts := []) trivial (fun _ => by kernel_rfl) (by decide +kernel) (N5 N) (fun x => by kernel_rfl))
@[reducible] def s329 : SP := ⟨[.adr 0 [],.int .i64],[.var 345 (.agg [.str,.int .i64,.int .i64])]⟩
noncomputable def XQ (N : Nat) : List (Nat × (Pk → Tr Pk)) := [(310,Ug N),(344,ad8 N)]
theorem vY (N : Nat) : ah Tryz.prog (XQ N) := ⟨zA N,I1 N,trivial⟩
@[reducible] def Dp : LD := ⟨250,[5,15,14,1,0],[(.ret,[4]),(.exit 0,[0,1,5])],⟨[.int .i64,.int .i64,.int .i64,.int .i64,.adr 0 []],[.var 345 (.agg [.str,.int .i64,.int .i64])]⟩,[(.exit 0,⟨[.adr 0 [],.int .i64,.int .i64],[.var 345 (.agg [.str,.int .i64,.int .i64])]⟩)]⟩
abbrev uh : Type := Int × Int × Int × Int × ByteArray × Int × Int
abbrev tt : Type := Int × Int × ByteArray × Int × Int
noncomputable def Fh (N : Nat) (f : uh → Option tt) : uh → Option tt
  | (x0,x1,x2,x3,x4,x5,x6) =>
  ac (decide (x1 < x2)) (
    ac (decide ((0 : Int) ≤ IntKind.wrap IntKind.i64 (Int.tdiv (IntKind.wrap IntKind.i64 (x5 + x1)) (8 : Int)))) (
      Option.bind (x4[Int.toNat (IntKind.wrap IntKind.i64 (Int.tdiv (IntKind.wrap IntKind.i64 (x5 + x1)) (8 : Int)))]?) fun y0 =>
      ac (decide (Int.tmod (IntKind.wrap IntKind.i64 (x5 + x1)) (8 : Int) < (0 : Int))) (
        none ) (
        ac (decide (x1 < (0 : Int))) (
          none ) (
          Option.bind (f (IntKind.wrap IntKind.i64 (↑(BitVec.toNat (BitVec.ofInt (64 : Nat) x0 ||| BitVec.ofInt (64 : Nat) (IntKind.wrap IntKind.i64 (IntKind.wrap IntKind.i64 (↑(BitVec.toNat (BitVec.ofInt (64 : Nat) (Int.fdiv (IntKind.wrap IntKind.i64 (↑(UInt8.toNat y0) : Int)) ((2 : Int) ^ min (Int.toNat (Int.tmod (IntKind.wrap IntKind.i64 (x5 + x1)) (8 : Int))) (64 : Nat))) &&& BitVec.ofInt (64 : Nat) (1 : Int))) : Int) * (2 : Int) ^ min (Int.toNat x1) (64 : Nat))))) : Int),IntKind.wrap IntKind.i64 (x1 + (1 : Int)),x2,x3,x4,x5,x6)) fun r => some r))) (
      none )) (
    some ((x3,x0,x4,x5,x6)))
noncomputable def na (N : Nat) : Nat → uh → Option tt
  | 0,_ => none
  | k + 1,x => Fh N (na N k) x
noncomputable def EB (N : Nat) (k : Nat) : Cut := Dp.cut (na N k)
theorem EA (N : Nat) (k : Nat) : aj Tryz.prog false Tryz.f329 [0] 250 (EB N k) :=
  Dp.loopT af al (vY N) Tryz.f329 [0] (cuts := []) trivial (by decide +kernel) (by kernel_rfl) (Fh N) (na N) (fun _ => rfl) (fun _ _ => rfl) (fun f x => by kernel_rfl) k
@[reducible] def w329 : List SP := [⟨[.int .i64],[.var 345 (.agg [.str,.int .i64,.int .i64])]⟩]
noncomputable def jm (N : Nat) : (Int × ByteArray × Int × Int) → Option (Int × ByteArray × Int × Int)
  | (x0,x1,x2,x3) =>
  Option.bind (Rm N x0) fun y0 =>
  Option.bind (N5 N (y0,x1,x2,x3)) fun y1 =>
  ac (!y1.1) (
    some (((0 : Int),y1.2.1,y1.2.2.1,y1.2.2.2))) (
    Option.bind (na N N ((0 : Int),(0 : Int),y0,y0,y1.2.1,y1.2.2.1,y1.2.2.2)) fun y2 =>
    some ((y2.2.1,y2.2.2.1,IntKind.wrap IntKind.i64 (y2.2.2.2.1 + y2.1),y2.2.2.2.2)))
noncomputable def vz (N : Nat) : Pk → Tr Pk := ag s329 w329 (jm N)
theorem dJ (N : Nat) : au Tryz.prog (329) (vz N) :=
  (ae af al (vY N) Tryz.func329 s329 w329 [0] (cuts := [(250,EB N N)]) ⟨EA N N,trivial⟩ (fun _ => by kernel_rfl) (by decide +kernel) (jm N) (fun x => by kernel_rfl))
@[reducible] def s330 : SP := ⟨[.radr y2 [.i 0 3]],[]⟩
noncomputable def XP (N : Nat) : List (Nat × (Pk → Tr Pk)) := []
theorem Ml (N : Nat) : ah Tryz.prog (XP N) := trivial
@[reducible] def w330 : List SP := [⟨[.int .i64],[]⟩]
noncomputable def mZ (N : Nat) : ((ByteArray × (Int × (Int × Unit)))) → Option (Int)
  | x0 =>
  some x0.2.2.1
noncomputable def zz (N : Nat) : Pk → Tr Pk := ag s330 w330 (mZ N)
theorem eR (N : Nat) : au Tryz.prog (330) (zz N) :=
  (ae af al (Ml N) Tryz.func330 s330 w330 [] (cuts := []) trivial (fun _ => by kernel_rfl) (by decide +kernel) (mZ N) (fun x => by kernel_rfl))
@[reducible] def s364 : SP := ⟨[.radr y2 [.i 0 3]],[]⟩
noncomputable def Xm (N : Nat) : List (Nat × (Pk → Tr Pk)) := []
theorem LW (N : Nat) : ah Tryz.prog (Xm N) := trivial
@[reducible] def w364 : List SP := [⟨[.int .i64],[]⟩]
noncomputable def Rc (N : Nat) : ((ByteArray × (Int × (Int × Unit)))) → Option (Int)
  | x0 =>
  some (Int.tmod (IntKind.wrap IntKind.i64 ((8 : Int) - Int.tmod x0.2.1 (8 : Int))) (8 : Int))
noncomputable def ad0 (N : Nat) : Pk → Tr Pk := ag s364 w364 (Rc N)
theorem IU (N : Nat) : au Tryz.prog (364) (ad0 N) :=
  (ae af al (LW N) Tryz.func364 s364 w364 [] (cuts := []) trivial (fun _ => by kernel_rfl) (by decide +kernel) (Rc N) (fun x => by kernel_rfl))
@[reducible] def s345 : SP := ⟨[.adr 0 []],[.var 345 (.agg [.str,.int .i64,.int .i64])]⟩
noncomputable def XD (N : Nat) : List (Nat × (Pk → Tr Pk)) := [(364,ad0 N),(329,vz N)]
theorem Md (N : Nat) : ah Tryz.prog (XD N) := ⟨IU N,dJ N,trivial⟩
@[reducible] def w345 : List SP := [⟨[.int .i64],[.var 345 (.agg [.str,.int .i64,.int .i64])]⟩]
noncomputable def ai3 (N : Nat) : (ByteArray × Int × Int) → Option (Int × ByteArray × Int × Int)
  | (x0,x1,x2) =>
  Option.bind (Rc N (x0,x1,x2,())) fun y0 =>
  Option.bind (jm N (y0,x0,x1,x2)) fun y1 =>
  some ((y1.1,y1.2.1,y1.2.2.1,y1.2.2.2))
noncomputable def az1 (N : Nat) : Pk → Tr Pk := ag s345 w345 (ai3 N)
theorem TS (N : Nat) : au Tryz.prog (345) (az1 N) :=
  (ae af al (Md N) Tryz.func345 s345 w345 [0] (cuts := []) trivial (fun _ => by kernel_rfl) (by decide +kernel) (ai3 N) (fun x => by kernel_rfl))
@[reducible] def s346 : SP := ⟨[.adr 0 [],.int .i64],[.var 345 (.agg [.str,.int .i64,.int .i64])]⟩
noncomputable def XC (N : Nat) : List (Nat × (Pk → Tr Pk)) := [(305,Uk N),(344,ad8 N),(364,ad0 N)]
theorem Mc (N : Nat) : ah Tryz.prog (XC N) := ⟨zB N,I1 N,IU N,trivial⟩
@[reducible] def w346 : List SP := [⟨[.str],[.var 345 (.agg [.str,.int .i64,.int .i64])]⟩]
noncomputable def ai2 (N : Nat) : (Int × ByteArray × Int × Int) → Option (ByteArray × ByteArray × Int × Int)
  | (x0,x1,x2,x3) =>
  ac (decide ((if (0 : Int) > x0 then (0 : Int) else x0) > (↑(ByteArray.size x1) : Int))) (
    Option.bind (N8 N (x1,x2,x3,())) fun y0 =>
    Option.bind (N5 N (IntKind.wrap IntKind.i64 (y0 + (1 : Int)),x1,x2,x3)) fun y1 =>
    some ((ByteArray.mk #[],y1.2.1,y1.2.2.1,y1.2.2.2))) (
    Option.bind (Rc N (x1,x2,x3,())) fun y2 =>
    Option.bind (N5 N (IntKind.wrap IntKind.i64 (y2 + IntKind.wrap IntKind.i64 ((8 : Int) * if (0 : Int) > x0 then (0 : Int) else x0)),x1,x2,x3)) fun y3 =>
    ac (!y3.1) (
      Option.bind (N8 N (y3.2.1,y3.2.2.1,y3.2.2.2,())) fun y4 =>
      Option.bind (N5 N (IntKind.wrap IntKind.i64 (y4 + (1 : Int)),y3.2.1,y3.2.2.1,y3.2.2.2)) fun y5 =>
      some ((ByteArray.mk #[],y5.2.1,y5.2.2.1,y5.2.2.2))) (
      Option.bind (Rc N (y3.2.1,y3.2.2.1,y3.2.2.2,())) fun y6 =>
      ac (decide ((0 : Int) ≤ IntKind.wrap IntKind.i64 (IntKind.wrap IntKind.i64 (Int.tdiv (IntKind.wrap IntKind.i64 (y3.2.2.1 + y6)) (8 : Int)) + if (0 : Int) > x0 then (0 : Int) else x0) ∧ IntKind.wrap IntKind.i64 (IntKind.wrap IntKind.i64 (Int.tdiv (IntKind.wrap IntKind.i64 (y3.2.2.1 + y6)) (8 : Int)) + if (0 : Int) > x0 then (0 : Int) else x0) ≤ (↑(ByteArray.size y3.2.1) : Int))) (
        ac (decide ((0 : Int) ≤ IntKind.wrap IntKind.i64 (Int.tdiv (IntKind.wrap IntKind.i64 (y3.2.2.1 + y6)) (8 : Int)) ∧ IntKind.wrap IntKind.i64 (Int.tdiv (IntKind.wrap IntKind.i64 (y3.2.2.1 + y6)) (8 : Int)) ≤ (↑(Int.toNat (IntKind.wrap IntKind.i64 (IntKind.wrap IntKind.i64 (Int.tdiv (IntKind.wrap IntKind.i64 (y3.2.2.1 + y6)) (8 : Int)) + if (0 : Int) > x0 then (0 : Int) else x0))) : Int))) (
          some ((ByteArray.extract y3.2.1 (Int.toNat (IntKind.wrap IntKind.i64 (Int.tdiv (IntKind.wrap IntKind.i64 (y3.2.2.1 + y6)) (8 : Int)))) (Int.toNat (IntKind.wrap IntKind.i64 (IntKind.wrap IntKind.i64 (Int.tdiv (IntKind.wrap IntKind.i64 (y3.2.2.1 + y6)) (8 : Int)) + if (0 : Int) > x0 then (0 : Int) else x0))),y3.2.1,IntKind.wrap IntKind.i64 ((8 : Int) * IntKind.wrap IntKind.i64 (IntKind.wrap IntKind.i64 (Int.tdiv (IntKind.wrap IntKind.i64 (y3.2.2.1 + y6)) (8 : Int)) + if (0 : Int) > x0 then (0 : Int) else x0)),y3.2.2.2))) (
          none )) (
        none )))
noncomputable def az0 (N : Nat) : Pk → Tr Pk := ag s346 w346 (ai2 N)
theorem TR (N : Nat) : au Tryz.prog (346) (az0 N) :=
  (ae af al (Mc N) Tryz.func346 s346 w346 [0] (cuts := []) trivial (fun _ => by kernel_rfl) (by decide +kernel) (ai2 N) (fun x => by kernel_rfl))
@[reducible] def s331 : SP := ⟨[.adr 0 [],.int .i64],[.var 345 (.agg [.str,.int .i64,.int .i64])]⟩
noncomputable def XO (N : Nat) : List (Nat × (Pk → Tr Pk)) := [(345,az1 N),(329,vz N),(330,zz N),(346,az0 N)]
theorem Mk (N : Nat) : ah Tryz.prog (XO N) := ⟨TS N,dJ N,eR N,TR N,trivial⟩
@[reducible] def w331 : List SP := [⟨[.tup [.str,.int .i64]],[.var 345 (.agg [.str,.int .i64,.int .i64])]⟩]
noncomputable def ai6 (N : Nat) : (Int × ByteArray × Int × Int) → Option (ByteArray × Int × ByteArray × Int × Int)
  | (x0,x1,x2,x3) =>
  Option.bind (ai3 N (x1,x2,x3)) fun y0 =>
  Option.bind (jm N ((16 : Int),y0.2.1,y0.2.2.1,y0.2.2.2)) fun y1 =>
  Option.bind (jm N ((16 : Int),y1.2.1,y1.2.2.1,y1.2.2.2)) fun y2 =>
  Option.bind (mZ N (y2.2.1,y2.2.2.1,y2.2.2.2,())) fun y3 =>
  ac (y3 != (0 : Int)) (
    some ((ByteArray.mk #[],y3,y2.2.1,y2.2.2.1,y2.2.2.2))) (
    ac (IntKind.wrap IntKind.i64 (↑(BitVec.toNat (BitVec.ofInt (64 : Nat) y1.1 ^^^ BitVec.ofInt (64 : Nat) y2.1)) : Int) != (65535 : Int)) (
      some ((ByteArray.mk #[],(80 : Int),y2.2.1,y2.2.2.1,y2.2.2.2))) (
      ac (decide (y1.1 > x0)) (
        some ((ByteArray.mk #[],(4 : Int),y2.2.1,y2.2.2.1,y2.2.2.2))) (
        Option.bind (ai2 N (y1.1,y2.2.1,y2.2.2.1,y2.2.2.2)) fun y4 =>
        Option.bind (mZ N (y4.2.1,y4.2.2.1,y4.2.2.2,())) fun y5 =>
        some ((y4.1,y5,y4.2.1,y4.2.2.1,y4.2.2.2)))))
noncomputable def az8 (N : Nat) : Pk → Tr Pk := ag s331 w331 (ai6 N)
theorem Ua (N : Nat) : au Tryz.prog (331) (az8 N) :=
  (ae af al (Mk N) Tryz.func331 s331 w331 [0] (cuts := []) trivial (fun _ => by kernel_rfl) (by decide +kernel) (ai6 N) (fun x => by kernel_rfl))
@[reducible] def s368 : SP := ⟨[.ro (.int .i64)],[]⟩
noncomputable def Xi (N : Nat) : List (Nat × (Pk → Tr Pk)) := [(370,ac8 N),(371,TD N)]
theorem nE (N : Nat) : ah Tryz.prog (Xi N) := ⟨IR N,zv N,trivial⟩
@[reducible] def uA : LD := ⟨16018,[34,33,0,32,6,7],[(.ret,[2,3]),(.exit 2,[7,0,6]),(.exit 1,[7,0,6]),(.exit 0,[6])],⟨[.int .i64,.int .i64,.ro (.int .i64),.ro (.int .i64),.adr 0 [],.int .i64],[.var 397 (.agg [.arr (.int .i64) 16,.sl 1,.int .i64]),.row (.int .i64) 3]⟩,[(.exit 2,⟨[.int .i64,.ro (.int .i64),.adr 0 []],[.var 397 (.agg [.arr (.int .i64) 16,.sl 1,.int .i64]),.row (.int .i64) 3]⟩)]⟩
abbrev ly : Type := Int × Int × (List Int) × (List Int) × Int × (List Int) × Int × (List Int)
abbrev lj : Type := Int × (List Int) × (List Int) × Int × (List Int)
noncomputable def u4 (N : Nat) (f : ly → Option lj) : ly → Option lj
  | (x0,x1,x2,x3,x4,x5,x6,x7) =>
  ac (decide (x0 < x1)) (
    ac (within x0 (List.length x3)) (
      Option.bind (x3[Int.toNat x0]?) fun y0 =>
      ac (y0 == x4) (
        ac (decide ((List.length x7 + List.length [x0]) * (8 : Nat) ≤ (140737488355328 : Nat) ∧ List.length x7 + List.length [x0] ≤ (140737488355328 : Nat))) (
          Option.bind (f (IntKind.wrap IntKind.i64 (x0 + (1 : Int)),x1,x2,x3,x4,x5,x4,x7 ++ [x0])) fun r => some r) (
          none )) (
        Option.bind (f (IntKind.wrap IntKind.i64 (x0 + (1 : Int)),x1,x2,x3,x4,x5,x6,x7)) fun r => some r)) (
      none )) (
    some ((x4,x2,x5,x6,x7)))
noncomputable def gV (N : Nat) : Nat → ly → Option lj
  | 0,_ => none
  | k + 1,x => u4 N (gV N k) x
noncomputable def lI (N : Nat) (k : Nat) : Cut := uA.cut (gV N k)
theorem kL (N : Nat) (k : Nat) : aj Tryz.prog false Tryz.f368 [] 16018 (lI N k) :=
  uA.loopT af al (nE N) Tryz.f368 [] (cuts := []) trivial (by decide +kernel) (by kernel_rfl) (u4 N) (gV N) (fun _ => rfl) (fun _ _ => rfl) (fun f x => by kernel_rfl) k
@[reducible] def Dh : LD := ⟨250,[0,6,7],[(.ret,[2,3]),(.exit 0,[6])],⟨[.ro (.int .i64),.adr 0 [],.int .i64],[.var 397 (.agg [.arr (.int .i64) 16,.sl 1,.int .i64]),.row (.int .i64) 3]⟩,[(.exit 0,⟨[.adr 0 []],[.var 397 (.agg [.arr (.int .i64) 16,.sl 1,.int .i64]),.row (.int .i64) 3]⟩)]⟩
abbrev tZ : Type := (List Int) × Int × (List Int) × Int × (List Int)
abbrev td : Type := (List Int) × Int × (List Int)
noncomputable def E7 (N : Nat) (f : tZ → Option td) : tZ → Option td
  | (x0,x1,x2,x3,x4) =>
  ac (decide (x1 ≤ (15 : Int))) (
    Option.bind (gV N N ((0 : Int),(↑(List.length x0) : Int),x0,x0,x1,x2,x3,x4)) fun y0 =>
    Option.bind (f (y0.2.1,IntKind.wrap IntKind.i64 (y0.1 + (1 : Int)),y0.2.2.1,y0.2.2.2.1,y0.2.2.2.2)) fun r => some r) (
    some ((x2,x3,x4)))
noncomputable def mQ (N : Nat) : Nat → tZ → Option td
  | 0,_ => none
  | k + 1,x => E7 N (mQ N k) x
noncomputable def En (N : Nat) (k : Nat) : Cut := Dh.cut (mQ N k)
theorem Em (N : Nat) (k : Nat) : aj Tryz.prog false Tryz.f368 [] 250 (En N k) :=
  Dh.loopT af al (nE N) Tryz.f368 [] (cuts := [(16018,lI N N)]) ⟨kL N N,trivial⟩ (by decide +kernel) (by kernel_rfl) (E7 N) (mQ N) (fun _ => rfl) (fun _ _ => rfl) (fun f x => by kernel_rfl) k
@[reducible] def w368 : List SP := [⟨[.tup [.nilp,.int .i64]],[]⟩,⟨[.tup [.adr 0 [],.int .i64]],[.var 397 (.agg [.arr (.int .i64) 16,.sl 1,.int .i64]),.row (.int .i64) 3]⟩]
noncomputable def N3 (N : Nat) : ((List Int)) → Option (((Int) ⊕ (Int × (List Int) × Int × (List Int))))
  | x0 =>
  Option.bind (VG N x0) fun y0 =>
  ac (y0.2 != (0 : Int)) (
    some (.inl y0.2)) (
    Option.bind (Ra N x0) fun y1 =>
    Option.bind (mQ N N (x0,(1 : Int),y1.1,(0 : Int),[])) fun y2 =>
    some (.inr (((0 : Int),y2.1,y2.2.1,y2.2.2))))
noncomputable def ac9 (N : Nat) : Pk → Tr Pk := ag s368 w368 (N3 N)
theorem IS (N : Nat) : au Tryz.prog (368) (ac9 N) :=
  (ae af al (nE N) Tryz.func368 s368 w368 [] (cuts := [(16018,lI N N),(250,En N N)]) ⟨kL N N,Em N N,trivial⟩ (fun _ => by kernel_rfl) (by decide +kernel) (N3 N) (fun x => by kernel_rfl))
@[reducible] def s349 : SP := ⟨[.int .i64],[]⟩
noncomputable def Xz (N : Nat) : List (Nat × (Pk → Tr Pk)) := []
theorem Mb (N : Nat) : ah Tryz.prog (Xz N) := trivial
@[reducible] def w349 : List SP := [⟨[.int .i64],[]⟩]
noncomputable def DR (N : Nat) : (Int) → Option (Int)
  | x0 =>
  ac (x0 == (50 : Int)) (
    some ((80 : Int))) (
    ac (x0 == (3 : Int)) (
      some ((80 : Int))) (
      some (x0)))
noncomputable def TO (N : Nat) : Pk → Tr Pk := ag s349 w349 (DR N)
theorem zy (N : Nat) : au Tryz.prog (349) (TO N) :=
  (ae af al (Mb N) Tryz.func349 s349 w349 [] (cuts := []) trivial (fun _ => by kernel_rfl) (by decide +kernel) (DR N) (fun x => by kernel_rfl))
@[reducible] def s365 : SP := ⟨[.adr 0 [],.int .i64],[.var 345 (.agg [.str,.int .i64,.int .i64])]⟩
noncomputable def Xl (N : Nat) : List (Nat × (Pk → Tr Pk)) := [(362,ad1 N),(329,vz N),(330,zz N),(368,ac9 N),(349,TO N)]
theorem vS (N : Nat) : ah Tryz.prog (Xl N) := ⟨IV N,dJ N,eR N,IS N,zy N,trivial⟩
@[reducible] def Jy : LD := ⟨58,[17,16,15,6,0],[(.ret,[4,5]),(.exit 0,[0,6])],⟨[.int .i64,.int .i64,.slp 1 (.c 0) .h,.sl 2,.adr 0 []],[.var 345 (.agg [.str,.int .i64,.int .i64]),.row (.int .i64) 3,.row (.int .i64) 3]⟩,[(.exit 0,⟨[.adr 0 [],.sl 1],[.var 345 (.agg [.str,.int .i64,.int .i64]),.row (.int .i64) 3]⟩)]⟩
abbrev AR : Type := Int × Int × Nat × ByteArray × Int × Int × (List Int) × (List Int)
abbrev Aa : Type := ByteArray × Int × Int × (List Int)
noncomputable def Lb (N : Nat) (f : AR → Option Aa) : AR → Option Aa
  | (x0,x1,x2,x3,x4,x5,x6,x7) =>
  ac (decide (x0 < x1)) (
    ac (within x0 x2) (
      Option.bind (x6[(0 : Nat) + Int.toNat x0]?) fun y0 =>
      Option.bind (jm N ((3 : Int),x3,x4,x5)) fun y1 =>
      ac (within y0 (List.length x7)) (
        Option.bind (x7[Int.toNat y0]?) fun y2 =>
        Option.bind (f (IntKind.wrap IntKind.i64 (x0 + (1 : Int)),x1,x2,y1.2.1,y1.2.2.1,y1.2.2.2,x6,List.set x7 (Int.toNat y0) y1.1)) fun r => some r) (
        none )) (
      none )) (
    some ((x3,x4,x5,x7)))
noncomputable def q5 (N : Nat) : Nat → AR → Option Aa
  | 0,_ => none
  | k + 1,x => Lb N (q5 N k) x
noncomputable def Kr (N : Nat) (k : Nat) : Cut := Jy.cut (q5 N k)
theorem Hy (N : Nat) (k : Nat) : aj Tryz.prog false Tryz.f365 [0] 58 (Kr N k) :=
  Jy.loopT af al (vS N) Tryz.f365 [0] (cuts := []) trivial (by decide +kernel) (by kernel_rfl) (Lb N) (q5 N) (fun _ => rfl) (fun _ _ => rfl) (fun f x => by kernel_rfl) k
@[reducible] def w365 : List SP := [⟨[.tup [.nilp,.int .i64]],[.var 345 (.agg [.str,.int .i64,.int .i64])]⟩,⟨[.tup [.adr 1 [],.int .i64]],[.var 345 (.agg [.str,.int .i64,.int .i64]),.var 397 (.agg [.arr (.int .i64) 16,.sl 2,.int .i64]),.row (.int .i64) 3]⟩]
noncomputable def ah8 (N : Nat) : (Int × ByteArray × Int × Int) → Option (((Int × ByteArray × Int × Int) ⊕ (Int × ByteArray × Int × Int × (List Int) × Int × (List Int))))
  | (x0,x1,x2,x3) =>
  Option.bind (VH N ()) fun y0 =>
  ac (decide ((0 : Int) ≤ x0 ∧ x0 ≤ (↑(List.length y0) : Int))) (
    Option.bind (q5 N N ((0 : Int),(↑(Int.toNat x0 - (0 : Nat)) : Int),Int.toNat x0 - (0 : Nat),x1,x2,x3,y0,List.replicate (19 : Nat) (0 : Int))) fun y1 =>
    Option.bind (mZ N (y1.1,y1.2.1,y1.2.2.1,())) fun y2 =>
    ac (y2 != (0 : Int)) (
      some (.inl ((y2,y1.1,y1.2.1,y1.2.2.1)))) (
      Option.bind (N3 N y1.2.2.2) fun y3 =>
      match y3 with
      | .inl y4 =>
        Option.bind (DR N y4) fun y5 =>
        some (.inl ((y5,y1.1,y1.2.1,y1.2.2.1)))
      | .inr y4 =>
        Option.bind (DR N y4.1) fun y6 =>
        some (.inr ((y6,y1.1,y1.2.1,y1.2.2.1,y4.2.1,y4.2.2.1,y4.2.2.2))))) (
    none )
noncomputable def ay0 (N : Nat) : Pk → Tr Pk := ag s365 w365 (ah8 N)
theorem TH (N : Nat) : au Tryz.prog (365) (ay0 N) :=
  (ae af al (vS N) Tryz.func365 s365 w365 [0] (cuts := [(58,Kr N N)]) ⟨Hy N N,trivial⟩ (fun _ => by kernel_rfl) (by decide +kernel) (ah8 N) (fun x => by kernel_rfl))
@[reducible] def s366 : SP := ⟨[.nilp,.adr 0 []],[.var 345 (.agg [.str,.int .i64,.int .i64])]⟩
noncomputable def Xk (N : Nat) : List (Nat × (Pk → Tr Pk)) := []
theorem vR (N : Nat) : ah Tryz.prog (Xk N) := trivial
@[reducible] def Jx : LD := ⟨58,[8,0,7,1,9,6],[(.ret,[4,5])],⟨[.int .i64,.nilp,.int .i64,.adr 0 [],.int .i64,.int .i64],[.var 345 (.agg [.str,.int .i64,.int .i64])]⟩,[]⟩
abbrev AQ : Type := Int × Int × Int × Int × ByteArray × Int × Int
abbrev zZ : Type := Unit
noncomputable def La (N : Nat) (f : AQ → Option zZ) : AQ → Option zZ
  | (x0,x1,x2,x3,x4,x5,x6) =>
  none 
noncomputable def q4 (N : Nat) : Nat → AQ → Option zZ
  | 0,_ => none
  | k + 1,x => La N (q4 N k) x
noncomputable def Kq (N : Nat) (k : Nat) : Cut := Jx.cut (q4 N k)
theorem Hw (N : Nat) (k : Nat) : aj Tryz.prog false Tryz.f366 [0] 58 (Kq N k) :=
  Jx.loopT af al (vR N) Tryz.f366 [0] (cuts := []) trivial (by decide +kernel) (by kernel_rfl) (La N) (q4 N) (fun _ => rfl) (fun _ _ => rfl) (fun f x => by kernel_rfl) k
@[reducible] def w366 : List SP := []
noncomputable def N4 (N : Nat) : (ByteArray × Int × Int) → Option (Unit)
  | (x0,x1,x2) =>
  Option.bind (q4 N N ((0 : Int),(0 : Int),(1 : Int),(0 : Int),x0,x1,x2)) fun y0 =>
  none
noncomputable def TG (N : Nat) : Pk → Tr Pk := ag s366 w366 (N4 N)
theorem zw (N : Nat) : au Tryz.prog (366) (TG N) :=
  (ae af al (vR N) Tryz.func366 s366 w366 [0] (cuts := [(58,Kq N N)]) ⟨Hw N N,trivial⟩ (fun _ => by kernel_rfl) (by decide +kernel) (N4 N) (fun x => by kernel_rfl))
@[reducible] def s380 : SP := ⟨[.adr 0 [],.int .i64],[.var 397 (.agg [.arr (.int .i64) 16,.sl 1,.int .i64]),.row (.int .i64) 3]⟩
noncomputable def W6 (N : Nat) : List (Nat × (Pk → Tr Pk)) := []
theorem vK (N : Nat) : ah Tryz.prog (W6 N) := trivial
@[reducible] def Jr : LD := ⟨58,[5,6,1,0],[(.ret,[4]),(.exit 0,[5])],⟨[.int .i64,.int .i64,.int .i64,.adr 0 []],[.var 397 (.agg [.arr (.int .i64) 16,.sl 1,.int .i64]),.row (.int .i64) 3]⟩,[(.exit 0,⟨[.int .i64],[.var 397 (.agg [.arr (.int .i64) 16,.sl 1,.int .i64]),.row (.int .i64) 3]⟩)]⟩
abbrev AK : Type := Int × Int × Int × (List Int) × Int × (List Int)
abbrev zT : Type := Int × (List Int) × Int × (List Int)
noncomputable def K5 (N : Nat) (f : AK → Option zT) : AK → Option zT
  | (x0,x1,x2,x3,x4,x5) =>
  ac (decide (x1 > x2)) (
    ac (within x1 (16 : Nat)) (
      Option.bind (x3[Int.toNat x1]?) fun y0 =>
      Option.bind (f (IntKind.wrap IntKind.i64 (Int.tdiv (IntKind.wrap IntKind.i64 (IntKind.wrap IntKind.i64 (x0 + y0) + (1 : Int))) (2 : Int)),IntKind.wrap IntKind.i64 (x1 - (1 : Int)),x2,x3,x4,x5)) fun r => some r) (
      none )) (
    some ((x0,x3,x4,x5)))
noncomputable def qV (N : Nat) : Nat → AK → Option zT
  | 0,_ => none
  | k + 1,x => K5 N (qV N k) x
noncomputable def Kk (N : Nat) (k : Nat) : Cut := Jr.cut (qV N k)
theorem Hq (N : Nat) (k : Nat) : aj Tryz.prog false Tryz.f380 [0] 58 (Kk N k) :=
  Jr.loopT af al (vK N) Tryz.f380 [0] (cuts := []) trivial (by decide +kernel) (by kernel_rfl) (K5 N) (qV N) (fun _ => rfl) (fun _ _ => rfl) (fun f x => by kernel_rfl) k
@[reducible] def w380 : List SP := [⟨[.int .i64],[.var 397 (.agg [.arr (.int .i64) 16,.sl 1,.int .i64]),.row (.int .i64) 3]⟩]
noncomputable def ah0 (N : Nat) : (Int × (List Int) × Int × (List Int)) → Option (Int × (List Int) × Int × (List Int))
  | (x0,x1,x2,x3) =>
  Option.bind (qV N N ((0 : Int),x2,x0,x1,x2,x3)) fun y0 =>
  some ((y0.1,y0.2.1,y0.2.2.1,y0.2.2.2))
noncomputable def ax1 (N : Nat) : Pk → Tr Pk := ag s380 w380 (ah0 N)
theorem Tv (N : Nat) : au Tryz.prog (380) (ax1 N) :=
  (ae af al (vK N) Tryz.func380 s380 w380 [0] (cuts := [(58,Kk N N)]) ⟨Hq N N,trivial⟩ (fun _ => by kernel_rfl) (by decide +kernel) (ah0 N) (fun x => by kernel_rfl))
@[reducible] def s366a : SP := ⟨[.adr 0 [],.adr 1 []],[.var 397 (.agg [.arr (.int .i64) 16,.sl 2,.int .i64]),.var 345 (.agg [.str,.int .i64,.int .i64]),.row (.int .i64) 3]⟩
noncomputable def SA (N : Nat) : List (Nat × (Pk → Tr Pk)) := [(329,vz N),(330,zz N),(380,ax1 N)]
theorem rI (N : Nat) : ah Tryz.prog (SA N) := ⟨dJ N,eR N,Tv N,trivial⟩
@[reducible] def Di : LD := ⟨58,[8,0,7,1,9,6],[(.ret,[4,5]),(.exit 0,[])],⟨[.int .i64,.adr 0 [],.int .i64,.adr 1 [],.int .i64,.int .i64],[.var 397 (.agg [.arr (.int .i64) 16,.sl 2,.int .i64]),.var 345 (.agg [.str,.int .i64,.int .i64]),.row (.int .i64) 3]⟩,[(.ret,⟨[.int .i64,.int .i64],[.var 397 (.agg [.arr (.int .i64) 16,.sl 2,.int .i64]),.var 345 (.agg [.str,.int .i64,.int .i64]),.row (.int .i64) 3]⟩),(.exit 0,⟨[],[.var 397 (.agg [.arr (.int .i64) 16,.sl 2,.int .i64]),.var 345 (.agg [.str,.int .i64,.int .i64]),.row (.int .i64) 3]⟩)]⟩
abbrev t7 : Type := Int × Int × Int × Int × (List Int) × Int × ByteArray × Int × Int × (List Int)
abbrev tf : Type := ((Int × Int × (List Int) × Int × ByteArray × Int × Int × (List Int)) ⊕ ((List Int) × Int × ByteArray × Int × Int × (List Int)))
noncomputable def E8 (N : Nat) (f : t7 → Option tf) : t7 → Option tf
  | (x0,x1,x2,x3,x4,x5,x6,x7,x8,x9) =>
  ac (decide (x2 ≤ x5)) (
    Option.bind (jm N ((1 : Int),x6,x7,x8)) fun y0 =>
    Option.bind (mZ N (y0.2.1,y0.2.2.1,y0.2.2.2,())) fun y1 =>
    ac (y1 != (0 : Int)) (
      some (.inl (((0 : Int),y1,x4,x5,y0.2.1,y0.2.2.1,y0.2.2.2,x9)))) (
      ac (within x2 (16 : Nat)) (
        Option.bind (x4[Int.toNat x2]?) fun y2 =>
        ac (decide (IntKind.wrap IntKind.i64 (IntKind.wrap IntKind.i64 (↑(BitVec.toNat (BitVec.ofInt (64 : Nat) x3 ||| BitVec.ofInt (64 : Nat) y0.1)) : Int) - x1) < y2)) (
          ac (within (IntKind.wrap IntKind.i64 (x0 + IntKind.wrap IntKind.i64 (IntKind.wrap IntKind.i64 (↑(BitVec.toNat (BitVec.ofInt (64 : Nat) x3 ||| BitVec.ofInt (64 : Nat) y0.1)) : Int) - x1))) (List.length x9)) (
            Option.bind (x9[Int.toNat (IntKind.wrap IntKind.i64 (x0 + IntKind.wrap IntKind.i64 (IntKind.wrap IntKind.i64 (↑(BitVec.toNat (BitVec.ofInt (64 : Nat) x3 ||| BitVec.ofInt (64 : Nat) y0.1)) : Int) - x1)))]?) fun y3 =>
            some (.inl ((y3,(0 : Int),x4,x5,y0.2.1,y0.2.2.1,y0.2.2.2,x9)))) (
            none )) (
          ac (within x2 (16 : Nat)) (
            Option.bind (x4[Int.toNat x2]?) fun y4 =>
            ac (within x2 (16 : Nat)) (
              Option.bind (x4[Int.toNat x2]?) fun y5 =>
              Option.bind (ah0 N (x2,x4,x5,x9)) fun y6 =>
              ac (decide (IntKind.wrap IntKind.i64 (Int.fdiv (IntKind.wrap IntKind.i64 (IntKind.wrap IntKind.i64 (↑(BitVec.toNat (BitVec.ofInt (64 : Nat) x3 ||| BitVec.ofInt (64 : Nat) y0.1)) : Int) * (2 : Int))) (2 : Int) - Int.fdiv (IntKind.wrap IntKind.i64 (IntKind.wrap IntKind.i64 (x1 + y5) * (2 : Int))) (2 : Int)) ≥ y6.1)) (
                some (.inl (((0 : Int),(3 : Int),y6.2.1,y6.2.2.1,y0.2.1,y0.2.2.1,y0.2.2.2,y6.2.2.2)))) (
                Option.bind (f (IntKind.wrap IntKind.i64 (x0 + y4),IntKind.wrap IntKind.i64 (IntKind.wrap IntKind.i64 (x1 + y5) * (2 : Int)),IntKind.wrap IntKind.i64 (x2 + (1 : Int)),IntKind.wrap IntKind.i64 (IntKind.wrap IntKind.i64 (↑(BitVec.toNat (BitVec.ofInt (64 : Nat) x3 ||| BitVec.ofInt (64 : Nat) y0.1)) : Int) * (2 : Int)),y6.2.1,y6.2.2.1,y0.2.1,y0.2.2.1,y0.2.2.2,y6.2.2.2)) fun r => match r with | .inl y => some (.inl y) | .inr y => some (.inr y))) (
              none )) (
            none ))) (
        none ))) (
    some (.inr ((x4,x5,x6,x7,x8,x9))))
noncomputable def mR (N : Nat) : Nat → t7 → Option tf
  | 0,_ => none
  | k + 1,x => E8 N (mR N k) x
noncomputable def Ep (N : Nat) (k : Nat) : Cut := Di.cut (mR N k)
theorem Eo (N : Nat) (k : Nat) : aj Tryz.prog false Tryz.f366 [0,1] 58 (Ep N k) :=
  Di.loopT af al (rI N) Tryz.f366 [0,1] (cuts := []) trivial (by decide +kernel) (by kernel_rfl) (E8 N) (mR N) (fun _ => rfl) (fun _ _ => rfl) (fun f x => by kernel_rfl) k
@[reducible] def w366a : List SP := [⟨[.tup [.int .i64,.int .i64]],[.var 397 (.agg [.arr (.int .i64) 16,.sl 2,.int .i64]),.var 345 (.agg [.str,.int .i64,.int .i64]),.row (.int .i64) 3]⟩]
noncomputable def xy (N : Nat) : ((List Int) × Int × ByteArray × Int × Int × (List Int)) → Option (Int × Int × (List Int) × Int × ByteArray × Int × Int × (List Int))
  | (x0,x1,x2,x3,x4,x5) =>
  Option.bind (mR N N ((0 : Int),(0 : Int),(1 : Int),(0 : Int),x0,x1,x2,x3,x4,x5)) fun y0 =>
  match y0 with
  | .inl (y1_0,y1_1,y1_2,y1_3,y1_4,y1_5,y1_6,y1_7) =>
    some ((y1_0,y1_1,y1_2,y1_3,y1_4,y1_5,y1_6,y1_7))
  | .inr (y1_0,y1_1,y1_2,y1_3,y1_4,y1_5) =>
    some (((0 : Int),(3 : Int),y1_0,y1_1,y1_2,y1_3,y1_4,y1_5))
noncomputable def IT (N : Nat) : Pk → Tr Pk := ag s366a w366a (xy N)
theorem sR (N : Nat) : au Tryz.prog (366) (IT N) :=
  (ae af al (rI N) Tryz.func366 s366a w366a [0,1] (cuts := [(58,Ep N N)]) ⟨Eo N N,trivial⟩ (fun _ => by kernel_rfl) (by decide +kernel) (xy N) (fun x => by kernel_rfl))
@[reducible] def s367 : SP := ⟨[.adr 0 [],.int .i64,.ro (.int .i64)],[.var 345 (.agg [.str,.int .i64,.int .i64])]⟩
noncomputable def Xj (N : Nat) : List (Nat × (Pk → Tr Pk)) := [(329,vz N),(330,zz N)]
theorem LV (N : Nat) : ah Tryz.prog (Xj N) := ⟨dJ N,eR N,trivial⟩
@[reducible] def w367 : List SP := [⟨[.tup [.int .i64,.int .i64,.int .i64]],[.var 345 (.agg [.str,.int .i64,.int .i64])]⟩]
noncomputable def ah7 (N : Nat) : (Int × (List Int) × ByteArray × Int × Int) → Option (Int × Int × Int × ByteArray × Int × Int)
  | (x0,x1,x2,x3,x4) =>
  ac (x0 == (16 : Int)) (
    ac ((↑(List.length x1) : Int) == (0 : Int)) (
      some (((0 : Int),(0 : Int),(80 : Int),x2,x3,x4))) (
      ac (within (IntKind.wrap IntKind.i64 ((↑(List.length x1) : Int) - (1 : Int))) (List.length x1)) (
        Option.bind (x1[Int.toNat (IntKind.wrap IntKind.i64 ((↑(List.length x1) : Int) - (1 : Int)))]?) fun y0 =>
        Option.bind (jm N ((2 : Int),x2,x3,x4)) fun y1 =>
        Option.bind (mZ N (y1.2.1,y1.2.2.1,y1.2.2.2,())) fun y2 =>
        some ((y0,IntKind.wrap IntKind.i64 ((3 : Int) + y1.1),y2,y1.2.1,y1.2.2.1,y1.2.2.2))) (
        none ))) (
    ac (x0 == (17 : Int)) (
      Option.bind (jm N ((3 : Int),x2,x3,x4)) fun y3 =>
      Option.bind (mZ N (y3.2.1,y3.2.2.1,y3.2.2.2,())) fun y4 =>
      some (((0 : Int),IntKind.wrap IntKind.i64 ((3 : Int) + y3.1),y4,y3.2.1,y3.2.2.1,y3.2.2.2))) (
      ac (x0 == (18 : Int)) (
        Option.bind (jm N ((7 : Int),x2,x3,x4)) fun y5 =>
        Option.bind (mZ N (y5.2.1,y5.2.2.1,y5.2.2.2,())) fun y6 =>
        some (((0 : Int),IntKind.wrap IntKind.i64 ((11 : Int) + y5.1),y6,y5.2.1,y5.2.2.1,y5.2.2.2))) (
        Option.bind (mZ N (x2,x3,x4,())) fun y7 =>
        some ((x0,(1 : Int),y7,x2,x3,x4)))))
noncomputable def ax9 (N : Nat) : Pk → Tr Pk := ag s367 w367 (ah7 N)
theorem TF (N : Nat) : au Tryz.prog (367) (ax9 N) :=
  (ae af al (LV N) Tryz.func367 s367 w367 [0] (cuts := []) trivial (fun _ => by kernel_rfl) (by decide +kernel) (ah7 N) (fun x => by kernel_rfl))
@[reducible] def s347 : SP := ⟨[.adr 0 []],[.var 345 (.agg [.str,.int .i64,.int .i64])]⟩
noncomputable def XB (N : Nat) : List (Nat × (Pk → Tr Pk)) := [(329,vz N),(330,zz N),(365,ay0 N),(366,SN s366.I (TG N) (IT N)),(349,TO N),(367,ax9 N)]
theorem jN (N : Nat) : ah Tryz.prog (XB N) := ⟨dJ N,eR N,TH N,kW (zw N) (sR N),zy N,TF N,trivial⟩
@[reducible] def uD : LD := ⟨508,[9,5,6,0,10],[(.ret,[2,3,4]),(.exit 1,[10,5])],⟨[.nilp,.int .i64,.int .i64,.adr 0 [],.sl 1],[.var 345 (.agg [.str,.int .i64,.int .i64]),.row (.int .i64) 3]⟩,[(.exit 1,⟨[.sl 1,.int .i64],[.var 345 (.agg [.str,.int .i64,.int .i64]),.row (.int .i64) 3]⟩)]⟩
abbrev ue : Type := Int × Int × ByteArray × Int × Int × (List Int)
abbrev tp : Type := Int × ByteArray × Int × Int × (List Int)
noncomputable def Fe (N : Nat) (f : ue → Option tp) : ue → Option tp
  | (x0,x1,x2,x3,x4,x5) =>
  ac (decide ((↑(List.length x5) : Int) < IntKind.wrap IntKind.i64 (x0 + x1))) (
    Option.bind (N4 N (x2,x3,x4)) fun y0 =>
    none) (
    some ((x0,x2,x3,x4,x5)))
noncomputable def mW (N : Nat) : Nat → ue → Option tp
  | 0,_ => none
  | k + 1,x => Fe N (mW N k) x
noncomputable def nt (N : Nat) (k : Nat) : Cut := uD.cut (mW N k)
theorem jy (N : Nat) (k : Nat) : aj Tryz.prog false Tryz.f347 [0] 508 (nt N k) :=
  uD.loopT af al (jN N) Tryz.f347 [0] (cuts := []) trivial (by decide +kernel) (by kernel_rfl) (Fe N) (mW N) (fun _ => rfl) (fun _ _ => rfl) (fun f x => by kernel_rfl) k
@[reducible] def pX : LD := ⟨260286,[10,84,83,0,6,5,9,13],[(.ret,[2,3,4]),(.exit 4,[9,5,6,0,10]),(.exit 2,[9,5,6,0,10]),(.exit 1,[10,5])],⟨[.sl 1,.int .i64,.int .i64,.adr 0 [],.int .i64,.int .i64,.adr 2 [],.int .i64],[.var 345 (.agg [.str,.int .i64,.int .i64]),.row (.int .i64) 3,.var 397 (.agg [.arr (.int .i64) 16,.sl 3,.int .i64]),.row (.int .i64) 3]⟩,[(.exit 4,⟨[.adr 1 [],.int .i64,.int .i64,.adr 0 [],.sl 2],[.var 345 (.agg [.str,.int .i64,.int .i64]),.var 397 (.agg [.arr (.int .i64) 16,.sl 3,.int .i64]),.row (.int .i64) 3,.row (.int .i64) 3]⟩)]⟩
abbrev jb : Type := Int × Int × Int × Int × Int × ByteArray × Int × Int × (List Int) × (List Int) × Int × (List Int)
abbrev iW : Type := Int × Int × ByteArray × Int × Int × (List Int) × Int × (List Int) × (List Int)
noncomputable def ql (N : Nat) (f : jb → Option iW) : jb → Option iW
  | (x0,x1,x2,x3,x4,x5,x6,x7,x8,x9,x10,x11) =>
  ac (decide (x0 < x1)) (
    ac (decide ((List.length x8 + List.length [x4]) * (8 : Nat) ≤ (140737488355328 : Nat) ∧ List.length x8 + List.length [x4] ≤ (140737488355328 : Nat))) (
      Option.bind (f (IntKind.wrap IntKind.i64 (x0 + (1 : Int)),x1,x2,x3,x4,x5,x6,x7,x8 ++ [x4],x9,x10,x11)) fun r => some r) (
      none )) (
    some ((x3,x2,x5,x6,x7,x9,x10,x8,x11)))
noncomputable def eT (N : Nat) : Nat → jb → Option iW
  | 0,_ => none
  | k + 1,x => ql N (eT N k) x
noncomputable def jA (N : Nat) (k : Nat) : Cut := pX.cut (eT N k)
theorem jz (N : Nat) (k : Nat) : aj Tryz.prog false Tryz.f347 [0] 260286 (jA N k) :=
  pX.loopT af al (jN N) Tryz.f347 [0] (cuts := [(508,nt N N)]) ⟨jy N N,trivial⟩ (by decide +kernel) (by kernel_rfl) (ql N) (eT N) (fun _ => rfl) (fun _ _ => rfl) (fun f x => by kernel_rfl) k
@[reducible] def xo : LD := ⟨508,[9,5,6,0,10],[(.ret,[2,3,4]),(.exit 1,[10,5])],⟨[.adr 1 [],.int .i64,.int .i64,.adr 0 [],.sl 2],[.var 345 (.agg [.str,.int .i64,.int .i64]),.var 397 (.agg [.arr (.int .i64) 16,.sl 3,.int .i64]),.row (.int .i64) 3,.row (.int .i64) 3]⟩,[(.ret,⟨[.sl 1,.sl 2,.int .i64],[.var 345 (.agg [.str,.int .i64,.int .i64]),.row (.int .i64) 3,.row (.int .i64) 3]⟩),(.exit 1,⟨[.sl 1,.int .i64],[.var 345 (.agg [.str,.int .i64,.int .i64]),.row (.int .i64) 3]⟩)]⟩
abbrev o5 : Type := Int × Int × ByteArray × Int × Int × (List Int) × Int × (List Int) × (List Int)
abbrev oK : Type := ((Int × ByteArray × Int × Int × (List Int) × (List Int)) ⊕ (Int × ByteArray × Int × Int × (List Int)))
noncomputable def yh (N : Nat) (f : o5 → Option oK) : o5 → Option oK
  | (x0,x1,x2,x3,x4,x5,x6,x7,x8) =>
  ac (decide ((↑(List.length x7) : Int) < IntKind.wrap IntKind.i64 (x0 + x1))) (
    Option.bind (xy N (x5,x6,x2,x3,x4,x8)) fun (y0_0,y0_1,y0_2,y0_3,y0_4,y0_5,y0_6,y0_7) =>
    ac (y0_1 != (0 : Int)) (
      Option.bind (DR N y0_1) fun y1 =>
      some (.inl ((y1,y0_4,y0_5,y0_6,[],[])))) (
      Option.bind (ah7 N (y0_0,x7,y0_4,y0_5,y0_6)) fun (y2_0,y2_1,y2_2,y2_3,y2_4,y2_5) =>
      ac (y2_2 != (0 : Int)) (
        some (.inl ((y2_2,y2_3,y2_4,y2_5,[],[])))) (
        ac (decide (IntKind.wrap IntKind.i64 ((↑(List.length x7) : Int) + y2_1) > IntKind.wrap IntKind.i64 (x0 + x1))) (
          some (.inl (((80 : Int),y2_3,y2_4,y2_5,[],[])))) (
          Option.bind (eT N N ((0 : Int),y2_1,x1,x0,y2_0,y2_3,y2_4,y2_5,x7,y0_2,y0_3,y0_7)) fun (y3_0,y3_1,y3_2,y3_3,y3_4,y3_5,y3_6,y3_7,y3_8) =>
          Option.bind (f (y3_0,y3_1,y3_2,y3_3,y3_4,y3_5,y3_6,y3_7,y3_8)) fun r => match r with | .inl y => some (.inl y) | .inr y => some (.inr y))))) (
    some (.inr ((x0,x2,x3,x4,x7))))
noncomputable def ko (N : Nat) : Nat → o5 → Option oK
  | 0,_ => none
  | k + 1,x => yh N (ko N k) x
noncomputable def xW (N : Nat) (k : Nat) : Cut := xo.cut (ko N k)
theorem BG (N : Nat) (k : Nat) : aj Tryz.prog false Tryz.f347 [0] 508 (xW N k) :=
  xo.loopT af al (jN N) Tryz.f347 [0] (cuts := [(508,nt N N),(260286,jA N N)]) ⟨jy N N,jz N N,trivial⟩ (by decide +kernel) (by kernel_rfl) (yh N) (ko N) (fun _ => rfl) (fun _ _ => rfl) (fun f x => by kernel_rfl) k
@[reducible] def w347 : List SP := [⟨[.tup [.sl 1,.sl 2,.int .i64]],[.var 345 (.agg [.str,.int .i64,.int .i64]),.row (.int .i64) 3,.row (.int .i64) 3]⟩,⟨[.tup [.slp 1 (.c 0) .h,.slp 1 .h .h,.int .i64]],[.var 345 (.agg [.str,.int .i64,.int .i64]),.row (.int .i64) 3]⟩]
noncomputable def ai1 (N : Nat) : (ByteArray × Int × Int) → Option (((Int × ByteArray × Int × Int × (List Int) × (List Int)) ⊕ (Nat × Nat × Nat × Int × ByteArray × Int × Int × (List Int))))
  | (x0,x1,x2) =>
  Option.bind (jm N ((5 : Int),x0,x1,x2)) fun y0 =>
  Option.bind (jm N ((5 : Int),y0.2.1,y0.2.2.1,y0.2.2.2)) fun y1 =>
  Option.bind (jm N ((4 : Int),y1.2.1,y1.2.2.1,y1.2.2.2)) fun y2 =>
  Option.bind (mZ N (y2.2.1,y2.2.2.1,y2.2.2.2,())) fun y3 =>
  ac (y3 != (0 : Int)) (
    some (.inl ((y3,y2.2.1,y2.2.2.1,y2.2.2.2,[],[])))) (
    ac (decide (IntKind.wrap IntKind.i64 (y0.1 + (257 : Int)) > (286 : Int))) (
      some (.inl (((80 : Int),y2.2.1,y2.2.2.1,y2.2.2.2,[],[])))) (
      ac (decide (IntKind.wrap IntKind.i64 (y1.1 + (1 : Int)) > (30 : Int))) (
        some (.inl (((80 : Int),y2.2.1,y2.2.2.1,y2.2.2.2,[],[])))) (
        Option.bind (ah8 N (IntKind.wrap IntKind.i64 (y2.1 + (4 : Int)),y2.2.1,y2.2.2.1,y2.2.2.2)) fun y4 =>
        match y4 with
        | .inl y5 =>
          ac (y5.1 != (0 : Int)) (
            some (.inl ((y5.1,y5.2.1,y5.2.2.1,y5.2.2.2,[],[])))) (
            Option.bind (mW N N (IntKind.wrap IntKind.i64 (y0.1 + (257 : Int)),IntKind.wrap IntKind.i64 (y1.1 + (1 : Int)),y5.2.1,y5.2.2.1,y5.2.2.2,[])) fun y6 =>
            ac (decide ((0 : Int) ≤ y6.1 ∧ y6.1 ≤ y6.1 ∧ y6.1 ≤ (↑(List.length y6.2.2.2.2) : Int))) (
              ac (decide ((0 : Int) ≤ y6.1 ∧ y6.1 ≤ (↑(List.length y6.2.2.2.2) : Int))) (
                some (.inr ((Int.toNat y6.1,Int.toNat y6.1,List.length y6.2.2.2.2 - Int.toNat y6.1,(0 : Int),y6.2.1,y6.2.2.1,y6.2.2.2.1,y6.2.2.2.2)))) (
                none )) (
              none ))
        | .inr (y5_0,y5_1,y5_2,y5_3,y5_4,y5_5,y5_6) =>
          ac (y5_0 != (0 : Int)) (
            some (.inl ((y5_0,y5_1,y5_2,y5_3,[],[])))) (
            Option.bind (ko N N (IntKind.wrap IntKind.i64 (y0.1 + (257 : Int)),IntKind.wrap IntKind.i64 (y1.1 + (1 : Int)),y5_1,y5_2,y5_3,y5_4,y5_5,[],y5_6)) fun y7 =>
            match y7 with
            | .inl (y8_0,y8_1,y8_2,y8_3,y8_4,y8_5) =>
              some (.inl ((y8_0,y8_1,y8_2,y8_3,y8_4,y8_5)))
            | .inr y8 =>
              ac (decide ((0 : Int) ≤ y8.1 ∧ y8.1 ≤ y8.1 ∧ y8.1 ≤ (↑(List.length y8.2.2.2.2) : Int))) (
                ac (decide ((0 : Int) ≤ y8.1 ∧ y8.1 ≤ (↑(List.length y8.2.2.2.2) : Int))) (
                  some (.inr ((Int.toNat y8.1,Int.toNat y8.1,List.length y8.2.2.2.2 - Int.toNat y8.1,(0 : Int),y8.2.1,y8.2.2.1,y8.2.2.2.1,y8.2.2.2.2)))) (
                  none )) (
                none )))))
noncomputable def ay9 (N : Nat) : Pk → Tr Pk := ag s347 w347 (ai1 N)
theorem TQ (N : Nat) : au Tryz.prog (347) (ay9 N) :=
  (ae af al (jN N) Tryz.func347 s347 w347 [0] (cuts := [(508,BJ uD.s.I (nt N N) (xW N N)),(260286,jA N N)]) ⟨fun c' h => cb (jy N N c' h) (BG N N c' h) rfl rfl,jz N N,trivial⟩ (fun _ => by kernel_rfl) (by decide +kernel) (ai1 N) (fun x => by kernel_rfl))
@[reducible] def s381 : SP := ⟨[.adr 0 [],.int .i64,.fn 373],[.var 345 (.agg [.str,.int .i64,.int .i64])]⟩
noncomputable def W5 (N : Nat) : List (Nat × (Pk → Tr Pk)) := [(373,ac7 N),(329,vz N),(330,zz N)]
theorem LO (N : Nat) : ah Tryz.prog (W5 N) := ⟨IQ N,dJ N,eR N,trivial⟩
@[reducible] def w381 : List SP := [⟨[.tup [.int .i64,.int .i64]],[.var 345 (.agg [.str,.int .i64,.int .i64])]⟩]
noncomputable def VC (N : Nat) : (Int × ByteArray × Int × Int) → Option (Int × Int × ByteArray × Int × Int)
  | (x0,x1,x2,x3) =>
  Option.bind (VF N x0) fun y0 =>
  Option.bind (jm N (y0.2,x1,x2,x3)) fun y1 =>
  Option.bind (mZ N (y1.2.1,y1.2.2.1,y1.2.2.2,())) fun y2 =>
  some ((IntKind.wrap IntKind.i64 (y0.1 + y1.1),y2,y1.2.1,y1.2.2.1,y1.2.2.2))
noncomputable def ac4 (N : Nat) : Pk → Tr Pk := ag s381 w381 (VC N)
theorem IM (N : Nat) : au Tryz.prog (381) (ac4 N) :=
  (ae af al (LO N) Tryz.func381 s381 w381 [0] (cuts := []) trivial (fun _ => by kernel_rfl) (by decide +kernel) (VC N) (fun x => by kernel_rfl))
@[reducible] def s369 : SP := ⟨[.adr 0 [],.int .i64,.nilp],[.var 345 (.agg [.str,.int .i64,.int .i64])]⟩
noncomputable def Xh (N : Nat) : List (Nat × (Pk → Tr Pk)) := [(381,ac4 N),(366,TG N)]
theorem LU (N : Nat) : ah Tryz.prog (Xh N) := ⟨IM N,zw N,trivial⟩
@[reducible] def w369 : List SP := [⟨[.tup [.agg [.int .i64,.int .i64,.int .i64],.int .i64]],[.var 345 (.agg [.str,.int .i64,.int .i64])]⟩]
noncomputable def ah6 (N : Nat) : (Int × ByteArray × Int × Int) → Option (Int × Int × Int × Int × ByteArray × Int × Int)
  | (x0,x1,x2,x3) =>
  ac (decide (x0 > (285 : Int))) (
    some (((0 : Int),(0 : Int),(0 : Int),(3 : Int),x1,x2,x3))) (
    Option.bind (VC N (x0,x1,x2,x3)) fun y0 =>
    ac (y0.2.1 != (0 : Int)) (
      some (((0 : Int),(0 : Int),(0 : Int),y0.2.1,y0.2.2.1,y0.2.2.2.1,y0.2.2.2.2))) (
      Option.bind (N4 N (y0.2.2.1,y0.2.2.2.1,y0.2.2.2.2)) fun y1 =>
      none))
noncomputable def ax8 (N : Nat) : Pk → Tr Pk := ag s369 w369 (ah6 N)
theorem TE (N : Nat) : au Tryz.prog (369) (ax8 N) :=
  (ae af al (LU N) Tryz.func369 s369 w369 [0] (cuts := []) trivial (fun _ => by kernel_rfl) (by decide +kernel) (ah6 N) (fun x => by kernel_rfl))
@[reducible] def s381a : SP := ⟨[.adr 0 [],.int .i64,.fn 374],[.var 345 (.agg [.str,.int .i64,.int .i64])]⟩
noncomputable def Sx (N : Nat) : List (Nat × (Pk → Tr Pk)) := [(374,ac6 N),(329,vz N),(330,zz N)]
theorem FD (N : Nat) : ah Tryz.prog (Sx N) := ⟨IP N,dJ N,eR N,trivial⟩
@[reducible] def w381a : List SP := [⟨[.tup [.int .i64,.int .i64]],[.var 345 (.agg [.str,.int .i64,.int .i64])]⟩]
noncomputable def Q8 (N : Nat) : (Int × ByteArray × Int × Int) → Option (Int × Int × ByteArray × Int × Int)
  | (x0,x1,x2,x3) =>
  Option.bind (VE N x0) fun y0 =>
  Option.bind (jm N (y0.2,x1,x2,x3)) fun y1 =>
  Option.bind (mZ N (y1.2.1,y1.2.2.1,y1.2.2.2,())) fun y2 =>
  some ((IntKind.wrap IntKind.i64 (y0.1 + y1.1),y2,y1.2.1,y1.2.2.1,y1.2.2.2))
noncomputable def WA (N : Nat) : Pk → Tr Pk := ag s381a w381a (Q8 N)
theorem Qy (N : Nat) : au Tryz.prog (381) (WA N) :=
  (ae af al (FD N) Tryz.func381 s381a w381a [0] (cuts := []) trivial (fun _ => by kernel_rfl) (by decide +kernel) (Q8 N) (fun x => by kernel_rfl))
@[reducible] def s369a : SP := ⟨[.adr 0 [],.int .i64,.adr 1 []],[.var 345 (.agg [.str,.int .i64,.int .i64]),.var 397 (.agg [.arr (.int .i64) 16,.sl 2,.int .i64]),.row (.int .i64) 3]⟩
noncomputable def Sz (N : Nat) : List (Nat × (Pk → Tr Pk)) := [(381,SN s381.I (ac4 N) (WA N)),(366,IT N)]
theorem FE (N : Nat) : ah Tryz.prog (Sz N) := ⟨kW (IM N) (Qy N),sR N,trivial⟩
@[reducible] def w369a : List SP := [⟨[.tup [.agg [.int .i64,.int .i64,.int .i64],.int .i64]],[.var 345 (.agg [.str,.int .i64,.int .i64]),.var 397 (.agg [.arr (.int .i64) 16,.sl 2,.int .i64]),.row (.int .i64) 3]⟩]
noncomputable def Rb (N : Nat) : (Int × ByteArray × Int × Int × (List Int) × Int × (List Int)) → Option (Int × Int × Int × Int × ByteArray × Int × Int × (List Int) × Int × (List Int))
  | (x0,x1,x2,x3,x4,x5,x6) =>
  ac (decide (x0 > (285 : Int))) (
    some (((0 : Int),(0 : Int),(0 : Int),(3 : Int),x1,x2,x3,x4,x5,x6))) (
    Option.bind (VC N (x0,x1,x2,x3)) fun y0 =>
    ac (y0.2.1 != (0 : Int)) (
      some (((0 : Int),(0 : Int),(0 : Int),y0.2.1,y0.2.2.1,y0.2.2.2.1,y0.2.2.2.2,x4,x5,x6))) (
      Option.bind (xy N (x4,x5,y0.2.2.1,y0.2.2.2.1,y0.2.2.2.2,x6)) fun (y1_0,y1_1,y1_2,y1_3,y1_4,y1_5,y1_6,y1_7) =>
      ac (y1_1 != (0 : Int)) (
        some (((0 : Int),(0 : Int),(0 : Int),y1_1,y1_4,y1_5,y1_6,y1_2,y1_3,y1_7))) (
        ac (decide (y1_0 ≥ (30 : Int))) (
          some (((0 : Int),(0 : Int),(0 : Int),(3 : Int),y1_4,y1_5,y1_6,y1_2,y1_3,y1_7))) (
          Option.bind (Q8 N (y1_0,y1_4,y1_5,y1_6)) fun y2 =>
          some (((0 : Int),y0.1,y2.1,y2.2.1,y2.2.2.1,y2.2.2.2.1,y2.2.2.2.2,y1_2,y1_3,y1_7))))))
noncomputable def WC (N : Nat) : Pk → Tr Pk := ag s369a w369a (Rb N)
theorem QA (N : Nat) : au Tryz.prog (369) (WC N) :=
  (ae af al (FE N) Tryz.func369 s369a w369a [0,1] (cuts := []) trivial (fun _ => by kernel_rfl) (by decide +kernel) (Rb N) (fun x => by kernel_rfl))
@[reducible] def s348 : SP := ⟨[.adr 0 [],.ro (.int .i64),.ro (.int .i64),.int .i64],[.var 345 (.agg [.str,.int .i64,.int .i64])]⟩
noncomputable def XA (N : Nat) : List (Nat × (Pk → Tr Pk)) := [(368,ac9 N),(366,SN s366.I (TG N) (IT N)),(369,SN s369.I (ax8 N) (WC N))]
theorem fy (N : Nat) : ah Tryz.prog (XA N) := ⟨IS N,kW (zw N) (sR N),kW (TE N) (QA N),trivial⟩
@[reducible] def jg : LD := ⟨254,[14,10,0,12,3,15],[(.ret,[8,9]),(.exit 0,[8,9])],⟨[.sl 1,.nilp,.adr 0 [],.nilp,.int .i64,.int .i64],[.var 345 (.agg [.str,.int .i64,.int .i64]),.row y4 281]⟩,[]⟩
abbrev ud : Type := Int × Int × ByteArray × Int × Int × (List (Int × (Int × (Int × Unit))))
abbrev tn : Type := Unit
noncomputable def Fc (N : Nat) (f : ud → Option tn) : ud → Option tn
  | (x0,x1,x2,x3,x4,x5) =>
  Option.bind (N4 N (x2,x3,x4)) fun y0 =>
  none
noncomputable def mV (N : Nat) : Nat → ud → Option tn
  | 0,_ => none
  | k + 1,x => Fc N (mV N k) x
noncomputable def jx (N : Nat) (k : Nat) : Cut := jg.cut (mV N k)
theorem e9 (N : Nat) (k : Nat) : aj Tryz.prog false Tryz.f348 [0] 254 (jx N k) :=
  jg.loopT af al (fy N) Tryz.f348 [0] (cuts := []) trivial (by decide +kernel) (by kernel_rfl) (Fc N) (mV N) (fun _ => rfl) (fun _ _ => rfl) (fun f x => by kernel_rfl) k
@[reducible] def j7 : LD := ⟨254,[14,10,0,12,3,15],[(.ret,[8,9]),(.exit 0,[8,9])],⟨[.sl 1,.nilp,.adr 0 [],.adr 2 [],.int .i64,.int .i64],[.var 345 (.agg [.str,.int .i64,.int .i64]),.row y4 281,.var 397 (.agg [.arr (.int .i64) 16,.sl 3,.int .i64]),.row (.int .i64) 3]⟩,[]⟩
abbrev o4 : Type := Int × Int × ByteArray × Int × Int × (List (Int × (Int × (Int × Unit)))) × (List Int) × Int × (List Int)
abbrev oJ : Type := Unit
noncomputable def yg (N : Nat) (f : o4 → Option oJ) : o4 → Option oJ
  | (x0,x1,x2,x3,x4,x5,x6,x7,x8) =>
  Option.bind (N4 N (x2,x3,x4)) fun y0 =>
  none
noncomputable def km (N : Nat) : Nat → o4 → Option oJ
  | 0,_ => none
  | k + 1,x => yg N (km N k) x
noncomputable def ku (N : Nat) (k : Nat) : Cut := j7.cut (km N k)
theorem ic (N : Nat) (k : Nat) : aj Tryz.prog false Tryz.f348 [0] 254 (ku N k) :=
  j7.loopT af al (fy N) Tryz.f348 [0] (cuts := [(254,jx N N)]) ⟨e9 N N,trivial⟩ (by decide +kernel) (by kernel_rfl) (yg N) (km N) (fun _ => rfl) (fun _ _ => rfl) (fun f x => by kernel_rfl) k
@[reducible] def pa : LD := ⟨254,[14,10,0,12,3,15],[(.ret,[8,9]),(.exit 0,[8,9])],⟨[.sl 1,.adr 2 [],.adr 0 [],.nilp,.int .i64,.int .i64],[.var 345 (.agg [.str,.int .i64,.int .i64]),.row y4 281,.var 397 (.agg [.arr (.int .i64) 16,.sl 3,.int .i64]),.row (.int .i64) 3]⟩,[(.ret,⟨[.sl 1,.int .i64],[.var 345 (.agg [.str,.int .i64,.int .i64]),.row y4 281]⟩)]⟩
abbrev oZ : Type := Int × Int × ByteArray × Int × Int × (List (Int × (Int × (Int × Unit)))) × (List Int) × Int × (List Int)
abbrev oI : Type := Int × ByteArray × Int × Int × (List (Int × (Int × (Int × Unit))))
noncomputable def yf (N : Nat) (f : oZ → Option oI) : oZ → Option oI
  | (x0,x1,x2,x3,x4,x5,x6,x7,x8) =>
  Option.bind (xy N (x6,x7,x2,x3,x4,x8)) fun (y0_0,y0_1,y0_2,y0_3,y0_4,y0_5,y0_6,y0_7) =>
  ac (y0_1 != (0 : Int)) (
    some ((y0_1,y0_4,y0_5,y0_6,[]))) (
    ac (y0_0 == (256 : Int)) (
      some (((0 : Int),y0_4,y0_5,y0_6,x5))) (
      ac (decide (y0_0 > (256 : Int))) (
        Option.bind (ah6 N (y0_0,y0_4,y0_5,y0_6)) fun (y1_0,y1_1,y1_2,y1_3,y1_4,y1_5,y1_6) =>
        ac (y1_3 != (0 : Int)) (
          some ((y1_3,y1_4,y1_5,y1_6,[]))) (
          ac (decide (IntKind.wrap IntKind.i64 (x1 + if (1 : Int) > y1_1 then (1 : Int) else y1_1) > x0)) (
            some (((4 : Int),y1_4,y1_5,y1_6,[]))) (
            ac (decide ((List.length x5 + List.length [(y1_0,y1_1,y1_2,())]) * (24 : Nat) ≤ (140737488355328 : Nat) ∧ List.length x5 + List.length [(y1_0,y1_1,y1_2,())] ≤ (140737488355328 : Nat))) (
              Option.bind (f (x0,IntKind.wrap IntKind.i64 (x1 + if (1 : Int) > y1_1 then (1 : Int) else y1_1),y1_4,y1_5,y1_6,x5 ++ [(y1_0,y1_1,y1_2,())],y0_2,y0_3,y0_7)) fun r => some r) (
              none )))) (
        ac (decide (IntKind.wrap IntKind.i64 (x1 + (1 : Int)) > x0)) (
          some (((4 : Int),y0_4,y0_5,y0_6,[]))) (
          ac (decide ((List.length x5 + List.length [(y0_0,(0 : Int),(0 : Int),())]) * (24 : Nat) ≤ (140737488355328 : Nat) ∧ List.length x5 + List.length [(y0_0,(0 : Int),(0 : Int),())] ≤ (140737488355328 : Nat))) (
            Option.bind (f (x0,IntKind.wrap IntKind.i64 (x1 + (1 : Int)),y0_4,y0_5,y0_6,x5 ++ [(y0_0,(0 : Int),(0 : Int),())],y0_2,y0_3,y0_7)) fun r => some r) (
            none )))))
noncomputable def kl (N : Nat) : Nat → oZ → Option oI
  | 0,_ => none
  | k + 1,x => yf N (kl N k) x
noncomputable def pu (N : Nat) (k : Nat) : Cut := pa.cut (kl N k)
theorem nq (N : Nat) (k : Nat) : aj Tryz.prog false Tryz.f348 [0] 254 (pu N k) :=
  pa.loopT af al (fy N) Tryz.f348 [0] (cuts := [(254,BJ jg.s.I (jx N N) (ku N N))]) ⟨fun c' h => cb (e9 N N c' h) (ic N N c' h) rfl rfl,trivial⟩ (by decide +kernel) (by kernel_rfl) (yf N) (kl N) (fun _ => rfl) (fun _ _ => rfl) (fun f x => by kernel_rfl) k
@[reducible] def xn : LD := ⟨254,[14,10,0,12,3,15],[(.ret,[8,9]),(.exit 0,[8,9])],⟨[.sl 1,.adr 2 [],.adr 0 [],.adr 3 [],.int .i64,.int .i64],[.var 345 (.agg [.str,.int .i64,.int .i64]),.row y4 281,.var 397 (.agg [.arr (.int .i64) 16,.sl 4,.int .i64]),.var 397 (.agg [.arr (.int .i64) 16,.sl 5,.int .i64]),.row (.int .i64) 3,.row (.int .i64) 3]⟩,[(.ret,⟨[.sl 1,.int .i64],[.var 345 (.agg [.str,.int .i64,.int .i64]),.row y4 281]⟩)]⟩
abbrev oY : Type := Int × Int × ByteArray × Int × Int × (List (Int × (Int × (Int × Unit)))) × (List Int) × Int × (List Int) × Int × (List Int) × (List Int)
abbrev oH : Type := Int × ByteArray × Int × Int × (List (Int × (Int × (Int × Unit))))
noncomputable def ye (N : Nat) (f : oY → Option oH) : oY → Option oH
  | (x0,x1,x2,x3,x4,x5,x6,x7,x8,x9,x10,x11) =>
  Option.bind (xy N (x6,x7,x2,x3,x4,x10)) fun (y0_0,y0_1,y0_2,y0_3,y0_4,y0_5,y0_6,y0_7) =>
  ac (y0_1 != (0 : Int)) (
    some ((y0_1,y0_4,y0_5,y0_6,[]))) (
    ac (y0_0 == (256 : Int)) (
      some (((0 : Int),y0_4,y0_5,y0_6,x5))) (
      ac (decide (y0_0 > (256 : Int))) (
        Option.bind (Rb N (y0_0,y0_4,y0_5,y0_6,x8,x9,x11)) fun (y1_0,y1_1,y1_2,y1_3,y1_4,y1_5,y1_6,y1_7,y1_8,y1_9) =>
        ac (y1_3 != (0 : Int)) (
          some ((y1_3,y1_4,y1_5,y1_6,[]))) (
          ac (decide (IntKind.wrap IntKind.i64 (x1 + if (1 : Int) > y1_1 then (1 : Int) else y1_1) > x0)) (
            some (((4 : Int),y1_4,y1_5,y1_6,[]))) (
            ac (decide ((List.length x5 + List.length [(y1_0,y1_1,y1_2,())]) * (24 : Nat) ≤ (140737488355328 : Nat) ∧ List.length x5 + List.length [(y1_0,y1_1,y1_2,())] ≤ (140737488355328 : Nat))) (
              Option.bind (f (x0,IntKind.wrap IntKind.i64 (x1 + if (1 : Int) > y1_1 then (1 : Int) else y1_1),y1_4,y1_5,y1_6,x5 ++ [(y1_0,y1_1,y1_2,())],y0_2,y0_3,y1_7,y1_8,y0_7,y1_9)) fun r => some r) (
              none )))) (
        ac (decide (IntKind.wrap IntKind.i64 (x1 + (1 : Int)) > x0)) (
          some (((4 : Int),y0_4,y0_5,y0_6,[]))) (
          ac (decide ((List.length x5 + List.length [(y0_0,(0 : Int),(0 : Int),())]) * (24 : Nat) ≤ (140737488355328 : Nat) ∧ List.length x5 + List.length [(y0_0,(0 : Int),(0 : Int),())] ≤ (140737488355328 : Nat))) (
            Option.bind (f (x0,IntKind.wrap IntKind.i64 (x1 + (1 : Int)),y0_4,y0_5,y0_6,x5 ++ [(y0_0,(0 : Int),(0 : Int),())],y0_2,y0_3,x8,x9,y0_7,x11)) fun r => some r) (
            none )))))
noncomputable def kj (N : Nat) : Nat → oY → Option oH
  | 0,_ => none
  | k + 1,x => ye N (kj N k) x
noncomputable def xV (N : Nat) (k : Nat) : Cut := xn.cut (kj N k)
theorem BF (N : Nat) (k : Nat) : aj Tryz.prog false Tryz.f348 [0] 254 (xV N k) :=
  xn.loopT af al (fy N) Tryz.f348 [0] (cuts := [(254,BJ jg.s.I (jx N N) (BJ j7.s.I (ku N N) (pu N N)))]) ⟨fun c' h => cb (e9 N N c' h) (cb (ic N N c' h) (nq N N c' h) rfl rfl) rfl rfl,trivial⟩ (by decide +kernel) (by kernel_rfl) (ye N) (kj N) (fun _ => rfl) (fun _ _ => rfl) (fun f x => by kernel_rfl) k
@[reducible] def w348 : List SP := [⟨[.tup [.sl 1,.int .i64]],[.var 345 (.agg [.str,.int .i64,.int .i64]),.row y4 281]⟩]
noncomputable def Rj (N : Nat) : ((List Int) × (List Int) × Int × ByteArray × Int × Int) → Option (Int × ByteArray × Int × Int × (List (Int × (Int × (Int × Unit)))))
  | (x0,x1,x2,x3,x4,x5) =>
  Option.bind (N3 N x0) fun y0 =>
  match y0 with
  | .inl y1 =>
    Option.bind (N3 N x1) fun y2 =>
    match y2 with
    | .inl y3 =>
      ac (y1 != (0 : Int)) (
        some (((50 : Int),x3,x4,x5,[]))) (
        ac (y3 != (0 : Int)) (
          some (((50 : Int),x3,x4,x5,[]))) (
          Option.bind (mV N N (x2,(0 : Int),x3,x4,x5,[])) fun y4 =>
          none))
    | .inr y3 =>
      ac (y1 != (0 : Int)) (
        some (((50 : Int),x3,x4,x5,[]))) (
        ac (y3.1 != (0 : Int)) (
          some (((50 : Int),x3,x4,x5,[]))) (
          Option.bind (km N N (x2,(0 : Int),x3,x4,x5,[],y3.2.1,y3.2.2.1,y3.2.2.2)) fun y5 =>
          none))
  | .inr y1 =>
    Option.bind (N3 N x1) fun y6 =>
    match y6 with
    | .inl y7 =>
      ac (y1.1 != (0 : Int)) (
        some (((50 : Int),x3,x4,x5,[]))) (
        ac (y7 != (0 : Int)) (
          some (((50 : Int),x3,x4,x5,[]))) (
          Option.bind (kl N N (x2,(0 : Int),x3,x4,x5,[],y1.2.1,y1.2.2.1,y1.2.2.2)) fun y8 =>
          some ((y8.1,y8.2.1,y8.2.2.1,y8.2.2.2.1,y8.2.2.2.2))))
    | .inr y7 =>
      ac (y1.1 != (0 : Int)) (
        some (((50 : Int),x3,x4,x5,[]))) (
        ac (y7.1 != (0 : Int)) (
          some (((50 : Int),x3,x4,x5,[]))) (
          Option.bind (kj N N (x2,(0 : Int),x3,x4,x5,[],y1.2.1,y1.2.2.1,y7.2.1,y7.2.2.1,y1.2.2.2,y7.2.2.2)) fun y9 =>
          some ((y9.1,y9.2.1,y9.2.2.1,y9.2.2.2.1,y9.2.2.2.2))))
noncomputable def ay8 (N : Nat) : Pk → Tr Pk := ag s348 w348 (Rj N)
theorem TP (N : Nat) : au Tryz.prog (348) (ay8 N) :=
  (ae af al (fy N) Tryz.func348 s348 w348 [0] (cuts := [(254,BJ jg.s.I (jx N N) (BJ j7.s.I (ku N N) (BJ pa.s.I (pu N N) (xV N N))))]) ⟨fun c' h => cb (e9 N N c' h) (cb (ic N N c' h) (cb (nq N N c' h) (BF N N c' h) rfl rfl) rfl rfl) rfl rfl,trivial⟩ (fun _ => by kernel_rfl) (by decide +kernel) (Rj N) (fun x => by kernel_rfl))
@[reducible] def s350 : SP := ⟨[.str,.ro y4],[]⟩
noncomputable def Xy (N : Nat) : List (Nat × (Pk → Tr Pk)) := [(229,NX N),(335,QB N)]
theorem nI (N : Nat) : ah Tryz.prog (Xy N) := ⟨mD N,qL N,trivial⟩
@[reducible] def uC : LD := ⟨62670,[6,43,42,15,7,16,17,9],[(.ret,[4,5]),(.exit 3,[17,16,7,15,6]),(.exit 1,[17,16,7,15,6]),(.exit 0,[6,7])],⟨[.sl 0,.int .i64,.int .i64,.ro y4,.int .i64,.int .i64,.int .i64,.adr 1 []],[.row (.int .u8) 5,.var 281 (.agg [.int .i64,.int .i64,.int .i64])]⟩,[(.exit 3,⟨[.int .i64,.int .i64,.int .i64,.ro y4,.sl 0],[.row (.int .u8) 5]⟩)]⟩
abbrev lz : Type := Int × Int × (List (Int × (Int × (Int × Unit)))) × Int × Int × Int × (List Int) × Int × Int × Int
abbrev lm : Type := Int × Int × Int × (List (Int × (Int × (Int × Unit)))) × (List Int)
noncomputable def u5 (N : Nat) (f : lz → Option lm) : lz → Option lm
  | (x0,x1,x2,x3,x4,x5,x6,x7,x8,x9) =>
  ac (decide (x0 < x1)) (
    ac (within (IntKind.wrap IntKind.i64 ((↑(List.length x6) : Int) - x9)) (List.length x6)) (
      Option.bind (x6[Int.toNat (IntKind.wrap IntKind.i64 ((↑(List.length x6) : Int) - x9))]?) fun y0 =>
      ac (decide ((List.length x6 + List.length [y0]) * (1 : Nat) ≤ (140737488355328 : Nat) ∧ List.length x6 + List.length [y0] ≤ (140737488355328 : Nat))) (
        Option.bind (f (IntKind.wrap IntKind.i64 (x0 + (1 : Int)),x1,x2,x3,x4,x5,x6 ++ [y0],x7,x8,x9)) fun r => some r) (
        none )) (
      none )) (
    some ((x5,x4,x3,x2,x6)))
noncomputable def ey (N : Nat) : Nat → lz → Option lm
  | 0,_ => none
  | k + 1,x => u5 N (ey N k) x
noncomputable def lJ (N : Nat) (k : Nat) : Cut := uC.cut (ey N k)
theorem kM (N : Nat) (k : Nat) : aj Tryz.prog false Tryz.f350 [] 62670 (lJ N k) :=
  uC.loopT af al (nI N) Tryz.f350 [] (cuts := []) trivial (by decide +kernel) (by kernel_rfl) (u5 N) (ey N) (fun _ => rfl) (fun _ _ => rfl) (fun f x => by kernel_rfl) k
@[reducible] def Dl : LD := ⟨122,[17,16,7,15,6],[(.ret,[4,5]),(.exit 0,[6,7])],⟨[.int .i64,.int .i64,.int .i64,.ro y4,.sl 0],[.row (.int .u8) 5]⟩,[(.ret,⟨[.str,.int .i64],[]⟩),(.exit 0,⟨[.sl 0,.int .i64],[.row (.int .u8) 5]⟩)]⟩
abbrev ub : Type := Int × Int × Int × (List (Int × (Int × (Int × Unit)))) × (List Int)
abbrev tj : Type := ((ByteArray × Int) ⊕ (Int × (List Int)))
noncomputable def Fb (N : Nat) (f : ub → Option tj) : ub → Option tj
  | (x0,x1,x2,x3,x4) =>
  ac (decide (x0 < x1)) (
    ac (within x0 (List.length x3)) (
      Option.bind (x3[Int.toNat x0]?) fun y0 =>
      Option.bind (N6 N (y0.1,y0.2.1,y0.2.2.1)) fun y1 =>
      ac (!y1) (
        some (.inl ((ByteArray.mk #[],(1 : Int))))) (
        ac (y0.2.1 == (0 : Int)) (
          ac (decide ((List.length x4 + List.length [IntKind.wrap IntKind.u8 y0.1]) * (1 : Nat) ≤ (140737488355328 : Nat) ∧ List.length x4 + List.length [IntKind.wrap IntKind.u8 y0.1] ≤ (140737488355328 : Nat))) (
            Option.bind (ey N N ((0 : Int),y0.2.1,x3,x2,x1,x0,x4 ++ [IntKind.wrap IntKind.u8 y0.1],y0.1,y0.2.1,y0.2.2.1)) fun y2 =>
            Option.bind (f (IntKind.wrap IntKind.i64 (y2.1 + (1 : Int)),y2.2.1,y2.2.2.1,y2.2.2.2.1,y2.2.2.2.2)) fun r => match r with | .inl y => some (.inl y) | .inr y => some (.inr y)) (
            none )) (
          ac (decide (y0.2.2.1 > (↑(List.length x4) : Int))) (
            some (.inl ((ByteArray.mk #[],(60 : Int))))) (
            Option.bind (ey N N ((0 : Int),y0.2.1,x3,x2,x1,x0,x4,y0.1,y0.2.1,y0.2.2.1)) fun y3 =>
            Option.bind (f (IntKind.wrap IntKind.i64 (y3.1 + (1 : Int)),y3.2.1,y3.2.2.1,y3.2.2.2.1,y3.2.2.2.2)) fun r => match r with | .inl y => some (.inl y) | .inr y => some (.inr y))))) (
      none )) (
    some (.inr ((x2,x4))))
noncomputable def mU (N : Nat) : Nat → ub → Option tj
  | 0,_ => none
  | k + 1,x => Fb N (mU N k) x
noncomputable def Eu (N : Nat) (k : Nat) : Cut := Dl.cut (mU N k)
theorem Et (N : Nat) (k : Nat) : aj Tryz.prog false Tryz.f350 [] 122 (Eu N k) :=
  Dl.loopT af al (nI N) Tryz.f350 [] (cuts := [(62670,lJ N N)]) ⟨kM N N,trivial⟩ (by decide +kernel) (by kernel_rfl) (Fb N) (mU N) (fun _ => rfl) (fun _ _ => rfl) (fun f x => by kernel_rfl) k
@[reducible] def w350 : List SP := [⟨[.tup [.str,.int .i64]],[]⟩]
noncomputable def Ri (N : Nat) : (ByteArray × (List (Int × (Int × (Int × Unit))))) → Option (ByteArray × Int)
  | (x0,x1) =>
  Option.bind (G7 N x0) fun y0 =>
  ac (decide (ByteArray.size y0 ≤ (140737488355328 : Nat))) (
    Option.bind (mU N N ((0 : Int),(↑(List.length x1) : Int),(↑(List.length (bytesOf y0)) : Int),x1,bytesOf y0)) fun y1 =>
    match y1 with
    | .inl y2 =>
      some ((y2.1,y2.2))
    | .inr y2 =>
      ac (decide ((0 : Int) ≤ y2.1 ∧ y2.1 ≤ (↑(List.length y2.2) : Int))) (
        some ((aB (List.take (List.length y2.2 - Int.toNat y2.1) (List.drop (Int.toNat y2.1) y2.2)),(0 : Int)))) (
        none )) (
    none )
noncomputable def ay6 (N : Nat) : Pk → Tr Pk := ag s350 w350 (Ri N)
theorem TN (N : Nat) : au Tryz.prog (350) (ay6 N) :=
  (ae af al (nI N) Tryz.func350 s350 w350 [] (cuts := [(62670,lJ N N),(122,Eu N N)]) ⟨kM N N,Et N N,trivial⟩ (fun _ => by kernel_rfl) (by decide +kernel) (Ri N) (fun x => by kernel_rfl))
@[reducible] def s332 : SP := ⟨[.adr 0 [],.int .i64,.str,.int .i64],[.var 345 (.agg [.str,.int .i64,.int .i64])]⟩
noncomputable def XN (N : Nat) : List (Nat × (Pk → Tr Pk)) := [(336,ae1 N),(347,ay9 N),(348,ay8 N),(349,TO N),(350,ay6 N)]
theorem Mj (N : Nat) : ah Tryz.prog (XN N) := ⟨I3 N,TQ N,TP N,zy N,TN N,trivial⟩
@[reducible] def w332 : List SP := [⟨[.tup [.str,.int .i64]],[.var 345 (.agg [.str,.int .i64,.int .i64])]⟩]
noncomputable def VS (N : Nat) : (Int × ByteArray × Int × ByteArray × Int × Int) → Option (ByteArray × Int × ByteArray × Int × Int)
  | (x0,x1,x2,x3,x4,x5) =>
  Option.bind (VR N ()) fun y0 =>
  ac (x0 == (2 : Int)) (
    Option.bind (ai1 N (x3,x4,x5)) fun y1 =>
    match y1 with
    | .inl (y2_0,y2_1,y2_2,y2_3,y2_4,y2_5) =>
      ac (y2_0 != (0 : Int)) (
        some ((ByteArray.mk #[],y2_0,y2_1,y2_2,y2_3))) (
        Option.bind (Rj N (y2_4,y2_5,x2,y2_1,y2_2,y2_3)) fun y3 =>
        ac (y3.1 != (0 : Int)) (
          Option.bind (DR N y3.1) fun y4 =>
          some ((ByteArray.mk #[],y4,y3.2.1,y3.2.2.1,y3.2.2.2.1))) (
          Option.bind (Ri N (x1,y3.2.2.2.2)) fun y5 =>
          some ((y5.1,y5.2,y3.2.1,y3.2.2.1,y3.2.2.2.1))))
    | .inr (y2_0,y2_1,y2_2,y2_3,y2_4,y2_5,y2_6,y2_7) =>
      ac (y2_3 != (0 : Int)) (
        some ((ByteArray.mk #[],y2_3,y2_4,y2_5,y2_6))) (
        Option.bind (Rj N (List.take y2_0 y2_7,List.take y2_2 (List.drop y2_1 y2_7),x2,y2_4,y2_5,y2_6)) fun y6 =>
        ac (y6.1 != (0 : Int)) (
          Option.bind (DR N y6.1) fun y7 =>
          some ((ByteArray.mk #[],y7,y6.2.1,y6.2.2.1,y6.2.2.2.1))) (
          Option.bind (Ri N (x1,y6.2.2.2.2)) fun y8 =>
          some ((y8.1,y8.2,y6.2.1,y6.2.2.1,y6.2.2.2.1))))) (
    Option.bind (Rj N (y0.1,y0.2,x2,x3,x4,x5)) fun y9 =>
    ac (y9.1 != (0 : Int)) (
      Option.bind (DR N y9.1) fun y10 =>
      some ((ByteArray.mk #[],y10,y9.2.1,y9.2.2.1,y9.2.2.2.1))) (
      Option.bind (Ri N (x1,y9.2.2.2.2)) fun y11 =>
      some ((y11.1,y11.2,y9.2.1,y9.2.2.1,y9.2.2.2.1))))
noncomputable def az7 (N : Nat) : Pk → Tr Pk := ag s332 w332 (VS N)
theorem TZ (N : Nat) : au Tryz.prog (332) (az7 N) :=
  (ae af al (Mj N) Tryz.func332 s332 w332 [0] (cuts := []) trivial (fun _ => by kernel_rfl) (by decide +kernel) (VS N) (fun x => by kernel_rfl))
@[reducible] def s306 : SP := ⟨[.adr 0 [],.str,.int .i64],[.var 345 (.agg [.str,.int .i64,.int .i64])]⟩
noncomputable def X2 (N : Nat) : List (Nat × (Pk → Tr Pk)) := [(329,vz N),(330,zz N),(331,az8 N),(332,az7 N)]
theorem Mt (N : Nat) : ah Tryz.prog (X2 N) := ⟨dJ N,eR N,Ua N,TZ N,trivial⟩
@[reducible] def w306 : List SP := [⟨[.tup [.str,.bool,.int .i64,.int .i64]],[.var 345 (.agg [.str,.int .i64,.int .i64])]⟩]
noncomputable def aj3 (N : Nat) : (ByteArray × Int × ByteArray × Int × Int) → Option (ByteArray × Bool × Int × Int × ByteArray × Int × Int)
  | (x0,x1,x2,x3,x4) =>
  Option.bind (jm N ((1 : Int),x2,x3,x4)) fun y0 =>
  Option.bind (jm N ((2 : Int),y0.2.1,y0.2.2.1,y0.2.2.2)) fun y1 =>
  Option.bind (mZ N (y1.2.1,y1.2.2.1,y1.2.2.2,())) fun y2 =>
  ac (y2 != (0 : Int)) (
    some ((ByteArray.mk #[],false,(0 : Int),y2,y1.2.1,y1.2.2.1,y1.2.2.2))) (
    ac (y1.1 == (0 : Int)) (
      Option.bind (ai6 N (x1,y1.2.1,y1.2.2.1,y1.2.2.2)) fun y3 =>
      ac (y3.2.1 != (0 : Int)) (
        some ((ByteArray.mk #[],false,(0 : Int),y3.2.1,y3.2.2.1,y3.2.2.2.1,y3.2.2.2.2))) (
        some ((y3.1,y0.1 == (1 : Int),y1.1,(0 : Int),y3.2.2.1,y3.2.2.2.1,y3.2.2.2.2)))) (
      ac (y1.1 == (1 : Int)) (
        Option.bind (VS N (y1.1,x0,x1,y1.2.1,y1.2.2.1,y1.2.2.2)) fun y4 =>
        ac (y4.2.1 != (0 : Int)) (
          some ((ByteArray.mk #[],false,(0 : Int),y4.2.1,y4.2.2.1,y4.2.2.2.1,y4.2.2.2.2))) (
          some ((y4.1,y0.1 == (1 : Int),y1.1,(0 : Int),y4.2.2.1,y4.2.2.2.1,y4.2.2.2.2)))) (
        ac (y1.1 == (2 : Int)) (
          Option.bind (VS N (y1.1,x0,x1,y1.2.1,y1.2.2.1,y1.2.2.2)) fun y5 =>
          ac (y5.2.1 != (0 : Int)) (
            some ((ByteArray.mk #[],false,(0 : Int),y5.2.1,y5.2.2.1,y5.2.2.2.1,y5.2.2.2.2))) (
            some ((y5.1,y0.1 == (1 : Int),y1.1,(0 : Int),y5.2.2.1,y5.2.2.2.1,y5.2.2.2.2)))) (
          some ((ByteArray.mk #[],false,(0 : Int),(80 : Int),y1.2.1,y1.2.2.1,y1.2.2.2))))))
noncomputable def aA6 (N : Nat) : Pk → Tr Pk := ag s306 w306 (aj3 N)
theorem Uj (N : Nat) : au Tryz.prog (306) (aA6 N) :=
  (ae af al (Mt N) Tryz.func306 s306 w306 [0] (cuts := []) trivial (fun _ => by kernel_rfl) (by decide +kernel) (aj3 N) (fun x => by kernel_rfl))
@[reducible] def s263 : SP := ⟨[.str,.str,.int .i64],[]⟩
noncomputable def Yk (N : Nat) : List (Nat × (Pk → Tr Pk)) := [(283,aB2 N),(305,Uk N),(229,NX N),(306,aA6 N)]
theorem wj (N : Nat) : ah Tryz.prog (Yk N) := ⟨Uq N,zB N,mD N,Uj N,trivial⟩
@[reducible] def Du : LD := ⟨124,[10,9,8,0,2],[(.ret,[6,7]),(.exit 0,[10,9])],⟨[.bool,.str,.adr 0 [],.str,.int .i64],[.var 345 (.agg [.str,.int .i64,.int .i64])]⟩,[(.ret,⟨[.str,.int .i64],[]⟩),(.exit 0,⟨[.bool,.str],[]⟩)]⟩
abbrev ul : Type := Bool × ByteArray × ByteArray × Int × ByteArray × Int × Int
abbrev tx : Type := ((ByteArray × Int) ⊕ (Bool × ByteArray))
noncomputable def Fj (N : Nat) (f : ul → Option tx) : ul → Option tx
  | (x0,x1,x2,x3,x4,x5,x6) =>
  Option.bind (N8 N (x4,x5,x6,())) fun y0 =>
  ac (decide (y0 > (0 : Int))) (
    ac (decide ((↑(ByteArray.size x2 + ByteArray.size x1) : Int) > (9223372036854775807 : Int))) (
      none ) (
      Option.bind (G7 N (x2 ++ x1)) fun y1 =>
      Option.bind (aj3 N (y1,IntKind.wrap IntKind.i64 (x3 - (↑(ByteArray.size x1) : Int)),x4,x5,x6)) fun (y2_0,y2_1,y2_2,y2_3,y2_4,y2_5,y2_6) =>
      ac (y2_3 != (0 : Int)) (
        some (.inl ((ByteArray.mk #[],y2_3)))) (
        ac (y2_1) (
          some (.inl ((ByteArray.mk #[],(81 : Int))))) (
          ac (decide ((↑(ByteArray.size x1 + ByteArray.size y2_0) : Int) > (9223372036854775807 : Int))) (
            none ) (
            ac (y2_2 == (0 : Int)) (
              Option.bind (f (ByteArray.toList y2_0 == [],x1 ++ y2_0,x2,x3,y2_4,y2_5,y2_6)) fun r => match r with | .inl y => some (.inl y) | .inr y => some (.inr y)) (
              Option.bind (f (false,x1 ++ y2_0,x2,x3,y2_4,y2_5,y2_6)) fun r => match r with | .inl y => some (.inl y) | .inr y => some (.inr y))))))) (
    some (.inr ((x0,x1))))
noncomputable def nc (N : Nat) : Nat → ul → Option tx
  | 0,_ => none
  | k + 1,x => Fj N (nc N k) x
noncomputable def EJ (N : Nat) (k : Nat) : Cut := Du.cut (nc N k)
theorem EI (N : Nat) (k : Nat) : aj Tryz.prog false Tryz.f263 [] 124 (EJ N k) :=
  Du.loopT af al (wj N) Tryz.f263 [] (cuts := []) trivial (by decide +kernel) (by kernel_rfl) (Fj N) (nc N) (fun _ => rfl) (fun _ _ => rfl) (fun f x => by kernel_rfl) k
@[reducible] def w263 : List SP := [⟨[.tup [.str,.int .i64]],[]⟩]
noncomputable def V2 (N : Nat) : (ByteArray × ByteArray × Int) → Option (ByteArray × Int)
  | (x0,x1,x2) =>
  Option.bind (aj6 N x1) fun y0 =>
  Option.bind (nc N N (false,ByteArray.mk #[],x0,x2,y0.1,y0.2.1,y0.2.2)) fun y1 =>
  match y1 with
  | .inl y2 =>
    some ((y2.1,y2.2))
  | .inr y2 =>
    ac (!y2.1) (
      some ((ByteArray.mk #[],(81 : Int)))) (
      some ((y2.2,(0 : Int))))
noncomputable def aC0 (N : Nat) : Pk → Tr Pk := ag s263 w263 (V2 N)
theorem Uy (N : Nat) : au Tryz.prog (263) (aC0 N) :=
  (ae af al (wj N) Tryz.func263 s263 w263 [] (cuts := [(124,EJ N N)]) ⟨EI N N,trivial⟩ (fun _ => by kernel_rfl) (by decide +kernel) (V2 N) (fun x => by kernel_rfl))
@[reducible] def s207 : SP := ⟨[.adr 0 [],.str,.int .i64],[.var 119 (.agg [.agg [.bool,.str],.int .i64])]⟩
noncomputable def YK (N : Nat) : List (Nat × (Pk → Tr Pk)) := [(246,aC3 N),(263,aC0 N)]
theorem MW (N : Nat) : ah Tryz.prog (YK N) := ⟨UB N,Uy N,trivial⟩
@[reducible] def w207 : List SP := [⟨[.tup [.str,.int .i64]],[.var 119 (.agg [.agg [.bool,.str],.int .i64])]⟩]
noncomputable def ak6 (N : Nat) : (ByteArray × Int × Bool × ByteArray × Int) → Option (ByteArray × Int × Bool × ByteArray × Int)
  | (x0,x1,x2,x3,x4) =>
  ac (!x2) (
    Option.bind (ak2 N x0) fun y0 =>
    ac (y0 != (0 : Int)) (
      some ((ByteArray.mk #[],y0,x2,x3,x4))) (
      ac (decide ((0 : Int) ≤ (2 : Int) ∧ (2 : Int) ≤ (↑(ByteArray.size x0) : Int))) (
        Option.bind (V2 N (x3,ByteArray.extract x0 (2 : Nat) (ByteArray.size x0),x1)) fun y1 =>
        some ((y1.1,y1.2,x2,x3,x4))) (
        none ))) (
    Option.bind (V2 N (x3,x0,x1)) fun y2 =>
    some ((y2.1,y2.2,x2,x3,x4)))
noncomputable def aD7 (N : Nat) : Pk → Tr Pk := ag s207 w207 (ak6 N)
theorem US (N : Nat) : au Tryz.prog (207) (aD7 N) :=
  (ae af al (MW N) Tryz.func207 s207 w207 [0] (cuts := []) trivial (fun _ => by kernel_rfl) (by decide +kernel) (ak6 N) (fun x => by kernel_rfl))
@[reducible] def s163a : SP := ⟨[.adr 0 [.f 0 0],.str],[.var 119 (.agg [.agg [.bool,.str],.int .i64])]⟩
noncomputable def SC (N : Nat) : List (Nat × (Pk → Tr Pk)) := [(229,NX N)]
theorem FG (N : Nat) : ah Tryz.prog (SC N) := ⟨mD N,trivial⟩
@[reducible] def w163a : List SP := [⟨[.tup []],[.var 119 (.agg [.agg [.bool,.str],.int .i64])]⟩]
noncomputable def RE (N : Nat) : (ByteArray × Bool × ByteArray × Int) → Option (Bool × ByteArray × Int)
  | (x0,x1,x2,x3) =>
  ac (decide ((↑(ByteArray.size x2 + ByteArray.size x0) : Int) > (9223372036854775807 : Int))) (
    none ) (
    Option.bind (G7 N (x2 ++ x0)) fun y0 =>
    some ((true,y0,x3)))
noncomputable def WF (N : Nat) : Pk → Tr Pk := ag s163a w163a (RE N)
theorem QF (N : Nat) : au Tryz.prog (163) (WF N) :=
  (ae af al (FG N) Tryz.func163 s163a w163a [0] (cuts := []) trivial (fun _ => by kernel_rfl) (by decide +kernel) (RE N) (fun x => by kernel_rfl))
@[reducible] def s136 : SP := ⟨[.adr 0 [],.str,.int .i64],[.var 119 (.agg [.agg [.bool,.str],.int .i64])]⟩
noncomputable def Zj (N : Nat) : List (Nat × (Pk → Tr Pk)) := [(207,aD7 N),(163,WF N)]
theorem Ni (N : Nat) : ah Tryz.prog (Zj N) := ⟨US N,QF N,trivial⟩
@[reducible] def w136 : List SP := [⟨[.tup [.str,.int .i64]],[.var 119 (.agg [.agg [.bool,.str],.int .i64])]⟩]
noncomputable def al6 (N : Nat) : (ByteArray × Int × Bool × ByteArray × Int) → Option (ByteArray × Int × Bool × ByteArray × Int)
  | (x0,x1,x2,x3,x4) =>
  ac (x4 != (0 : Int)) (
    some ((ByteArray.mk #[],x4,x2,x3,x4))) (
    Option.bind (ak6 N (x0,x1,x2,x3,x4)) fun y0 =>
    Option.bind (RE N (y0.1,y0.2.2.1,y0.2.2.2.1,y0.2.1)) fun y1 =>
    some ((y0.1,y0.2.1,y1.1,y1.2.1,y1.2.2)))
noncomputable def aG0 (N : Nat) : Pk → Tr Pk := ag s136 w136 (al6 N)
theorem Vm (N : Nat) : au Tryz.prog (136) (aG0 N) :=
  (ae af al (Ni N) Tryz.func136 s136 w136 [0] (cuts := []) trivial (fun _ => by kernel_rfl) (by decide +kernel) (al6 N) (fun x => by kernel_rfl))
@[reducible] def s106 : SP := ⟨[.radr y2 [.i 0 3]],[]⟩
noncomputable def Zp (N : Nat) : List (Nat × (Pk → Tr Pk)) := []
theorem Nn (N : Nat) : ah Tryz.prog (Zp N) := trivial
@[reducible] def w106 : List SP := [⟨[.int .i64],[]⟩]
noncomputable def al8 (N : Nat) : ((ByteArray × (Int × (Int × Unit)))) → Option (Int)
  | x0 =>
  some x0.2.1
noncomputable def aG4 (N : Nat) : Pk → Tr Pk := ag s106 w106 (al8 N)
theorem Vq (N : Nat) : au Tryz.prog (106) (aG4 N) :=
  (ae af al (Nn N) Tryz.func106 s106 w106 [] (cuts := []) trivial (fun _ => by kernel_rfl) (by decide +kernel) (al8 N) (fun x => by kernel_rfl))
@[reducible] def s79 : SP := ⟨[.adr 0 [],.agg [.int .i64,.int .i64,.bool,.bool,.int .i64,.int .i64,.int .i64,.int .i64,.int .i64,.int .i64],.int .i64,.int .i64,.str],[.var 119 (.agg [.agg [.bool,.str],.int .i64])]⟩
noncomputable def ap4 (N : Nat) : List (Nat × (Pk → Tr Pk)) := [(35,T35 N),(32,T32 N),(81,T81 N),(105,NZ N),(135,QH N),(84,T84 N),(136,aG0 N),(29,T29 N),(106,aG4 N)]
theorem O0 (N : Nat) : ah Tryz.prog (ap4 N) := ⟨zx N,QC N,Gw N,mF N,qN N,ox N,Vm N,Gx N,Vq N,trivial⟩
@[reducible] def w79 : List SP := [⟨[.tup [.sl 1,.int .i64,.int .i64]],[.var 119 (.agg [.agg [.bool,.str],.int .i64]),.row (.int .i64) 3]⟩]
noncomputable def F79 (N : Nat) : (Int × Int × Bool × Bool × Int × Int × Int × Int × Int × Int × Int × Int × ByteArray × Bool × ByteArray × Int) → Option (Int × Int × Bool × ByteArray × Int × (List Int))
  | (x0,x1,x2,x3,x4,x5,x6,x7,x8,x9,x10,x11,x12,x13,x14,x15) =>
  Option.bind (WM N (x0,x1,x2,x3,x4,x5,x6,x7,x8,x9,x10,x11)) fun y0 =>
  ac (!y0) (
    some (((0 : Int),(1 : Int),x13,x14,x15,[]))) (
    Option.bind (F32 N (x0,x1,x2,x3,x4,x5,x6,x7,x8,x9,x10,x11)) fun y1 =>
    Option.bind (F81 N x12) fun y2 =>
    Option.bind (uP N ((4 : Int),y2.1,y2.2.1,y2.2.2)) fun y3 =>
    ac (decide (y3.1 > IntKind.wrap IntKind.i64 (y1 + (1000 : Int)))) (
      some (((0 : Int),(4 : Int),x13,x14,x15,[]))) (
      Option.bind (lG N (y3.1,y3.2.1,y3.2.2.1,y3.2.2.2)) fun y4 =>
      Option.bind (Sr N (y4.2.1,y4.2.2.1,y4.2.2.2,())) fun y5 =>
      ac (y5 != (0 : Int)) (
        some (((0 : Int),y5,x13,x14,x15,[]))) (
        Option.bind (al6 N (y4.1,y1,x13,x14,x15)) fun y6 =>
        ac (y6.2.1 != (0 : Int)) (
          some (((0 : Int),y6.2.1,y6.2.2.1,y6.2.2.2.1,y6.2.2.2.2,[]))) (
          Option.bind (Oy N (x0,x1,x2,x3,x4,x5,x6,x7,x8,x9,x10,x11,y6.1)) fun y7 =>
          ac (y7.1 != (0 : Int)) (
            some (((0 : Int),y7.1,y6.2.2.1,y6.2.2.2.1,y6.2.2.2.2,[]))) (
            Option.bind (al8 N (y4.2.1,y4.2.2.1,y4.2.2.2,())) fun y8 =>
            some ((y8,(0 : Int),y6.2.2.1,y6.2.2.2.1,y6.2.2.2.2,y7.2)))))))
noncomputable def T79 (N : Nat) : Pk → Tr Pk := ag s79 w79 (F79 N)
theorem ab6 (N : Nat) : au Tryz.prog (79) (T79 N) :=
  (ae af al (O0 N) Tryz.func79 s79 w79 [0] (cuts := []) trivial (fun _ => by kernel_rfl) (by decide +kernel) (F79 N) (fun x => by kernel_rfl))
@[reducible] def s26 : SP := ⟨[],[]⟩
noncomputable def ar2 (N : Nat) : List (Nat × (Pk → Tr Pk)) := [(78,T78 N),(29,T29 N),(31,T31 N),(40,T40 N),(79,T79 N)]
theorem Pb (N : Nat) : ah Tryz.prog (ar2 N) := ⟨ab7 N,Gx N,QD N,ac0 N,ab6 N,trivial⟩
@[reducible] def w26 : List SP := [⟨[.bool],[]⟩]
noncomputable def F26 (N : Nat) : (Unit) → Option (Bool)
  | () =>
  Option.bind (WL N ()) fun (y0_0,y0_1,y0_2,y0_3,y0_4,y0_5,y0_6,y0_7,y0_8,y0_9) =>
  Option.bind (Oy N (y0_0,y0_1,y0_2,y0_3,y0_4,y0_5,y0_6,y0_7,y0_8,y0_9,(3 : Int),(1 : Int),ByteArray.mk #[(2 : UInt8),(0 : UInt8),(255 : UInt8),(64 : UInt8)])) fun y1 =>
  Option.bind (Rn N (y1.2,[(0 : Int),(16777215 : Int),(0 : Int)])) fun y2 =>
  Option.bind (WL N ()) fun (y3_0,y3_1,y3_2,y3_3,y3_4,y3_5,y3_6,y3_7,y3_8,y3_9) =>
  Option.bind (F40 N (y3_0,y3_1,y3_2,y3_3,y3_4,y3_5,y3_6,y3_7,y3_8,y3_9,(2 : Int),(1 : Int),false,ByteArray.mk #[],[(0 : Int),(16711680 : Int)])) fun y4 =>
  Option.bind (WL N ()) fun (y5_0,y5_1,y5_2,y5_3,y5_4,y5_5,y5_6,y5_7,y5_8,y5_9) =>
  Option.bind (F40 N (y5_0,y5_1,y5_2,y5_3,y5_4,y5_5,y5_6,y5_7,y5_8,y5_9,(1 : Int),(1 : Int),y4.2.2.1,y4.2.2.2,[(16711680 : Int)])) fun y6 =>
  Option.bind (WL N ()) fun (y7_0,y7_1,y7_2,y7_3,y7_4,y7_5,y7_6,y7_7,y7_8,y7_9) =>
  ac (decide ((↑(ByteArray.size y4.1 + ByteArray.size y6.1) : Int) > (9223372036854775807 : Int))) (
    none ) (
    Option.bind (F79 N (y7_0,y7_1,y7_2,y7_3,y7_4,y7_5,y7_6,y7_7,y7_8,y7_9,(2 : Int),(1 : Int),y4.1 ++ y6.1,false,ByteArray.mk #[],(0 : Int))) fun (y8_0,y8_1,y8_2,y8_3,y8_4,y8_5) =>
    Option.bind (Rn N (y8_5,[(0 : Int),(16711680 : Int)])) fun y9 =>
    ac (y8_0 != (↑(ByteArray.size y4.1) : Int)) (
      some (false)) (
      Option.bind (WL N ()) fun (y10_0,y10_1,y10_2,y10_3,y10_4,y10_5,y10_6,y10_7,y10_8,y10_9) =>
      Option.bind (F79 N (y10_0,y10_1,y10_2,y10_3,y10_4,y10_5,y10_6,y10_7,y10_8,y10_9,(1 : Int),(1 : Int),y6.1,y8_2,y8_3,y8_4)) fun (y11_0,y11_1,y11_2,y11_3,y11_4,y11_5) =>
      Option.bind (Rn N (y11_5,[(16711680 : Int)])) fun y12 =>
      ac (y1.1 == (0 : Int)) (
        ac (y2) (
          ac (y4.2.1 == (0 : Int)) (
            ac (y6.2.1 == (0 : Int)) (
              ac (y9) (
                ac (y8_1 == (0 : Int)) (
                  ac (y12) (
                    ac (y11_0 == (↑(ByteArray.size y6.1) : Int)) (
                      some (y11_1 == (0 : Int))) (
                      some (false))) (
                    some (false))) (
                  some (false))) (
                some (false))) (
              some (false))) (
            some (false))) (
          some (false))) (
        some (false))))
noncomputable def T26 (N : Nat) : Pk → Tr Pk := ag s26 w26 (F26 N)
theorem ae8 (N : Nat) : au Tryz.prog (26) (T26 N) :=
  (ae af al (Pb N) Tryz.func26 s26 w26 [] (cuts := []) trivial (fun _ => by kernel_rfl) (by decide +kernel) (F26 N) (fun x => by kernel_rfl))
@[reducible] def s208 : SP := ⟨[.int .i64],[]⟩
noncomputable def YJ (N : Nat) : List (Nat × (Pk → Tr Pk)) := []
theorem wu (N : Nat) : ah Tryz.prog (YJ N) := trivial
@[reducible] def JV : LD := ⟨58,[3,0,4],[(.ret,[2]),(.exit 0,[])],⟨[.int .i64,.int .i64,.int .i64],[]⟩,[(.ret,⟨[.int .i64],[]⟩),(.exit 0,⟨[],[]⟩)]⟩
abbrev A9 : Type := Int × Int × Int
abbrev Au : Type := ((Int) ⊕ (Unit))
noncomputable def kC (N : Nat) (f : A9 → Option Au) : A9 → Option Au
  | (x0,x1,x2) =>
  ac (decide (x2 ≤ (16 : Int))) (
    ac (x1 == IntKind.wrap IntKind.i64 (IntKind.wrap IntKind.i64 (x0 * (2 : Int)) - (1 : Int))) (
      some (.inl (x2))) (
      Option.bind (f (IntKind.wrap IntKind.i64 (x0 * (2 : Int)),x1,IntKind.wrap IntKind.i64 (x2 + (1 : Int)))) fun r => match r with | .inl y => some (.inl y) | .inr y => some (.inr y))) (
    some (.inr (())))
noncomputable def eY (N : Nat) : Nat → A9 → Option Au
  | 0,_ => none
  | k + 1,x => kC N (eY N k) x
noncomputable def KM (N : Nat) (k : Nat) : Cut := JV.cut (eY N k)
theorem HS (N : Nat) (k : Nat) : aj Tryz.prog false Tryz.f208 [] 58 (KM N k) :=
  JV.loopT af al (wu N) Tryz.f208 [] (cuts := []) trivial (by decide +kernel) (by kernel_rfl) (kC N) (eY N) (fun _ => rfl) (fun _ _ => rfl) (fun f x => by kernel_rfl) k
@[reducible] def w208 : List SP := [⟨[.int .i64],[]⟩]
noncomputable def RA (N : Nat) : (Int) → Option (Int)
  | x0 =>
  Option.bind (eY N N ((1 : Int),x0,(1 : Int))) fun y0 =>
  match y0 with
  | .inl y1 =>
    some (y1)
  | .inr y1 =>
    some ((0 : Int))
noncomputable def aD6 (N : Nat) : Pk → Tr Pk := ag s208 w208 (RA N)
theorem UR (N : Nat) : au Tryz.prog (208) (aD6 N) :=
  (ae af al (wu N) Tryz.func208 s208 w208 [] (cuts := [(58,KM N N)]) ⟨HS N N,trivial⟩ (fun _ => by kernel_rfl) (by decide +kernel) (RA N) (fun x => by kernel_rfl))
@[reducible] def s137 : SP := ⟨[.int .i64,.int .i64,.int .i64],[]⟩
noncomputable def Zi (N : Nat) : List (Nat × (Pk → Tr Pk)) := [(208,aD6 N)]
theorem Nh (N : Nat) : ah Tryz.prog (Zi N) := ⟨UR N,trivial⟩
@[reducible] def w137 : List SP := [⟨[.bool],[]⟩]
noncomputable def Hh (N : Nat) : (Int × Int × Int) → Option (Bool)
  | (x0,x1,x2) =>
  Option.bind (RA N x1) fun y0 =>
  ac (decide (y0 > (0 : Int))) (
    ac (decide (x2 ≥ (0 : Int))) (
      ac (decide (x2 ≤ (32 : Int))) (
        some (decide (IntKind.wrap IntKind.i64 (x2 + y0) ≤ x0))) (
        some (false))) (
      some (false))) (
    some (false))
noncomputable def aF9 (N : Nat) : Pk → Tr Pk := ag s137 w137 (Hh N)
theorem Vl (N : Nat) : au Tryz.prog (137) (aF9 N) :=
  (ae af al (Nh N) Tryz.func137 s137 w137 [] (cuts := []) trivial (fun _ => by kernel_rfl) (by decide +kernel) (Hh N) (fun x => by kernel_rfl))
@[reducible] def s138 : SP := ⟨[.int .i64,.int .i64],[]⟩
noncomputable def Zh (N : Nat) : List (Nat × (Pk → Tr Pk)) := []
theorem Ng (N : Nat) : ah Tryz.prog (Zh N) := trivial
@[reducible] def w138 : List SP := [⟨[.int .i64],[]⟩]
noncomputable def vE (N : Nat) : (Int × Int) → Option (Int)
  | (x0,x1) =>
  ac (decide (x1 < (0 : Int))) (
    none ) (
    some (IntKind.wrap IntKind.i64 (x0 * (2 : Int) ^ min (Int.toNat x1) (64 : Nat))))
noncomputable def af7 (N : Nat) : Pk → Tr Pk := ag s138 w138 (vE N)
theorem Jg (N : Nat) : au Tryz.prog (138) (af7 N) :=
  (ae af al (Ng N) Tryz.func138 s138 w138 [] (cuts := []) trivial (fun _ => by kernel_rfl) (by decide +kernel) (vE N) (fun x => by kernel_rfl))
@[reducible] def s80 : SP := ⟨[.agg [.int .i64,.int .i64,.bool,.bool,.int .i64,.int .i64,.int .i64,.int .i64,.int .i64,.int .i64]],[]⟩
noncomputable def ap3 (N : Nat) : List (Nat × (Pk → Tr Pk)) := [(137,aF9 N),(138,af7 N)]
theorem rE (N : Nat) : ah Tryz.prog (ap3 N) := ⟨Vl N,Jg N,trivial⟩
@[reducible] def QP : LD := ⟨15,[1],[(.ret,[2]),(.normal,[2])],⟨[.adr 0 []],[.var 43 (.agg [.int .i64,.int .i64,.bool,.bool,.int .i64,.int .i64,.int .i64,.int .i64,.int .i64,.int .i64])]⟩,[(.ret,⟨[.bool],[]⟩)]⟩
noncomputable def Bl (N : Nat) : (Int × Int × Bool × Bool × Int × Int × Int × Int × Int × Int) → Option (Bool)
  | (x0,x1,x2,x3,x4,x5,x6,x7,x8,x9) =>
  Option.bind (vE N (x4,x7)) fun y0 =>
  Option.bind (vE N (x5,x8)) fun y1 =>
  Option.bind (vE N (x6,x9)) fun y2 =>
  ac (IntKind.wrap IntKind.i64 (↑(BitVec.toNat (BitVec.ofInt (64 : Nat) y0 &&& BitVec.ofInt (64 : Nat) y1)) : Int) == (0 : Int)) (
    ac (IntKind.wrap IntKind.i64 (↑(BitVec.toNat (BitVec.ofInt (64 : Nat) y0 &&& BitVec.ofInt (64 : Nat) y2)) : Int) == (0 : Int)) (
      some (IntKind.wrap IntKind.i64 (↑(BitVec.toNat (BitVec.ofInt (64 : Nat) y1 &&& BitVec.ofInt (64 : Nat) y2)) : Int) == (0 : Int))) (
      some (false))) (
    some (false))
noncomputable def Hl (N : Nat) (_ : Nat) : Cut := QP.cut (Bl N)
theorem xT (N : Nat) (k : Nat) : aj Tryz.prog false Tryz.f80 [] 15 (Hl N k) :=
  QP.pieceT af al (rE N) Tryz.f80 [] (cuts := []) trivial (by decide +kernel) (by kernel_rfl) (Bl N) (fun x => by kernel_rfl)
@[reducible] def WH : LD := ⟨7,[1],[(.ret,[2]),(.normal,[2])],⟨[.adr 0 []],[.var 43 (.agg [.int .i64,.int .i64,.bool,.bool,.int .i64,.int .i64,.int .i64,.int .i64,.int .i64,.int .i64])]⟩,[(.ret,⟨[.bool],[]⟩)]⟩
noncomputable def uK (N : Nat) : (Int × Int × Bool × Bool × Int × Int × Int × Int × Int × Int) → Option (Bool)
  | (x0,x1,x2,x3,x4,x5,x6,x7,x8,x9) =>
  Option.bind (Hh N (x0,x4,x7)) fun y0 =>
  ac (!y0) (
    some (false)) (
    Option.bind (Hh N (x0,x5,x8)) fun y1 =>
    ac (!y1) (
      some (false)) (
      Option.bind (Hh N (x0,x6,x9)) fun y2 =>
      ac (!y2) (
        some (false)) (
        Option.bind (Bl N (x0,x1,x2,x3,x4,x5,x6,x7,x8,x9)) fun y3 =>
        some (y3))))
noncomputable def WN (N : Nat) (_ : Nat) : Cut := WH.cut (uK N)
theorem RV (N : Nat) (k : Nat) : aj Tryz.prog false Tryz.f80 [] 7 (WN N k) :=
  WH.pieceT af al (rE N) Tryz.f80 [] (cuts := [(15,Hl N N)]) ⟨xT N N,trivial⟩ (by decide +kernel) (by kernel_rfl) (uK N) (fun x => by kernel_rfl)
@[reducible] def w80 : List SP := [⟨[.bool],[]⟩]
noncomputable def F80 (N : Nat) : (Int × Int × Bool × Bool × Int × Int × Int × Int × Int × Int) → Option (Bool)
  | (x0,x1,x2,x3,x4,x5,x6,x7,x8,x9) =>
  ac (x0 != (8 : Int)) (
    ac (x0 != (16 : Int)) (
      ac (x0 != (32 : Int)) (
        some (false)) (
        ac (decide (x1 < (1 : Int))) (
          some (false)) (
          ac (decide (x1 > x0)) (
            some (false)) (
            ac (!x3) (
              some (false)) (
              Option.bind (uK N (x0,x1,x2,x3,x4,x5,x6,x7,x8,x9)) fun y0 =>
              some (y0)))))) (
      ac (decide (x1 < (1 : Int))) (
        some (false)) (
        ac (decide (x1 > x0)) (
          some (false)) (
          ac (!x3) (
            some (false)) (
            Option.bind (uK N (x0,x1,x2,x3,x4,x5,x6,x7,x8,x9)) fun y1 =>
            some (y1)))))) (
    ac (decide (x1 < (1 : Int))) (
      some (false)) (
      ac (decide (x1 > x0)) (
        some (false)) (
        ac (!x3) (
          some (false)) (
          Option.bind (uK N (x0,x1,x2,x3,x4,x5,x6,x7,x8,x9)) fun y2 =>
          some (y2)))))
noncomputable def T80 (N : Nat) : Pk → Tr Pk := ag s80 w80 (F80 N)
theorem ab5 (N : Nat) : au Tryz.prog (80) (T80 N) :=
  (ae af al (rE N) Tryz.func80 s80 w80 [] (cuts := [(15,Hl N N),(7,WN N N)]) ⟨xT N N,RV N N,trivial⟩ (fun _ => by kernel_rfl) (by decide +kernel) (F80 N) (fun x => by kernel_rfl))
@[reducible] def s27 : SP := ⟨[.agg [.int .i64,.int .i64,.bool,.bool,.int .i64,.int .i64,.int .i64,.int .i64,.int .i64,.int .i64],.int .i64,.int .i64],[]⟩
noncomputable def ar1 (N : Nat) : List (Nat × (Pk → Tr Pk)) := [(80,T80 N)]
theorem O9 (N : Nat) : ah Tryz.prog (ar1 N) := ⟨ab5 N,trivial⟩
@[reducible] def w27 : List SP := [⟨[.bool],[]⟩]
noncomputable def F27 (N : Nat) : (Int × Int × Bool × Bool × Int × Int × Int × Int × Int × Int × Int × Int) → Option (Bool)
  | (x0,x1,x2,x3,x4,x5,x6,x7,x8,x9,x10,x11) =>
  Option.bind (F80 N (x0,x1,x2,x3,x4,x5,x6,x7,x8,x9)) fun y0 =>
  ac (y0) (
    ac (decide (x10 ≥ (0 : Int))) (
      ac (decide (x10 ≤ (4096 : Int))) (
        ac (decide (x11 ≥ (0 : Int))) (
          some (decide (x11 ≤ (4096 : Int)))) (
          some (false))) (
        some (false))) (
      some (false))) (
    some (false))
noncomputable def T27 (N : Nat) : Pk → Tr Pk := ag s27 w27 (F27 N)
theorem Gy (N : Nat) : au Tryz.prog (27) (T27 N) :=
  (ae af al (O9 N) Tryz.func27 s27 w27 [] (cuts := []) trivial (fun _ => by kernel_rfl) (by decide +kernel) (F27 N) (fun x => by kernel_rfl))
@[reducible] def s28 : SP := ⟨[.int .i64,.int .i64],[]⟩
noncomputable def ar0 (N : Nat) : List (Nat × (Pk → Tr Pk)) := []
theorem O8 (N : Nat) : ah Tryz.prog (ar0 N) := trivial
@[reducible] def w28 : List SP := [⟨[.bool],[]⟩]
noncomputable def F28 (N : Nat) : (Int × Int) → Option (Bool)
  | (x0,x1) =>
  ac (decide (x0 ≥ (0 : Int))) (
    ac (decide (x1 ≥ (0 : Int))) (
      ac (decide (x0 ≤ (5000 : Int))) (
        ac (decide (x1 ≤ (5000 : Int))) (
          some (decide (IntKind.wrap IntKind.i64 (x0 * x1) ≤ (5000 : Int)))) (
          some (false))) (
        some (false))) (
      some (false))) (
    some (false))
noncomputable def T28 (N : Nat) : Pk → Tr Pk := ag s28 w28 (F28 N)
theorem ae5 (N : Nat) : au Tryz.prog (28) (T28 N) :=
  (ae af al (O8 N) Tryz.func28 s28 w28 [] (cuts := []) trivial (fun _ => by kernel_rfl) (by decide +kernel) (F28 N) (fun x => by kernel_rfl))
@[reducible] def s87 : SP := ⟨[.agg [.int .i64,.int .i64,.bool,.bool,.int .i64,.int .i64,.int .i64,.int .i64,.int .i64,.int .i64]],[]⟩
noncomputable def ao6 (N : Nat) : List (Nat × (Pk → Tr Pk)) := [(138,af7 N)]
theorem BV (N : Nat) : ah Tryz.prog (ao6 N) := ⟨Jg N,trivial⟩
@[reducible] def QO : LD := ⟨15,[4,1],[(.ret,[2,3]),(.normal,[2,3])],⟨[.int .i64,.adr 0 []],[.var 43 (.agg [.int .i64,.int .i64,.bool,.bool,.int .i64,.int .i64,.int .i64,.int .i64,.int .i64,.int .i64])]⟩,[(.ret,⟨[.int .i64,.int .i64],[]⟩)]⟩
noncomputable def pb (N : Nat) : (Int × Int × Int × Bool × Bool × Int × Int × Int × Int × Int × Int) → Option (Int × Int)
  | (x0,x1,x2,x3,x4,x5,x6,x7,x8,x9,x10) =>
  ac (x1 == (32 : Int)) (
    ac (decide (x2 ≤ (24 : Int))) (
      ac (IntKind.wrap IntKind.i64 (↑(BitVec.toNat (BitVec.ofInt (64 : Nat) x0 &&& BitVec.ofInt (64 : Nat) (255 : Int))) : Int) == (0 : Int)) (
        some (((3 : Int),(8 : Int)))) (
        some ((IntKind.wrap IntKind.i64 (Int.tdiv x1 (8 : Int)),(0 : Int))))) (
      some ((IntKind.wrap IntKind.i64 (Int.tdiv x1 (8 : Int)),(0 : Int))))) (
    some ((IntKind.wrap IntKind.i64 (Int.tdiv x1 (8 : Int)),(0 : Int))))
noncomputable def RU (N : Nat) (_ : Nat) : Cut := QO.cut (pb N)
theorem Ol (N : Nat) (k : Nat) : aj Tryz.prog false Tryz.f87 [] 15 (RU N k) :=
  QO.pieceT af al (BV N) Tryz.f87 [] (cuts := []) trivial (by decide +kernel) (by kernel_rfl) (pb N) (fun x => by kernel_rfl)
@[reducible] def w87 : List SP := [⟨[.tup [.int .i64,.int .i64]],[]⟩]
noncomputable def N0 (N : Nat) : (Int × Int × Bool × Bool × Int × Int × Int × Int × Int × Int) → Option (Int × Int)
  | (x0,x1,x2,x3,x4,x5,x6,x7,x8,x9) =>
  Option.bind (vE N (x4,x7)) fun y0 =>
  Option.bind (vE N (x5,x8)) fun y1 =>
  Option.bind (vE N (x6,x9)) fun y2 =>
  ac (x0 == (32 : Int)) (
    ac (decide (x1 ≤ (24 : Int))) (
      ac (decide (IntKind.wrap IntKind.i64 (↑(BitVec.toNat (BitVec.ofInt (64 : Nat) (IntKind.wrap IntKind.i64 (↑(BitVec.toNat (BitVec.ofInt (64 : Nat) y0 ||| BitVec.ofInt (64 : Nat) y1)) : Int)) ||| BitVec.ofInt (64 : Nat) y2)) : Int) < (16777216 : Int))) (
        some (((3 : Int),(0 : Int)))) (
        Option.bind (pb N (IntKind.wrap IntKind.i64 (↑(BitVec.toNat (BitVec.ofInt (64 : Nat) (IntKind.wrap IntKind.i64 (↑(BitVec.toNat (BitVec.ofInt (64 : Nat) y0 ||| BitVec.ofInt (64 : Nat) y1)) : Int)) ||| BitVec.ofInt (64 : Nat) y2)) : Int),x0,x1,x2,x3,x4,x5,x6,x7,x8,x9)) fun y3 =>
        some ((y3.1,y3.2)))) (
      Option.bind (pb N (IntKind.wrap IntKind.i64 (↑(BitVec.toNat (BitVec.ofInt (64 : Nat) (IntKind.wrap IntKind.i64 (↑(BitVec.toNat (BitVec.ofInt (64 : Nat) y0 ||| BitVec.ofInt (64 : Nat) y1)) : Int)) ||| BitVec.ofInt (64 : Nat) y2)) : Int),x0,x1,x2,x3,x4,x5,x6,x7,x8,x9)) fun y4 =>
      some ((y4.1,y4.2)))) (
    Option.bind (pb N (IntKind.wrap IntKind.i64 (↑(BitVec.toNat (BitVec.ofInt (64 : Nat) (IntKind.wrap IntKind.i64 (↑(BitVec.toNat (BitVec.ofInt (64 : Nat) y0 ||| BitVec.ofInt (64 : Nat) y1)) : Int)) ||| BitVec.ofInt (64 : Nat) y2)) : Int),x0,x1,x2,x3,x4,x5,x6,x7,x8,x9)) fun y5 =>
    some ((y5.1,y5.2)))
noncomputable def T87 (N : Nat) : Pk → Tr Pk := ag s87 w87 (N0 N)
theorem Gt (N : Nat) : au Tryz.prog (87) (T87 N) :=
  (ae af al (BV N) Tryz.func87 s87 w87 [] (cuts := [(15,RU N N)]) ⟨Ol N N,trivial⟩ (fun _ => by kernel_rfl) (by decide +kernel) (N0 N) (fun x => by kernel_rfl))
@[reducible] def s38 : SP := ⟨[.int .i64,.int .i64,.int .i64],[]⟩
noncomputable def aq1 (N : Nat) : List (Nat × (Pk → Tr Pk)) := []
theorem rG (N : Nat) : ah Tryz.prog (aq1 N) := trivial
@[reducible] def Db : LD := ⟨7826,[7,9,0,1,8,2],[(.ret,[6]),(.exit 2,[8,7,0,1,2]),(.exit 1,[8,7,0,1,2]),(.exit 0,[7])],⟨[.sl 0,.int .i64,.int .i64,.int .i64,.int .i64,.int .i64],[.row y1 126]⟩,[(.exit 2,⟨[.int .i64,.sl 0,.int .i64,.int .i64,.int .i64],[.row y1 126]⟩)]⟩
abbrev tT : Type := Int × Int × Int × Int × Int × (List (Int × (Int × (Int × (Int × Unit)))))
abbrev sX : Type := Int × Int × Int × Int × (List (Int × (Int × (Int × (Int × Unit)))))
noncomputable def eG (N : Nat) (f : tT → Option sX) : tT → Option sX
  | (x0,x1,x2,x3,x4,x5) =>
  ac (decide (x0 < x1)) (
    ac (decide ((List.length x5 + List.length [(x0,x3,if IntKind.wrap IntKind.i64 (x1 - x0) < x4 then IntKind.wrap IntKind.i64 (x1 - x0) else x4,if IntKind.wrap IntKind.i64 (x2 - x3) < x4 then IntKind.wrap IntKind.i64 (x2 - x3) else x4,())]) * (32 : Nat) ≤ (140737488355328 : Nat) ∧ List.length x5 + List.length [(x0,x3,if IntKind.wrap IntKind.i64 (x1 - x0) < x4 then IntKind.wrap IntKind.i64 (x1 - x0) else x4,if IntKind.wrap IntKind.i64 (x2 - x3) < x4 then IntKind.wrap IntKind.i64 (x2 - x3) else x4,())] ≤ (140737488355328 : Nat))) (
      Option.bind (f (IntKind.wrap IntKind.i64 (x0 + if (4096 : Int) < x4 then (4096 : Int) else x4),x1,x2,x3,x4,x5 ++ [(x0,x3,if IntKind.wrap IntKind.i64 (x1 - x0) < x4 then IntKind.wrap IntKind.i64 (x1 - x0) else x4,if IntKind.wrap IntKind.i64 (x2 - x3) < x4 then IntKind.wrap IntKind.i64 (x2 - x3) else x4,())])) fun r => some r) (
      none )) (
    some ((x3,x1,x2,x4,x5)))
noncomputable def dx (N : Nat) : Nat → tT → Option sX
  | 0,_ => none
  | k + 1,x => eG N (dx N k) x
noncomputable def uS (N : Nat) (k : Nat) : Cut := Db.cut (dx N k)
theorem qe (N : Nat) (k : Nat) : aj Tryz.prog false Tryz.f38 [] 7826 (uS N k) :=
  Db.loopT af al (rG N) Tryz.f38 [] (cuts := []) trivial (by decide +kernel) (by kernel_rfl) (eG N) (dx N) (fun _ => rfl) (fun _ _ => rfl) (fun f x => by kernel_rfl) k
@[reducible] def Jm : LD := ⟨122,[7,0,1,8,2],[(.ret,[6]),(.exit 0,[7])],⟨[.sl 0,.int .i64,.int .i64,.int .i64,.int .i64],[.row y1 126]⟩,[(.exit 0,⟨[.sl 0],[.row y1 126]⟩)]⟩
abbrev AF : Type := Int × Int × Int × Int × (List (Int × (Int × (Int × (Int × Unit)))))
abbrev zO : Type := (List (Int × (Int × (Int × (Int × Unit)))))
noncomputable def ig (N : Nat) (f : AF → Option zO) : AF → Option zO
  | (x0,x1,x2,x3,x4) =>
  ac (decide (x2 < x1)) (
    Option.bind (dx N N ((0 : Int),x0,x1,x2,x3,x4)) fun y0 =>
    Option.bind (f (y0.2.1,y0.2.2.1,IntKind.wrap IntKind.i64 (y0.1 + if (4096 : Int) < y0.2.2.2.1 then (4096 : Int) else y0.2.2.2.1),y0.2.2.2.1,y0.2.2.2.2)) fun r => some r) (
    some (x4))
noncomputable def dK (N : Nat) : Nat → AF → Option zO
  | 0,_ => none
  | k + 1,x => ig N (dK N k) x
noncomputable def Kh (N : Nat) (k : Nat) : Cut := Jm.cut (dK N k)
theorem Hn (N : Nat) (k : Nat) : aj Tryz.prog false Tryz.f38 [] 122 (Kh N k) :=
  Jm.loopT af al (rG N) Tryz.f38 [] (cuts := [(7826,uS N N)]) ⟨qe N N,trivial⟩ (by decide +kernel) (by kernel_rfl) (ig N) (dK N) (fun _ => rfl) (fun _ _ => rfl) (fun f x => by kernel_rfl) k
@[reducible] def w38 : List SP := [⟨[.sl 0],[.row y1 126]⟩]
noncomputable def F38 (N : Nat) : (Int × Int × Int) → Option ((List (Int × (Int × (Int × (Int × Unit))))))
  | (x0,x1,x2) =>
  ac (decide (x0 < (1 : Int))) (
    some ([])) (
    ac (decide (x1 < (1 : Int))) (
      some ([])) (
      ac (decide (x0 > (4096 : Int))) (
        some ([])) (
        ac (decide (x1 > (4096 : Int))) (
          some ([])) (
          ac (decide (x2 < (1 : Int))) (
            some ([])) (
            Option.bind (dK N N (x0,x1,(0 : Int),x2,[])) fun y0 =>
            some (y0))))))
noncomputable def T38 (N : Nat) : Pk → Tr Pk := ag s38 w38 (F38 N)
theorem Qx (N : Nat) : au Tryz.prog (38) (T38 N) :=
  (ae af al (rG N) Tryz.func38 s38 w38 [] (cuts := [(7826,uS N N),(122,Kh N N)]) ⟨qe N N,Hn N N,trivial⟩ (fun _ => by kernel_rfl) (by decide +kernel) (F38 N) (fun x => by kernel_rfl))
@[reducible] def s120 : SP := ⟨[.int .i64],[]⟩
noncomputable def Zm (N : Nat) : List (Nat × (Pk → Tr Pk)) := []
theorem Nl (N : Nat) : ah Tryz.prog (Zm N) := trivial
@[reducible] def w120 : List SP := [⟨[.bool],[]⟩]
noncomputable def Wd (N : Nat) : (Int) → Option (Bool)
  | x0 =>
  ac (x0 == (1 : Int)) (
    some (true)) (
    ac (x0 == (2 : Int)) (
      some (true)) (
      some (x0 == (4 : Int))))
noncomputable def aG1 (N : Nat) : Pk → Tr Pk := ag s120 w120 (Wd N)
theorem Vn (N : Nat) : au Tryz.prog (120) (aG1 N) :=
  (ae af al (Nl N) Tryz.func120 s120 w120 [] (cuts := []) trivial (fun _ => by kernel_rfl) (by decide +kernel) (Wd N) (fun x => by kernel_rfl))
@[reducible] def s213 : SP := ⟨[.adr 0 [],.int .i64],[.var 135 (.agg [.str,.int .i64,.int .i64])]⟩
noncomputable def YE (N : Nat) : List (Nat × (Pk → Tr Pk)) := []
theorem MR (N : Nat) : ah Tryz.prog (YE N) := trivial
@[reducible] def w213 : List SP := [⟨[.str],[.var 135 (.agg [.str,.int .i64,.int .i64])]⟩]
noncomputable def vB (N : Nat) : (Int × ByteArray × Int × Int) → Option (ByteArray × ByteArray × Int × Int)
  | (x0,x1,x2,x3) =>
  ac (x3 != (0 : Int)) (
    some ((ByteArray.mk #[],x1,x2,x3))) (
    ac (decide (x0 < (0 : Int))) (
      some ((ByteArray.mk #[],x1,x2,(1 : Int)))) (
      ac (decide (x0 > IntKind.wrap IntKind.i64 ((↑(ByteArray.size x1) : Int) - x2))) (
        some ((ByteArray.mk #[],x1,x2,(2 : Int)))) (
        ac (decide ((0 : Int) ≤ IntKind.wrap IntKind.i64 (x2 + x0) ∧ IntKind.wrap IntKind.i64 (x2 + x0) ≤ (↑(ByteArray.size x1) : Int))) (
          ac (decide ((0 : Int) ≤ x2 ∧ x2 ≤ (↑(Int.toNat (IntKind.wrap IntKind.i64 (x2 + x0))) : Int))) (
            some ((ByteArray.extract x1 (Int.toNat x2) (Int.toNat (IntKind.wrap IntKind.i64 (x2 + x0))),x1,IntKind.wrap IntKind.i64 (x2 + x0),x3))) (
            none )) (
          none ))))
noncomputable def UN (N : Nat) : Pk → Tr Pk := ag s213 w213 (vB N)
theorem zE (N : Nat) : au Tryz.prog (213) (UN N) :=
  (ae af al (MR N) Tryz.func213 s213 w213 [0] (cuts := []) trivial (fun _ => by kernel_rfl) (by decide +kernel) (vB N) (fun x => by kernel_rfl))
@[reducible] def s56 : SP := ⟨[.str],[]⟩
noncomputable def ap8 (N : Nat) : List (Nat × (Pk → Tr Pk)) := []
theorem BZ (N : Nat) : ah Tryz.prog (ap8 N) := trivial
@[reducible] def QQ : LD := ⟨58,[3,4,0],[(.ret,[2]),(.exit 0,[3])],⟨[.int .i64,.int .i64,.str],[]⟩,[(.exit 0,⟨[.int .i64],[]⟩)]⟩
abbrev GQ : Type := Int × Int × ByteArray
abbrev GD : Type := Int
noncomputable def pA (N : Nat) (f : GQ → Option GD) : GQ → Option GD
  | (x0,x1,x2) =>
  ac (decide (x1 < (↑(ByteArray.size x2) : Int))) (
    ac (decide ((0 : Int) ≤ x1)) (
      Option.bind (x2[Int.toNat x1]?) fun y0 =>
      Option.bind (f (IntKind.wrap IntKind.i64 (IntKind.wrap IntKind.i64 (x0 * (256 : Int)) + IntKind.wrap IntKind.i64 (↑(UInt8.toNat y0) : Int)),IntKind.wrap IntKind.i64 (x1 + (1 : Int)),x2)) fun r => some r) (
      none )) (
    some (x0))
noncomputable def gU (N : Nat) : Nat → GQ → Option GD
  | 0,_ => none
  | k + 1,x => pA N (gU N k) x
noncomputable def RY (N : Nat) (k : Nat) : Cut := QQ.cut (gU N k)
theorem Om (N : Nat) (k : Nat) : aj Tryz.prog false Tryz.f56 [] 58 (RY N k) :=
  QQ.loopT af al (BZ N) Tryz.f56 [] (cuts := []) trivial (by decide +kernel) (by kernel_rfl) (pA N) (gU N) (fun _ => rfl) (fun _ _ => rfl) (fun f x => by kernel_rfl) k
@[reducible] def w56 : List SP := [⟨[.int .i64],[]⟩]
noncomputable def Vx (N : Nat) : (ByteArray) → Option (Int)
  | x0 =>
  Option.bind (gU N N ((0 : Int),(0 : Int),x0)) fun y0 =>
  some (y0)
noncomputable def T56 (N : Nat) : Pk → Tr Pk := ag s56 w56 (Vx N)
theorem Qw (N : Nat) : au Tryz.prog (56) (T56 N) :=
  (ae af al (BZ N) Tryz.func56 s56 w56 [] (cuts := [(58,RY N N)]) ⟨Om N N,trivial⟩ (fun _ => by kernel_rfl) (by decide +kernel) (Vx N) (fun x => by kernel_rfl))
@[reducible] def s145 : SP := ⟨[.adr 0 [],.int .i64],[.var 135 (.agg [.str,.int .i64,.int .i64])]⟩
noncomputable def Za (N : Nat) : List (Nat × (Pk → Tr Pk)) := [(120,aG1 N),(213,UN N),(56,T56 N)]
theorem Na (N : Nat) : ah Tryz.prog (Za N) := ⟨Vn N,zE N,Qw N,trivial⟩
@[reducible] def w145 : List SP := [⟨[.int .i64],[.var 135 (.agg [.str,.int .i64,.int .i64])]⟩]
noncomputable def He (N : Nat) : (Int × ByteArray × Int × Int) → Option (Int × ByteArray × Int × Int)
  | (x0,x1,x2,x3) =>
  ac (x3 == (0 : Int)) (
    Option.bind (Wd N x0) fun y0 =>
    ac (!y0) (
      Option.bind (vB N (x0,x1,x2,(1 : Int))) fun y1 =>
      Option.bind (Vx N y1.1) fun y2 =>
      some ((y2,y1.2.1,y1.2.2.1,y1.2.2.2))) (
      Option.bind (vB N (x0,x1,x2,x3)) fun y3 =>
      Option.bind (Vx N y3.1) fun y4 =>
      some ((y4,y3.2.1,y3.2.2.1,y3.2.2.2)))) (
    Option.bind (vB N (x0,x1,x2,x3)) fun y5 =>
    Option.bind (Vx N y5.1) fun y6 =>
    some ((y6,y5.2.1,y5.2.2.1,y5.2.2.2)))
noncomputable def Ve (N : Nat) : Pk → Tr Pk := ag s145 w145 (He N)
theorem zI (N : Nat) : au Tryz.prog (145) (Ve N) :=
  (ae af al (Na N) Tryz.func145 s145 w145 [0] (cuts := []) trivial (fun _ => by kernel_rfl) (by decide +kernel) (He N) (fun x => by kernel_rfl))
@[reducible] def s307 : SP := ⟨[.str],[]⟩
noncomputable def X1 (N : Nat) : List (Nat × (Pk → Tr Pk)) := []
theorem v7 (N : Nat) : ah Tryz.prog (X1 N) := trivial
@[reducible] def JK : LD := ⟨58,[3,4,0],[(.ret,[2]),(.exit 0,[3])],⟨[.str,.int .i64,.str],[]⟩,[(.exit 0,⟨[.str],[]⟩)]⟩
abbrev A1 : Type := ByteArray × Int × ByteArray
abbrev Ak : Type := ByteArray
noncomputable def kz (N : Nat) (f : A1 → Option Ak) : A1 → Option Ak
  | (x0,x1,x2) =>
  ac (decide (x1 < (↑(ByteArray.size x2) : Int))) (
    ac (decide ((0 : Int) ≤ IntKind.wrap IntKind.i64 (x1 + (1 : Int)) ∧ IntKind.wrap IntKind.i64 (x1 + (1 : Int)) ≤ (↑(ByteArray.size x2) : Int))) (
      ac (decide ((0 : Int) ≤ x1 ∧ x1 ≤ (↑(Int.toNat (IntKind.wrap IntKind.i64 (x1 + (1 : Int)))) : Int))) (
        ac (decide ((↑(ByteArray.size (ByteArray.extract x2 (Int.toNat x1) (Int.toNat (IntKind.wrap IntKind.i64 (x1 + (1 : Int))))) + ByteArray.size x0) : Int) > (9223372036854775807 : Int))) (
          none ) (
          Option.bind (f (ByteArray.extract x2 (Int.toNat x1) (Int.toNat (IntKind.wrap IntKind.i64 (x1 + (1 : Int)))) ++ x0,IntKind.wrap IntKind.i64 (x1 + (1 : Int)),x2)) fun r => some r)) (
        none )) (
      none )) (
    some (x0))
noncomputable def dM (N : Nat) : Nat → A1 → Option Ak
  | 0,_ => none
  | k + 1,x => kz N (dM N k) x
noncomputable def KC (N : Nat) (k : Nat) : Cut := JK.cut (dM N k)
theorem HI (N : Nat) (k : Nat) : aj Tryz.prog false Tryz.f307 [] 58 (KC N k) :=
  JK.loopT af al (v7 N) Tryz.f307 [] (cuts := []) trivial (by decide +kernel) (by kernel_rfl) (kz N) (dM N) (fun _ => rfl) (fun _ _ => rfl) (fun f x => by kernel_rfl) k
@[reducible] def w307 : List SP := [⟨[.str],[]⟩]
noncomputable def Ro (N : Nat) : (ByteArray) → Option (ByteArray)
  | x0 =>
  Option.bind (dM N N (ByteArray.mk #[],(0 : Int),x0)) fun y0 =>
  some (y0)
noncomputable def aA5 (N : Nat) : Pk → Tr Pk := ag s307 w307 (Ro N)
theorem Ui (N : Nat) : au Tryz.prog (307) (aA5 N) :=
  (ae af al (v7 N) Tryz.func307 s307 w307 [] (cuts := [(58,KC N N)]) ⟨HI N N,trivial⟩ (fun _ => by kernel_rfl) (by decide +kernel) (Ro N) (fun x => by kernel_rfl))
@[reducible] def s266 : SP := ⟨[.bool,.int .i64,.str],[]⟩
noncomputable def Yh (N : Nat) : List (Nat × (Pk → Tr Pk)) := [(56,T56 N),(307,aA5 N)]
theorem ME (N : Nat) : ah Tryz.prog (Yh N) := ⟨Qw N,Ui N,trivial⟩
@[reducible] def w266 : List SP := [⟨[.tup [.int .i64,.int .i64]],[]⟩]
noncomputable def V0 (N : Nat) : (Bool × Int × ByteArray) → Option (Int × Int)
  | (x0,x1,x2) =>
  ac (decide ((↑(ByteArray.size x2) : Int) < x1)) (
    some (((0 : Int),(2 : Int)))) (
    ac (x0) (
      ac (decide ((0 : Int) ≤ x1 ∧ x1 ≤ (↑(ByteArray.size x2) : Int))) (
        Option.bind (Vx N (ByteArray.extract x2 (0 : Nat) (Int.toNat x1))) fun y0 =>
        some ((y0,(0 : Int)))) (
        none )) (
      ac (decide ((0 : Int) ≤ x1 ∧ x1 ≤ (↑(ByteArray.size x2) : Int))) (
        Option.bind (Ro N (ByteArray.extract x2 (0 : Nat) (Int.toNat x1))) fun y1 =>
        Option.bind (Vx N y1) fun y2 =>
        some ((y2,(0 : Int)))) (
        none )))
noncomputable def aB7 (N : Nat) : Pk → Tr Pk := ag s266 w266 (V0 N)
theorem Uv (N : Nat) : au Tryz.prog (266) (aB7 N) :=
  (ae af al (ME N) Tryz.func266 s266 w266 [] (cuts := []) trivial (fun _ => by kernel_rfl) (by decide +kernel) (V0 N) (fun x => by kernel_rfl))
@[reducible] def s214 : SP := ⟨[.agg [.int .i64,.int .i64,.bool,.bool,.int .i64,.int .i64,.int .i64,.int .i64,.int .i64,.int .i64],.str],[]⟩
noncomputable def YD (N : Nat) : List (Nat × (Pk → Tr Pk)) := [(87,T87 N),(266,aB7 N)]
theorem MQ (N : Nat) : ah Tryz.prog (YD N) := ⟨Gt N,Uv N,trivial⟩
@[reducible] def w214 : List SP := [⟨[.tup [.int .i64,.int .i64]],[]⟩]
noncomputable def Rw (N : Nat) : (Int × Int × Bool × Bool × Int × Int × Int × Int × Int × Int × ByteArray) → Option (Int × Int)
  | (x0,x1,x2,x3,x4,x5,x6,x7,x8,x9,x10) =>
  Option.bind (N0 N (x0,x1,x2,x3,x4,x5,x6,x7,x8,x9)) fun y0 =>
  Option.bind (V0 N (x2,y0.1,x10)) fun y1 =>
  ac (decide (y0.2 < (0 : Int))) (
    none ) (
    some ((IntKind.wrap IntKind.i64 (y1.1 * (2 : Int) ^ min (Int.toNat y0.2) (64 : Nat)),y1.2)))
noncomputable def aD2 (N : Nat) : Pk → Tr Pk := ag s214 w214 (Rw N)
theorem UM (N : Nat) : au Tryz.prog (214) (aD2 N) :=
  (ae af al (MQ N) Tryz.func214 s214 w214 [] (cuts := []) trivial (fun _ => by kernel_rfl) (by decide +kernel) (Rw N) (fun x => by kernel_rfl))
@[reducible] def s147 : SP := ⟨[.adr 0 []],[.var 137 (.agg [.agg [.int .i64,.int .i64,.bool,.bool,.int .i64,.int .i64,.int .i64,.int .i64,.int .i64,.int .i64],.int .i64,.adr 1 []]),.var 135 (.agg [.str,.int .i64,.int .i64])]⟩
noncomputable def Y8 (N : Nat) : List (Nat × (Pk → Tr Pk)) := [(213,UN N),(214,aD2 N)]
theorem M9 (N : Nat) : ah Tryz.prog (Y8 N) := ⟨zE N,UM N,trivial⟩
@[reducible] def w147 : List SP := [⟨[.int .i64],[.var 137 (.agg [.agg [.int .i64,.int .i64,.bool,.bool,.int .i64,.int .i64,.int .i64,.int .i64,.int .i64,.int .i64],.int .i64,.adr 1 []]),.var 135 (.agg [.str,.int .i64,.int .i64])]⟩]
noncomputable def Hc (N : Nat) : (Int × Int × Bool × Bool × Int × Int × Int × Int × Int × Int × Int × ByteArray × Int × Int) → Option (Int × Int × Int × Bool × Bool × Int × Int × Int × Int × Int × Int × Int × ByteArray × Int × Int)
  | (x0,x1,x2,x3,x4,x5,x6,x7,x8,x9,x10,x11,x12,x13) =>
  Option.bind (vB N (x10,x11,x12,x13)) fun y0 =>
  Option.bind (Rw N (x0,x1,x2,x3,x4,x5,x6,x7,x8,x9,y0.1)) fun y1 =>
  some ((y1.1,x0,x1,x2,x3,x4,x5,x6,x7,x8,x9,x10,y0.2.1,y0.2.2.1,y0.2.2.2))
noncomputable def Vb (N : Nat) : Pk → Tr Pk := ag s147 w147 (Hc N)
theorem zG (N : Nat) : au Tryz.prog (147) (Vb N) :=
  (ae af al (M9 N) Tryz.func147 s147 w147 [0,1] (cuts := []) trivial (fun _ => by kernel_rfl) (by decide +kernel) (Hc N) (fun x => by kernel_rfl))
@[reducible] def s146 : SP := ⟨[.adr 0 [],.int .i64],[.var 137 (.agg [.agg [.int .i64,.int .i64,.bool,.bool,.int .i64,.int .i64,.int .i64,.int .i64,.int .i64,.int .i64],.int .i64,.adr 1 []]),.var 135 (.agg [.str,.int .i64,.int .i64])]⟩
noncomputable def Y9 (N : Nat) : List (Nat × (Pk → Tr Pk)) := [(147,Vb N)]
theorem wD (N : Nat) : ah Tryz.prog (Y9 N) := ⟨zG N,trivial⟩
@[reducible] def J2 : LD := ⟨58,[5,6,1,0],[(.ret,[4]),(.exit 0,[5])],⟨[.sl 2,.int .i64,.int .i64,.adr 0 []],[.var 137 (.agg [.agg [.int .i64,.int .i64,.bool,.bool,.int .i64,.int .i64,.int .i64,.int .i64,.int .i64,.int .i64],.int .i64,.adr 1 []]),.var 135 (.agg [.str,.int .i64,.int .i64]),.row (.int .i64) 3]⟩,[(.exit 0,⟨[.sl 2],[.var 137 (.agg [.agg [.int .i64,.int .i64,.bool,.bool,.int .i64,.int .i64,.int .i64,.int .i64,.int .i64,.int .i64],.int .i64,.adr 1 []]),.var 135 (.agg [.str,.int .i64,.int .i64]),.row (.int .i64) 3]⟩)]⟩
abbrev Be : Type := Int × Int × Int × Int × Bool × Bool × Int × Int × Int × Int × Int × Int × Int × ByteArray × Int × Int × (List Int)
abbrev Ay : Type := Int × Int × Bool × Bool × Int × Int × Int × Int × Int × Int × Int × ByteArray × Int × Int × (List Int)
noncomputable def kD (N : Nat) (f : Be → Option Ay) : Be → Option Ay
  | (x0,x1,x2,x3,x4,x5,x6,x7,x8,x9,x10,x11,x12,x13,x14,x15,x16) =>
  ac (decide (x0 < x1)) (
    Option.bind (Hc N (x2,x3,x4,x5,x6,x7,x8,x9,x10,x11,x12,x13,x14,x15)) fun (y0_0,y0_1,y0_2,y0_3,y0_4,y0_5,y0_6,y0_7,y0_8,y0_9,y0_10,y0_11,y0_12,y0_13,y0_14) =>
    ac (decide ((List.length x16 + List.length [y0_0]) * (8 : Nat) ≤ (140737488355328 : Nat) ∧ List.length x16 + List.length [y0_0] ≤ (140737488355328 : Nat))) (
      Option.bind (f (IntKind.wrap IntKind.i64 (x0 + (1 : Int)),x1,y0_1,y0_2,y0_3,y0_4,y0_5,y0_6,y0_7,y0_8,y0_9,y0_10,y0_11,y0_12,y0_13,y0_14,x16 ++ [y0_0])) fun r => some r) (
      none )) (
    some ((x2,x3,x4,x5,x6,x7,x8,x9,x10,x11,x12,x13,x14,x15,x16)))
noncomputable def dN (N : Nat) : Nat → Be → Option Ay
  | 0,_ => none
  | k + 1,x => kD N (dN N k) x
noncomputable def KT (N : Nat) (k : Nat) : Cut := J2.cut (dN N k)
theorem H0 (N : Nat) (k : Nat) : aj Tryz.prog false Tryz.f146 [0,1] 58 (KT N k) :=
  J2.loopT af al (wD N) Tryz.f146 [0,1] (cuts := []) trivial (by decide +kernel) (by kernel_rfl) (kD N) (dN N) (fun _ => rfl) (fun _ _ => rfl) (fun f x => by kernel_rfl) k
@[reducible] def w146 : List SP := [⟨[.sl 2],[.var 137 (.agg [.agg [.int .i64,.int .i64,.bool,.bool,.int .i64,.int .i64,.int .i64,.int .i64,.int .i64,.int .i64],.int .i64,.adr 1 []]),.var 135 (.agg [.str,.int .i64,.int .i64]),.row (.int .i64) 3]⟩]
noncomputable def Hd (N : Nat) : (Int × Int × Int × Bool × Bool × Int × Int × Int × Int × Int × Int × Int × ByteArray × Int × Int) → Option (Int × Int × Bool × Bool × Int × Int × Int × Int × Int × Int × Int × ByteArray × Int × Int × (List Int))
  | (x0,x1,x2,x3,x4,x5,x6,x7,x8,x9,x10,x11,x12,x13,x14) =>
  Option.bind (dN N N ((0 : Int),x0,x1,x2,x3,x4,x5,x6,x7,x8,x9,x10,x11,x12,x13,x14,[])) fun (y0_0,y0_1,y0_2,y0_3,y0_4,y0_5,y0_6,y0_7,y0_8,y0_9,y0_10,y0_11,y0_12,y0_13,y0_14) =>
  some ((y0_0,y0_1,y0_2,y0_3,y0_4,y0_5,y0_6,y0_7,y0_8,y0_9,y0_10,y0_11,y0_12,y0_13,y0_14))
noncomputable def Vd (N : Nat) : Pk → Tr Pk := ag s146 w146 (Hd N)
theorem zH (N : Nat) : au Tryz.prog (146) (Vd N) :=
  (ae af al (wD N) Tryz.func146 s146 w146 [0,1] (cuts := [(58,KT N N)]) ⟨H0 N N,trivial⟩ (fun _ => by kernel_rfl) (by decide +kernel) (Hd N) (fun x => by kernel_rfl))
@[reducible] def s215 : SP := ⟨[.int .i64],[]⟩
noncomputable def YC (N : Nat) : List (Nat × (Pk → Tr Pk)) := []
theorem MP (N : Nat) : ah Tryz.prog (YC N) := trivial
@[reducible] def w215 : List SP := [⟨[.int .i64],[]⟩]
noncomputable def Ru (N : Nat) : (Int) → Option (Int)
  | x0 =>
  ac (decide (x0 ≤ (2 : Int))) (
    some ((1 : Int))) (
    ac (decide (x0 ≤ (4 : Int))) (
      some ((2 : Int))) (
      some ((4 : Int))))
noncomputable def aD1 (N : Nat) : Pk → Tr Pk := ag s215 w215 (Ru N)
theorem UL (N : Nat) : au Tryz.prog (215) (aD1 N) :=
  (ae af al (MP N) Tryz.func215 s215 w215 [] (cuts := []) trivial (fun _ => by kernel_rfl) (by decide +kernel) (Ru N) (fun x => by kernel_rfl))
@[reducible] def s216 : SP := ⟨[.int .i64],[]⟩
noncomputable def YB (N : Nat) : List (Nat × (Pk → Tr Pk)) := []
theorem wt (N : Nat) : ah Tryz.prog (YB N) := trivial
@[reducible] def JU : LD := ⟨58,[3,4,0],[(.ret,[2]),(.exit 0,[3])],⟨[.int .i64,.int .i64,.int .i64],[]⟩,[(.exit 0,⟨[.int .i64],[]⟩)]⟩
abbrev A8 : Type := Int × Int × Int
abbrev As : Type := Int
noncomputable def Lq (N : Nat) (f : A8 → Option As) : A8 → Option As
  | (x0,x1,x2) =>
  ac (decide (x1 < x2)) (
    Option.bind (f (IntKind.wrap IntKind.i64 (x0 * (2 : Int)),IntKind.wrap IntKind.i64 (x1 + (1 : Int)),x2)) fun r => some r) (
    some (x0))
noncomputable def rp (N : Nat) : Nat → A8 → Option As
  | 0,_ => none
  | k + 1,x => Lq N (rp N k) x
noncomputable def KL (N : Nat) (k : Nat) : Cut := JU.cut (rp N k)
theorem HR (N : Nat) (k : Nat) : aj Tryz.prog false Tryz.f216 [] 58 (KL N k) :=
  JU.loopT af al (wt N) Tryz.f216 [] (cuts := []) trivial (by decide +kernel) (by kernel_rfl) (Lq N) (rp N) (fun _ => rfl) (fun _ _ => rfl) (fun f x => by kernel_rfl) k
@[reducible] def w216 : List SP := [⟨[.int .i64],[]⟩]
noncomputable def G9 (N : Nat) : (Int) → Option (Int)
  | x0 =>
  Option.bind (rp N N ((1 : Int),(0 : Int),x0)) fun y0 =>
  some (y0)
noncomputable def aD0 (N : Nat) : Pk → Tr Pk := ag s216 w216 (G9 N)
theorem UK (N : Nat) : au Tryz.prog (216) (aD0 N) :=
  (ae af al (wt N) Tryz.func216 s216 w216 [] (cuts := [(58,KL N N)]) ⟨HR N N,trivial⟩ (fun _ => by kernel_rfl) (by decide +kernel) (G9 N) (fun x => by kernel_rfl))
@[reducible] def s148 : SP := ⟨[.adr 0 [],.int .i64,.int .i64,.int .i64],[.var 137 (.agg [.agg [.int .i64,.int .i64,.bool,.bool,.int .i64,.int .i64,.int .i64,.int .i64,.int .i64,.int .i64],.int .i64,.adr 1 []]),.var 135 (.agg [.str,.int .i64,.int .i64])]⟩
noncomputable def Y7 (N : Nat) : List (Nat × (Pk → Tr Pk)) := [(146,Vd N),(215,aD1 N),(213,UN N),(216,aD0 N)]
theorem nO (N : Nat) : ah Tryz.prog (Y7 N) := ⟨zH N,UL N,zE N,UK N,trivial⟩
@[reducible] def uJ : LD := ⟨64078,[2,0,3,13,14,11,1,10,15,12],[(.ret,[8,9]),(.exit 2,[13,12,10,1,11,3,0,2]),(.exit 1,[13,12,10,1,11,3,0,2]),(.exit 0,[12])],⟨[.int .i64,.adr 0 [],.int .i64,.int .i64,.str,.int .i64,.int .i64,.sl 2,.int .i64,.sl 3],[.var 137 (.agg [.agg [.int .i64,.int .i64,.bool,.bool,.int .i64,.int .i64,.int .i64,.int .i64,.int .i64,.int .i64],.int .i64,.adr 1 []]),.var 135 (.agg [.str,.int .i64,.int .i64]),.row (.int .i64) 3,.row (.int .i64) 3]⟩,[(.ret,⟨[.sl 2,.bool],[.var 137 (.agg [.agg [.int .i64,.int .i64,.bool,.bool,.int .i64,.int .i64,.int .i64,.int .i64,.int .i64,.int .i64],.int .i64,.adr 1 []]),.var 135 (.agg [.str,.int .i64,.int .i64]),.row (.int .i64) 3]⟩),(.exit 2,⟨[.int .i64,.sl 2,.sl 3,.int .i64,.int .i64,.int .i64,.adr 0 [],.int .i64],[.var 137 (.agg [.agg [.int .i64,.int .i64,.bool,.bool,.int .i64,.int .i64,.int .i64,.int .i64,.int .i64,.int .i64],.int .i64,.adr 1 []]),.var 135 (.agg [.str,.int .i64,.int .i64]),.row (.int .i64) 3,.row (.int .i64) 3]⟩)]⟩
abbrev lF : Type := Int × Int × Int × ByteArray × Int × Int × Int × Int × Int × Bool × Bool × Int × Int × Int × Int × Int × Int × Int × ByteArray × Int × Int × (List Int) × (List Int)
abbrev lx : Type := ((Bool × Int × Int × Bool × Bool × Int × Int × Int × Int × Int × Int × Int × ByteArray × Int × Int × (List Int)) ⊕ (Int × Int × Int × Int × Int × Int × Int × Bool × Bool × Int × Int × Int × Int × Int × Int × Int × ByteArray × Int × Int × (List Int) × (List Int)))
noncomputable def dl (N : Nat) (f : lF → Option lx) : lF → Option lx
  | (x0,x1,x2,x3,x4,x5,x6,x7,x8,x9,x10,x11,x12,x13,x14,x15,x16,x17,x18,x19,x20,x21,x22) =>
  ac (decide (x6 < x0)) (
    ac (decide ((0 : Int) ≤ IntKind.wrap IntKind.i64 (Int.tdiv (IntKind.wrap IntKind.i64 (x6 * x4)) (8 : Int)))) (
      Option.bind (x3[Int.toNat (IntKind.wrap IntKind.i64 (Int.tdiv (IntKind.wrap IntKind.i64 (x6 * x4)) (8 : Int)))]?) fun y0 =>
      Option.bind (G9 N (IntKind.wrap IntKind.i64 (IntKind.wrap IntKind.i64 ((8 : Int) - x4) - Int.tmod (IntKind.wrap IntKind.i64 (x6 * x4)) (8 : Int)))) fun y1 =>
      ac (decide (y1 = (0 : Int))) (
        none ) (
        Option.bind (G9 N x4) fun y2 =>
        ac (decide (y2 = (0 : Int))) (
          none ) (
          ac (decide (Int.tmod (IntKind.wrap IntKind.i64 (Int.tdiv (IntKind.wrap IntKind.i64 (↑(UInt8.toNat y0) : Int)) y1)) y2 ≥ x5)) (
            some (.inl ((false,x7,x8,x9,x10,x11,x12,x13,x14,x15,x16,x17,x18,x19,x20,[])))) (
            ac (within (Int.tmod (IntKind.wrap IntKind.i64 (Int.tdiv (IntKind.wrap IntKind.i64 (↑(UInt8.toNat y0) : Int)) y1)) y2) (List.length x21)) (
              Option.bind (x21[Int.toNat (Int.tmod (IntKind.wrap IntKind.i64 (Int.tdiv (IntKind.wrap IntKind.i64 (↑(UInt8.toNat y0) : Int)) y1)) y2)]?) fun y3 =>
              ac (decide ((List.length x22 + List.length [y3]) * (8 : Nat) ≤ (140737488355328 : Nat) ∧ List.length x22 + List.length [y3] ≤ (140737488355328 : Nat))) (
                Option.bind (f (x0,x1,x2,x3,x4,x5,IntKind.wrap IntKind.i64 (x6 + (1 : Int)),x7,x8,x9,x10,x11,x12,x13,x14,x15,x16,x17,x18,x19,x20,x21,x22 ++ [y3])) fun r => match r with | .inl y => some (.inl y) | .inr y => some (.inr y)) (
                none )) (
              none ))))) (
      none )) (
    some (.inr ((x2,x5,x4,x1,x0,x7,x8,x9,x10,x11,x12,x13,x14,x15,x16,x17,x18,x19,x20,x22,x21))))
noncomputable def a7 (N : Nat) : Nat → lF → Option lx
  | 0,_ => none
  | k + 1,x => dl N (a7 N k) x
noncomputable def lO (N : Nat) (k : Nat) : Cut := uJ.cut (a7 N k)
theorem kQ (N : Nat) (k : Nat) : aj Tryz.prog false Tryz.f148 [0,1] 64078 (lO N k) :=
  uJ.loopT af al (nO N) Tryz.f148 [0,1] (cuts := []) trivial (by decide +kernel) (by kernel_rfl) (dl N) (a7 N) (fun _ => rfl) (fun _ _ => rfl) (fun f x => by kernel_rfl) k
@[reducible] def DF : LD := ⟨250,[12,10,1,11,13,3,0,2],[(.ret,[8,9]),(.exit 0,[12])],⟨[.sl 2,.sl 3,.int .i64,.int .i64,.int .i64,.int .i64,.adr 0 [],.int .i64],[.var 137 (.agg [.agg [.int .i64,.int .i64,.bool,.bool,.int .i64,.int .i64,.int .i64,.int .i64,.int .i64,.int .i64],.int .i64,.adr 1 []]),.var 135 (.agg [.str,.int .i64,.int .i64]),.row (.int .i64) 3,.row (.int .i64) 3]⟩,[(.ret,⟨[.sl 2,.bool],[.var 137 (.agg [.agg [.int .i64,.int .i64,.bool,.bool,.int .i64,.int .i64,.int .i64,.int .i64,.int .i64,.int .i64],.int .i64,.adr 1 []]),.var 135 (.agg [.str,.int .i64,.int .i64]),.row (.int .i64) 3]⟩),(.exit 0,⟨[.sl 2],[.var 137 (.agg [.agg [.int .i64,.int .i64,.bool,.bool,.int .i64,.int .i64,.int .i64,.int .i64,.int .i64,.int .i64],.int .i64,.adr 1 []]),.var 135 (.agg [.str,.int .i64,.int .i64]),.row (.int .i64) 3]⟩)]⟩
abbrev uy : Type := Int × Int × Int × Int × Int × Int × Int × Bool × Bool × Int × Int × Int × Int × Int × Int × Int × ByteArray × Int × Int × (List Int) × (List Int)
abbrev tK : Type := ((Bool × Int × Int × Bool × Bool × Int × Int × Int × Int × Int × Int × Int × ByteArray × Int × Int × (List Int)) ⊕ (Int × Int × Bool × Bool × Int × Int × Int × Int × Int × Int × Int × ByteArray × Int × Int × (List Int)))
noncomputable def gr (N : Nat) (f : uy → Option tK) : uy → Option tK
  | (x0,x1,x2,x3,x4,x5,x6,x7,x8,x9,x10,x11,x12,x13,x14,x15,x16,x17,x18,x19,x20) =>
  ac (decide (x2 < x3)) (
    Option.bind (vB N (IntKind.wrap IntKind.i64 (Int.tdiv (IntKind.wrap IntKind.i64 (IntKind.wrap IntKind.i64 (x4 * x1) + (7 : Int))) (8 : Int)),x16,x17,x18)) fun y0 =>
    ac (y0.2.2.2 != (0 : Int)) (
      some (.inl ((false,x5,x6,x7,x8,x9,x10,x11,x12,x13,x14,x15,y0.2.1,y0.2.2.1,y0.2.2.2,[])))) (
      Option.bind (a7 N N (x4,x3,x2,y0.1,x1,x0,(0 : Int),x5,x6,x7,x8,x9,x10,x11,x12,x13,x14,x15,y0.2.1,y0.2.2.1,y0.2.2.2,x20,x19)) fun y1 =>
      match y1 with
      | .inl (y2_0,y2_1,y2_2,y2_3,y2_4,y2_5,y2_6,y2_7,y2_8,y2_9,y2_10,y2_11,y2_12,y2_13,y2_14,y2_15) =>
        some (.inl ((y2_0,y2_1,y2_2,y2_3,y2_4,y2_5,y2_6,y2_7,y2_8,y2_9,y2_10,y2_11,y2_12,y2_13,y2_14,y2_15)))
      | .inr (y2_0,y2_1,y2_2,y2_3,y2_4,y2_5,y2_6,y2_7,y2_8,y2_9,y2_10,y2_11,y2_12,y2_13,y2_14,y2_15,y2_16,y2_17,y2_18,y2_19,y2_20) =>
        Option.bind (f (y2_1,y2_2,IntKind.wrap IntKind.i64 (y2_0 + (1 : Int)),y2_3,y2_4,y2_5,y2_6,y2_7,y2_8,y2_9,y2_10,y2_11,y2_12,y2_13,y2_14,y2_15,y2_16,y2_17,y2_18,y2_19,y2_20)) fun r => match r with | .inl y => some (.inl y) | .inr y => some (.inr y))) (
    some (.inr ((x5,x6,x7,x8,x9,x10,x11,x12,x13,x14,x15,x16,x17,x18,x19))))
noncomputable def bD (N : Nat) : Nat → uy → Option tK
  | 0,_ => none
  | k + 1,x => gr N (bD N k) x
noncomputable def EV (N : Nat) (k : Nat) : Cut := DF.cut (bD N k)
theorem EU (N : Nat) (k : Nat) : aj Tryz.prog false Tryz.f148 [0,1] 250 (EV N k) :=
  DF.loopT af al (nO N) Tryz.f148 [0,1] (cuts := [(64078,lO N N)]) ⟨kQ N N,trivial⟩ (by decide +kernel) (by kernel_rfl) (gr N) (bD N) (fun _ => rfl) (fun _ _ => rfl) (fun f x => by kernel_rfl) k
@[reducible] def w148 : List SP := [⟨[.tup [.sl 2,.bool]],[.var 137 (.agg [.agg [.int .i64,.int .i64,.bool,.bool,.int .i64,.int .i64,.int .i64,.int .i64,.int .i64,.int .i64],.int .i64,.adr 1 []]),.var 135 (.agg [.str,.int .i64,.int .i64]),.row (.int .i64) 3]⟩]
noncomputable def RI (N : Nat) : (Int × Int × Int × Int × Int × Bool × Bool × Int × Int × Int × Int × Int × Int × Int × ByteArray × Int × Int) → Option (Bool × Int × Int × Bool × Bool × Int × Int × Int × Int × Int × Int × Int × ByteArray × Int × Int × (List Int))
  | (x0,x1,x2,x3,x4,x5,x6,x7,x8,x9,x10,x11,x12,x13,x14,x15,x16) =>
  Option.bind (Hd N (x0,x3,x4,x5,x6,x7,x8,x9,x10,x11,x12,x13,x14,x15,x16)) fun (y0_0,y0_1,y0_2,y0_3,y0_4,y0_5,y0_6,y0_7,y0_8,y0_9,y0_10,y0_11,y0_12,y0_13,y0_14) =>
  Option.bind (Ru N x0) fun y1 =>
  Option.bind (bD N N (x0,y1,(0 : Int),x2,x1,y0_0,y0_1,y0_2,y0_3,y0_4,y0_5,y0_6,y0_7,y0_8,y0_9,y0_10,y0_11,y0_12,y0_13,[],y0_14)) fun y2 =>
  match y2 with
  | .inl (y3_0,y3_1,y3_2,y3_3,y3_4,y3_5,y3_6,y3_7,y3_8,y3_9,y3_10,y3_11,y3_12,y3_13,y3_14,y3_15) =>
    some ((y3_0,y3_1,y3_2,y3_3,y3_4,y3_5,y3_6,y3_7,y3_8,y3_9,y3_10,y3_11,y3_12,y3_13,y3_14,y3_15))
  | .inr (y3_0,y3_1,y3_2,y3_3,y3_4,y3_5,y3_6,y3_7,y3_8,y3_9,y3_10,y3_11,y3_12,y3_13,y3_14) =>
    some ((true,y3_0,y3_1,y3_2,y3_3,y3_4,y3_5,y3_6,y3_7,y3_8,y3_9,y3_10,y3_11,y3_12,y3_13,y3_14))
noncomputable def aF4 (N : Nat) : Pk → Tr Pk := ag s148 w148 (RI N)
theorem Va (N : Nat) : au Tryz.prog (148) (aF4 N) :=
  (ae af al (nO N) Tryz.func148 s148 w148 [0,1] (cuts := [(64078,lO N N),(250,EV N N)]) ⟨kQ N N,EU N N,trivial⟩ (fun _ => by kernel_rfl) (by decide +kernel) (RI N) (fun x => by kernel_rfl))
@[reducible] def s217 : SP := ⟨[.adr 0 []],[.var 137 (.agg [.agg [.int .i64,.int .i64,.bool,.bool,.int .i64,.int .i64,.int .i64,.int .i64,.int .i64,.int .i64],.int .i64,.adr 1 []]),.var 135 (.agg [.str,.int .i64,.int .i64])]⟩
noncomputable def YA (N : Nat) : List (Nat × (Pk → Tr Pk)) := [(145,Ve N)]
theorem wq (N : Nat) : ah Tryz.prog (YA N) := ⟨zI N,trivial⟩
@[reducible] def JS : LD := ⟨14,[3,0],[(.ret,[2]),(.exit 0,[2])],⟨[.int .i64,.adr 0 []],[.var 137 (.agg [.agg [.int .i64,.int .i64,.bool,.bool,.int .i64,.int .i64,.int .i64,.int .i64,.int .i64,.int .i64],.int .i64,.adr 1 []]),.var 135 (.agg [.str,.int .i64,.int .i64])]⟩,[(.ret,⟨[.int .i64],[.var 137 (.agg [.agg [.int .i64,.int .i64,.bool,.bool,.int .i64,.int .i64,.int .i64,.int .i64,.int .i64,.int .i64],.int .i64,.adr 1 []]),.var 135 (.agg [.str,.int .i64,.int .i64])]⟩)]⟩
abbrev A7 : Type := Int × Int × Int × Bool × Bool × Int × Int × Int × Int × Int × Int × Int × ByteArray × Int × Int
abbrev Ar : Type := Int × Int × Int × Bool × Bool × Int × Int × Int × Int × Int × Int × Int × ByteArray × Int × Int
noncomputable def rC (N : Nat) (f : A7 → Option Ar) : A7 → Option Ar
  | (x0,x1,x2,x3,x4,x5,x6,x7,x8,x9,x10,x11,x12,x13,x14) =>
  Option.bind (He N ((1 : Int),x12,x13,x14)) fun y0 =>
  ac (y0.1 != (255 : Int)) (
    some ((IntKind.wrap IntKind.i64 (x0 + y0.1),x1,x2,x3,x4,x5,x6,x7,x8,x9,x10,x11,y0.2.1,y0.2.2.1,y0.2.2.2))) (
    Option.bind (f (IntKind.wrap IntKind.i64 (x0 + y0.1),x1,x2,x3,x4,x5,x6,x7,x8,x9,x10,x11,y0.2.1,y0.2.2.1,y0.2.2.2)) fun r => some r)
noncomputable def kr (N : Nat) : Nat → A7 → Option Ar
  | 0,_ => none
  | k + 1,x => rC N (kr N k) x
noncomputable def KJ (N : Nat) (k : Nat) : Cut := JS.cut (kr N k)
theorem HQ (N : Nat) (k : Nat) : aj Tryz.prog false Tryz.f217 [0,1] 14 (KJ N k) :=
  JS.loopT af al (wq N) Tryz.f217 [0,1] (cuts := []) trivial (by decide +kernel) (by kernel_rfl) (rC N) (kr N) (fun _ => rfl) (fun _ _ => rfl) (fun f x => by kernel_rfl) k
@[reducible] def w217 : List SP := [⟨[.int .i64],[.var 137 (.agg [.agg [.int .i64,.int .i64,.bool,.bool,.int .i64,.int .i64,.int .i64,.int .i64,.int .i64,.int .i64],.int .i64,.adr 1 []]),.var 135 (.agg [.str,.int .i64,.int .i64])]⟩]
noncomputable def Od (N : Nat) : (Int × Int × Bool × Bool × Int × Int × Int × Int × Int × Int × Int × ByteArray × Int × Int) → Option (Int × Int × Int × Bool × Bool × Int × Int × Int × Int × Int × Int × Int × ByteArray × Int × Int)
  | (x0,x1,x2,x3,x4,x5,x6,x7,x8,x9,x10,x11,x12,x13) =>
  Option.bind (kr N N ((1 : Int),x0,x1,x2,x3,x4,x5,x6,x7,x8,x9,x10,x11,x12,x13)) fun (y0_0,y0_1,y0_2,y0_3,y0_4,y0_5,y0_6,y0_7,y0_8,y0_9,y0_10,y0_11,y0_12,y0_13,y0_14) =>
  some ((y0_0,y0_1,y0_2,y0_3,y0_4,y0_5,y0_6,y0_7,y0_8,y0_9,y0_10,y0_11,y0_12,y0_13,y0_14))
noncomputable def aC9 (N : Nat) : Pk → Tr Pk := ag s217 w217 (Od N)
theorem UJ (N : Nat) : au Tryz.prog (217) (aC9 N) :=
  (ae af al (wq N) Tryz.func217 s217 w217 [0,1] (cuts := [(14,KJ N N)]) ⟨HQ N N,trivial⟩ (fun _ => by kernel_rfl) (by decide +kernel) (Od N) (fun x => by kernel_rfl))
end Go.Proofs.YtfcamlibbfnldaaGreat.Am
