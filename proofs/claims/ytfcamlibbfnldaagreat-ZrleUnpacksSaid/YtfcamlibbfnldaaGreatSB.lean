/- The seat's Go functions come to the Lean functions written here, wherever these give an answer (part B). -/
import Derived.Test.YtfcamlibbfnldaaGreatSA
set_option linter.unusedSimpArgs false
set_option linter.unusedVariables false
set_option linter.unusedSectionVars false
set_option maxRecDepth 100000
namespace Go.Proofs.YtfcamlibbfnldaaGreat.Am
open Go.Am
@[reducible] def s334 : SP := ⟨[.int .u64],[]⟩
noncomputable def XM (N : Nat) : List (Nat × (Pk → Tr Pk)) := []
theorem Mi (N : Nat) : ah Tryz.prog (XM N) := trivial
@[reducible] def w334 : List SP := [⟨[.int .u64],[]⟩]
noncomputable def ai5 (N : Nat) : (Int) → Option (Int)
  | x0 =>
  some (IntKind.wrap IntKind.u64 (↑(BitVec.toNat (BitVec.ofInt (64 : Nat) (Int.fdiv (IntKind.wrap IntKind.u64 (↑(BitVec.toNat (BitVec.ofInt (64 : Nat) (IntKind.wrap IntKind.u64 (↑(BitVec.toNat (BitVec.ofInt (64 : Nat) (Int.fdiv (IntKind.wrap IntKind.u64 (↑(BitVec.toNat (BitVec.ofInt (64 : Nat) (IntKind.wrap IntKind.u64 (↑(BitVec.toNat (BitVec.ofInt (64 : Nat) (Int.fdiv x0 (256 : Int)) &&& BitVec.ofInt (64 : Nat) (71777214294589695 : Int))) : Int)) ||| BitVec.ofInt (64 : Nat) (IntKind.wrap IntKind.u64 (IntKind.wrap IntKind.u64 (↑(BitVec.toNat (BitVec.ofInt (64 : Nat) x0 &&& BitVec.ofInt (64 : Nat) (71777214294589695 : Int))) : Int) * (256 : Int))))) : Int)) (65536 : Int)) &&& BitVec.ofInt (64 : Nat) (281470681808895 : Int))) : Int)) ||| BitVec.ofInt (64 : Nat) (IntKind.wrap IntKind.u64 (IntKind.wrap IntKind.u64 (↑(BitVec.toNat (BitVec.ofInt (64 : Nat) (IntKind.wrap IntKind.u64 (↑(BitVec.toNat (BitVec.ofInt (64 : Nat) (IntKind.wrap IntKind.u64 (↑(BitVec.toNat (BitVec.ofInt (64 : Nat) (Int.fdiv x0 (256 : Int)) &&& BitVec.ofInt (64 : Nat) (71777214294589695 : Int))) : Int)) ||| BitVec.ofInt (64 : Nat) (IntKind.wrap IntKind.u64 (IntKind.wrap IntKind.u64 (↑(BitVec.toNat (BitVec.ofInt (64 : Nat) x0 &&& BitVec.ofInt (64 : Nat) (71777214294589695 : Int))) : Int) * (256 : Int))))) : Int)) &&& BitVec.ofInt (64 : Nat) (281470681808895 : Int))) : Int) * (65536 : Int))))) : Int)) (4294967296 : Int)) ||| BitVec.ofInt (64 : Nat) (IntKind.wrap IntKind.u64 (IntKind.wrap IntKind.u64 (↑(BitVec.toNat (BitVec.ofInt (64 : Nat) (IntKind.wrap IntKind.u64 (↑(BitVec.toNat (BitVec.ofInt (64 : Nat) (Int.fdiv (IntKind.wrap IntKind.u64 (↑(BitVec.toNat (BitVec.ofInt (64 : Nat) (IntKind.wrap IntKind.u64 (↑(BitVec.toNat (BitVec.ofInt (64 : Nat) (Int.fdiv x0 (256 : Int)) &&& BitVec.ofInt (64 : Nat) (71777214294589695 : Int))) : Int)) ||| BitVec.ofInt (64 : Nat) (IntKind.wrap IntKind.u64 (IntKind.wrap IntKind.u64 (↑(BitVec.toNat (BitVec.ofInt (64 : Nat) x0 &&& BitVec.ofInt (64 : Nat) (71777214294589695 : Int))) : Int) * (256 : Int))))) : Int)) (65536 : Int)) &&& BitVec.ofInt (64 : Nat) (281470681808895 : Int))) : Int)) ||| BitVec.ofInt (64 : Nat) (IntKind.wrap IntKind.u64 (IntKind.wrap IntKind.u64 (↑(BitVec.toNat (BitVec.ofInt (64 : Nat) (IntKind.wrap IntKind.u64 (↑(BitVec.toNat (BitVec.ofInt (64 : Nat) (IntKind.wrap IntKind.u64 (↑(BitVec.toNat (BitVec.ofInt (64 : Nat) (Int.fdiv x0 (256 : Int)) &&& BitVec.ofInt (64 : Nat) (71777214294589695 : Int))) : Int)) ||| BitVec.ofInt (64 : Nat) (IntKind.wrap IntKind.u64 (IntKind.wrap IntKind.u64 (↑(BitVec.toNat (BitVec.ofInt (64 : Nat) x0 &&& BitVec.ofInt (64 : Nat) (71777214294589695 : Int))) : Int) * (256 : Int))))) : Int)) &&& BitVec.ofInt (64 : Nat) (281470681808895 : Int))) : Int) * (65536 : Int))))) : Int) * (4294967296 : Int))))) : Int))
noncomputable def az6 (N : Nat) : Pk → Tr Pk := ag s334 w334 (ai5 N)
theorem TY (N : Nat) : au Tryz.prog (334) (az6 N) :=
  (ae af al (Mi N) Tryz.func334 s334 w334 [] (cuts := []) trivial (fun _ => by kernel_rfl) (by decide +kernel) (ai5 N) (fun x => by kernel_rfl))
@[reducible] def s312 : SP := ⟨[.int .u64],[]⟩
noncomputable def XX (N : Nat) : List (Nat × (Pk → Tr Pk)) := [(334,az6 N)]
theorem Mp (N : Nat) : ah Tryz.prog (XX N) := ⟨TY N,trivial⟩
@[reducible] def w312 : List SP := [⟨[.int .u64],[]⟩]
noncomputable def aj1 (N : Nat) : (Int) → Option (Int)
  | x0 =>
  Option.bind (ai5 N (IntKind.wrap IntKind.u64 (↑(BitVec.toNat (BitVec.ofInt (64 : Nat) (IntKind.wrap IntKind.u64 (↑(BitVec.toNat (BitVec.ofInt (64 : Nat) (Int.fdiv (IntKind.wrap IntKind.u64 (↑(BitVec.toNat (BitVec.ofInt (64 : Nat) (IntKind.wrap IntKind.u64 (↑(BitVec.toNat (BitVec.ofInt (64 : Nat) (Int.fdiv (IntKind.wrap IntKind.u64 (↑(BitVec.toNat (BitVec.ofInt (64 : Nat) (IntKind.wrap IntKind.u64 (↑(BitVec.toNat (BitVec.ofInt (64 : Nat) (Int.fdiv x0 (2 : Int)) &&& BitVec.ofInt (64 : Nat) (6148914691236517205 : Int))) : Int)) ||| BitVec.ofInt (64 : Nat) (IntKind.wrap IntKind.u64 (IntKind.wrap IntKind.u64 (↑(BitVec.toNat (BitVec.ofInt (64 : Nat) x0 &&& BitVec.ofInt (64 : Nat) (6148914691236517205 : Int))) : Int) * (2 : Int))))) : Int)) (4 : Int)) &&& BitVec.ofInt (64 : Nat) (3689348814741910323 : Int))) : Int)) ||| BitVec.ofInt (64 : Nat) (IntKind.wrap IntKind.u64 (IntKind.wrap IntKind.u64 (↑(BitVec.toNat (BitVec.ofInt (64 : Nat) (IntKind.wrap IntKind.u64 (↑(BitVec.toNat (BitVec.ofInt (64 : Nat) (IntKind.wrap IntKind.u64 (↑(BitVec.toNat (BitVec.ofInt (64 : Nat) (Int.fdiv x0 (2 : Int)) &&& BitVec.ofInt (64 : Nat) (6148914691236517205 : Int))) : Int)) ||| BitVec.ofInt (64 : Nat) (IntKind.wrap IntKind.u64 (IntKind.wrap IntKind.u64 (↑(BitVec.toNat (BitVec.ofInt (64 : Nat) x0 &&& BitVec.ofInt (64 : Nat) (6148914691236517205 : Int))) : Int) * (2 : Int))))) : Int)) &&& BitVec.ofInt (64 : Nat) (3689348814741910323 : Int))) : Int) * (4 : Int))))) : Int)) (16 : Int)) &&& BitVec.ofInt (64 : Nat) (1085102592571150095 : Int))) : Int)) ||| BitVec.ofInt (64 : Nat) (IntKind.wrap IntKind.u64 (IntKind.wrap IntKind.u64 (↑(BitVec.toNat (BitVec.ofInt (64 : Nat) (IntKind.wrap IntKind.u64 (↑(BitVec.toNat (BitVec.ofInt (64 : Nat) (IntKind.wrap IntKind.u64 (↑(BitVec.toNat (BitVec.ofInt (64 : Nat) (Int.fdiv (IntKind.wrap IntKind.u64 (↑(BitVec.toNat (BitVec.ofInt (64 : Nat) (IntKind.wrap IntKind.u64 (↑(BitVec.toNat (BitVec.ofInt (64 : Nat) (Int.fdiv x0 (2 : Int)) &&& BitVec.ofInt (64 : Nat) (6148914691236517205 : Int))) : Int)) ||| BitVec.ofInt (64 : Nat) (IntKind.wrap IntKind.u64 (IntKind.wrap IntKind.u64 (↑(BitVec.toNat (BitVec.ofInt (64 : Nat) x0 &&& BitVec.ofInt (64 : Nat) (6148914691236517205 : Int))) : Int) * (2 : Int))))) : Int)) (4 : Int)) &&& BitVec.ofInt (64 : Nat) (3689348814741910323 : Int))) : Int)) ||| BitVec.ofInt (64 : Nat) (IntKind.wrap IntKind.u64 (IntKind.wrap IntKind.u64 (↑(BitVec.toNat (BitVec.ofInt (64 : Nat) (IntKind.wrap IntKind.u64 (↑(BitVec.toNat (BitVec.ofInt (64 : Nat) (IntKind.wrap IntKind.u64 (↑(BitVec.toNat (BitVec.ofInt (64 : Nat) (Int.fdiv x0 (2 : Int)) &&& BitVec.ofInt (64 : Nat) (6148914691236517205 : Int))) : Int)) ||| BitVec.ofInt (64 : Nat) (IntKind.wrap IntKind.u64 (IntKind.wrap IntKind.u64 (↑(BitVec.toNat (BitVec.ofInt (64 : Nat) x0 &&& BitVec.ofInt (64 : Nat) (6148914691236517205 : Int))) : Int) * (2 : Int))))) : Int)) &&& BitVec.ofInt (64 : Nat) (3689348814741910323 : Int))) : Int) * (4 : Int))))) : Int)) &&& BitVec.ofInt (64 : Nat) (1085102592571150095 : Int))) : Int) * (16 : Int))))) : Int))) fun y0 =>
  some (y0)
noncomputable def aA3 (N : Nat) : Pk → Tr Pk := ag s312 w312 (aj1 N)
theorem Uf (N : Nat) : au Tryz.prog (312) (aA3 N) :=
  (ae af al (Mp N) Tryz.func312 s312 w312 [] (cuts := []) trivial (fun _ => by kernel_rfl) (by decide +kernel) (aj1 N) (fun x => by kernel_rfl))
@[reducible] def s270 : SP := ⟨[.agg [.int .i64,.int .i64]],[]⟩
noncomputable def Yd (N : Nat) : List (Nat × (Pk → Tr Pk)) := [(310,Ug N),(311,ae3 N),(312,aA3 N)]
theorem MD (N : Nat) : ah Tryz.prog (Yd N) := ⟨zA N,I5 N,Uf N,trivial⟩
@[reducible] def w270 : List SP := [⟨[.int .i64],[]⟩]
noncomputable def VZ (N : Nat) : (Int × Int) → Option (Int)
  | (x0,x1) =>
  Option.bind (Rm N x1) fun y0 =>
  Option.bind (VT N (y0,x0)) fun y1 =>
  Option.bind (aj1 N (IntKind.wrap IntKind.u64 y1)) fun y2 =>
  ac (decide (IntKind.wrap IntKind.i64 ((64 : Int) - y0) < (0 : Int))) (
    none ) (
    some (IntKind.wrap IntKind.i64 (Int.fdiv y2 ((2 : Int) ^ min (Int.toNat (IntKind.wrap IntKind.i64 ((64 : Int) - y0))) (64 : Nat)))))
noncomputable def ae7 (N : Nat) : Pk → Tr Pk := ag s270 w270 (VZ N)
theorem I7 (N : Nat) : au Tryz.prog (270) (ae7 N) :=
  (ae af al (MD N) Tryz.func270 s270 w270 [] (cuts := []) trivial (fun _ => by kernel_rfl) (by decide +kernel) (VZ N) (fun x => by kernel_rfl))
@[reducible] def s269 : SP := ⟨[.adr 0 [],.int .i64,.int .i64],[.var 221 (.agg [.sl 1,.int .i64,.int .i64]),.row (.int .u8) 5]⟩
noncomputable def Ye (N : Nat) : List (Nat × (Pk → Tr Pk)) := [(310,Ug N),(311,ae3 N)]
theorem v8 (N : Nat) : ah Tryz.prog (Ye N) := ⟨zA N,I5 N,trivial⟩
@[reducible] def JM : LD := ⟨30,[0],[(.exit 0,[])],⟨[.adr 0 []],[.var 221 (.agg [.sl 1,.int .i64,.int .i64]),.row (.int .u8) 5]⟩,[(.exit 0,⟨[],[.var 221 (.agg [.sl 1,.int .i64,.int .i64]),.row (.int .u8) 5]⟩)]⟩
abbrev A3 : Type := Int × Int × (List Int)
abbrev An : Type := Int × Int × (List Int)
noncomputable def Ln (N : Nat) (f : A3 → Option An) : A3 → Option An
  | (x0,x1,x2) =>
  ac (decide (x1 ≥ (8 : Int))) (
    ac (decide ((List.length x2 + List.length [IntKind.wrap IntKind.u8 x0]) * (1 : Nat) ≤ (140737488355328 : Nat) ∧ List.length x2 + List.length [IntKind.wrap IntKind.u8 x0] ≤ (140737488355328 : Nat))) (
      Option.bind (f (Int.fdiv x0 (256 : Int),IntKind.wrap IntKind.i64 (x1 - (8 : Int)),x2 ++ [IntKind.wrap IntKind.u8 x0])) fun r => some r) (
      none )) (
    some ((x0,x1,x2)))
noncomputable def rk (N : Nat) : Nat → A3 → Option An
  | 0,_ => none
  | k + 1,x => Ln N (rk N k) x
noncomputable def KE (N : Nat) (k : Nat) : Cut := JM.cut (rk N k)
theorem HK (N : Nat) (k : Nat) : aj Tryz.prog false Tryz.f269 [0] 30 (KE N k) :=
  JM.loopT af al (v8 N) Tryz.f269 [0] (cuts := []) trivial (by decide +kernel) (by kernel_rfl) (Ln N) (rk N) (fun _ => rfl) (fun _ _ => rfl) (fun f x => by kernel_rfl) k
@[reducible] def w269 : List SP := [⟨[.tup []],[.var 221 (.agg [.sl 1,.int .i64,.int .i64]),.row (.int .u8) 5]⟩]
noncomputable def gY (N : Nat) : (Int × Int × Int × Int × (List Int)) → Option (Int × Int × (List Int))
  | (x0,x1,x2,x3,x4) =>
  Option.bind (Rm N x0) fun y0 =>
  Option.bind (VT N (y0,x1)) fun y1 =>
  ac (decide (x3 < (0 : Int))) (
    none ) (
    Option.bind (rk N N (IntKind.wrap IntKind.i64 (↑(BitVec.toNat (BitVec.ofInt (64 : Nat) x2 ||| BitVec.ofInt (64 : Nat) (IntKind.wrap IntKind.i64 (y1 * (2 : Int) ^ min (Int.toNat x3) (64 : Nat))))) : Int),IntKind.wrap IntKind.i64 (x3 + y0),x4)) fun y2 =>
    some ((y2.1,y2.2.1,y2.2.2)))
noncomputable def Gz (N : Nat) : Pk → Tr Pk := ag s269 w269 (gY N)
theorem j6 (N : Nat) : au Tryz.prog (269) (Gz N) :=
  (ae af al (v8 N) Tryz.func269 s269 w269 [0] (cuts := [(30,KE N N)]) ⟨HK N N,trivial⟩ (fun _ => by kernel_rfl) (by decide +kernel) (gY N) (fun x => by kernel_rfl))
@[reducible] def s222 : SP := ⟨[.adr 0 [],.agg [.int .i64,.int .i64]],[.var 221 (.agg [.sl 1,.int .i64,.int .i64]),.row (.int .u8) 5]⟩
noncomputable def Yv (N : Nat) : List (Nat × (Pk → Tr Pk)) := [(270,ae7 N),(269,Gz N)]
theorem ML (N : Nat) : ah Tryz.prog (Yv N) := ⟨I7 N,j6 N,trivial⟩
@[reducible] def w222 : List SP := [⟨[.tup []],[.var 221 (.agg [.sl 1,.int .i64,.int .i64]),.row (.int .u8) 5]⟩]
noncomputable def DW (N : Nat) : (Int × Int × Int × Int × (List Int)) → Option (Int × Int × (List Int))
  | (x0,x1,x2,x3,x4) =>
  Option.bind (VZ N (x0,x1)) fun y0 =>
  Option.bind (gY N (x1,y0,x2,x3,x4)) fun y1 =>
  some ((y1.1,y1.2.1,y1.2.2))
noncomputable def UF (N : Nat) : Pk → Tr Pk := ag s222 w222 (DW N)
theorem zD (N : Nat) : au Tryz.prog (222) (UF N) :=
  (ae af al (ML N) Tryz.func222 s222 w222 [0] (cuts := []) trivial (fun _ => by kernel_rfl) (by decide +kernel) (DW N) (fun x => by kernel_rfl))
@[reducible] def s223 : SP := ⟨[.adr 0 []],[.var 221 (.agg [.sl 1,.int .i64,.int .i64]),.row (.int .u8) 5]⟩
noncomputable def Yu (N : Nat) : List (Nat × (Pk → Tr Pk)) := [(269,Gz N)]
theorem MK (N : Nat) : ah Tryz.prog (Yu N) := ⟨j6 N,trivial⟩
@[reducible] def w223 : List SP := [⟨[.tup []],[.var 221 (.agg [.sl 1,.int .i64,.int .i64]),.row (.int .u8) 5]⟩]
noncomputable def Oc (N : Nat) : (Int × Int × (List Int)) → Option (Int × Int × (List Int))
  | (x0,x1,x2) =>
  Option.bind (gY N (Int.tmod (IntKind.wrap IntKind.i64 ((8 : Int) - x1)) (8 : Int),(0 : Int),x0,x1,x2)) fun y0 =>
  some ((y0.1,y0.2.1,y0.2.2))
noncomputable def UE (N : Nat) : Pk → Tr Pk := ag s223 w223 (Oc N)
theorem zC (N : Nat) : au Tryz.prog (223) (UE N) :=
  (ae af al (MK N) Tryz.func223 s223 w223 [0] (cuts := []) trivial (fun _ => by kernel_rfl) (by decide +kernel) (Oc N) (fun x => by kernel_rfl))
@[reducible] def y3 : Ty := (.cons (.sl (.int .u8)) (.cons (.int .i64) (.cons (.int .i64) .unit)))
@[reducible] def s193 : SP := ⟨[.radr y3 [.i 0 3]],[]⟩
noncomputable def YM (N : Nat) : List (Nat × (Pk → Tr Pk)) := []
theorem MY (N : Nat) : ah Tryz.prog (YM N) := trivial
@[reducible] def w193 : List SP := [⟨[.str],[]⟩]
noncomputable def RB (N : Nat) : (((List Int) × (Int × (Int × Unit)))) → Option (ByteArray)
  | x0 =>
  ac (decide (x0.2.2.1 > (0 : Int))) (
    ac (decide ((↑(ByteArray.size (aB x0.1) + ByteArray.size (aB [IntKind.wrap IntKind.u8 x0.2.1])) : Int) > (9223372036854775807 : Int))) (
      none ) (
      some (aB x0.1 ++ aB [IntKind.wrap IntKind.u8 x0.2.1]))) (
    some (aB x0.1))
noncomputable def af5 (N : Nat) : Pk → Tr Pk := ag s193 w193 (RB N)
theorem Je (N : Nat) : au Tryz.prog (193) (af5 N) :=
  (ae af al (MY N) Tryz.func193 s193 w193 [] (cuts := []) trivial (fun _ => by kernel_rfl) (by decide +kernel) (RB N) (fun x => by kernel_rfl))
@[reducible] def s224 : SP := ⟨[.str],[]⟩
noncomputable def Yt (N : Nat) : List (Nat × (Pk → Tr Pk)) := [(270,ae7 N)]
theorem wn (N : Nat) : ah Tryz.prog (Yt N) := ⟨I7 N,trivial⟩
@[reducible] def JR : LD := ⟨58,[10,9,8,3],[(.ret,[2]),(.exit 0,[3])],⟨[.int .i64,.int .i64,.sl 0,.sl 0],[.row (.int .u8) 5]⟩,[(.exit 0,⟨[.sl 0],[.row (.int .u8) 5]⟩)]⟩
abbrev A6 : Type := Int × Int × (List Int)
abbrev Aq : Type := (List Int)
noncomputable def Lp (N : Nat) (f : A6 → Option Aq) : A6 → Option Aq
  | (x0,x1,x2) =>
  ac (decide (x0 < x1)) (
    ac (within x0 (List.length x2)) (
      Option.bind (x2[Int.toNat x0]?) fun y0 =>
      Option.bind (VZ N (IntKind.wrap IntKind.i64 y0,(8 : Int))) fun y1 =>
      ac (within x0 (List.length x2)) (
        Option.bind (x2[Int.toNat x0]?) fun y2 =>
        Option.bind (f (IntKind.wrap IntKind.i64 (x0 + (1 : Int)),x1,List.set x2 (Int.toNat x0) (IntKind.wrap IntKind.u8 y1))) fun r => some r) (
        none )) (
      none )) (
    some (x2))
noncomputable def rm (N : Nat) : Nat → A6 → Option Aq
  | 0,_ => none
  | k + 1,x => Lp N (rm N k) x
noncomputable def KI (N : Nat) (k : Nat) : Cut := JR.cut (rm N k)
theorem HP (N : Nat) (k : Nat) : aj Tryz.prog false Tryz.f224 [] 58 (KI N k) :=
  JR.loopT af al (wn N) Tryz.f224 [] (cuts := []) trivial (by decide +kernel) (by kernel_rfl) (Lp N) (rm N) (fun _ => rfl) (fun _ _ => rfl) (fun f x => by kernel_rfl) k
@[reducible] def w224 : List SP := [⟨[.str],[]⟩]
noncomputable def ak4 (N : Nat) : (ByteArray) → Option (ByteArray)
  | x0 =>
  ac (decide (ByteArray.size x0 ≤ (140737488355328 : Nat))) (
    Option.bind (rm N N ((0 : Int),(↑(List.length (bytesOf x0)) : Int),bytesOf x0)) fun y0 =>
    some (aB y0)) (
    none )
noncomputable def aC5 (N : Nat) : Pk → Tr Pk := ag s224 w224 (ak4 N)
theorem UD (N : Nat) : au Tryz.prog (224) (aC5 N) :=
  (ae af al (wn N) Tryz.func224 s224 w224 [] (cuts := [(58,KI N N)]) ⟨HP N N,trivial⟩ (fun _ => by kernel_rfl) (by decide +kernel) (ak4 N) (fun x => by kernel_rfl))
@[reducible] def s158 : SP := ⟨[.agg [.agg [.int .i64,.int .i64,.bool,.bool,.int .i64,.int .i64,.int .i64,.int .i64,.int .i64,.int .i64]],.ro (.int .i64),.int .i64,.adr 0 []],[.var 200 (.agg [.sl 1,.mp 2]),.row (.int .i64) 3,.map (.int .i64) (.int .i64)]⟩
noncomputable def YX (N : Nat) : List (Nat × (Pk → Tr Pk)) := [(211,af3 N),(153,U5 N),(222,UF N),(223,UE N),(154,NY N),(155,QG N),(193,af5 N),(224,aC5 N)]
theorem nL (N : Nat) : ah Tryz.prog (YX N) := ⟨Jc N,zF N,zD N,zC N,mE N,qM N,Je N,UD N,trivial⟩
@[reducible] def uH : LD := ⟨32034,[36,35,2,1,9,4,12,34,3,10,11],[(.ret,[8]),(.exit 2,[12,4,9,1,2,3,10,11]),(.exit 1,[12,4,9,1,2,3,10,11]),(.exit 0,[9,4,3,11])],⟨[.int .i64,.int .i64,.int .i64,.ro (.int .i64),.int .i64,.adr 1 [],.int .i64,.ro (.int .i64),.adr 0 [],.int .i64,.adr 2 []],[.var 200 (.agg [.sl 3,.mp 4]),.var 140 (.agg [.agg [.int .i64,.int .i64,.bool,.bool,.int .i64,.int .i64,.int .i64,.int .i64,.int .i64,.int .i64]]),.var 221 (.agg [.sl 5,.int .i64,.int .i64]),.row (.int .i64) 3,.map (.int .i64) (.int .i64),.row (.int .u8) 5]⟩,[(.exit 2,⟨[.int .i64,.adr 1 [],.int .i64,.ro (.int .i64),.int .i64,.adr 0 [],.int .i64,.adr 2 []],[.var 200 (.agg [.sl 3,.mp 4]),.var 140 (.agg [.agg [.int .i64,.int .i64,.bool,.bool,.int .i64,.int .i64,.int .i64,.int .i64,.int .i64,.int .i64]]),.var 221 (.agg [.sl 5,.int .i64,.int .i64]),.row (.int .i64) 3,.map (.int .i64) (.int .i64),.row (.int .u8) 5]⟩)]⟩
abbrev lD : Type := Int × Int × Int × (List Int) × Int × Int × (List Int) × Int × Int × Int × Bool × Bool × Int × Int × Int × Int × Int × Int × Int × Int × (List Int) × (List (Int × Int)) × (List Int)
abbrev lu : Type := Int × Int × (List Int) × Int × Int × Int × Int × Bool × Bool × Int × Int × Int × Int × Int × Int × Int × Int × (List Int) × (List (Int × Int)) × (List Int)
noncomputable def vd (N : Nat) (f : lD → Option lu) : lD → Option lu
  | (x0,x1,x2,x3,x4,x5,x6,x7,x8,x9,x10,x11,x12,x13,x14,x15,x16,x17,x18,x19,x20,x21,x22) =>
  ac (decide (x0 < x1)) (
    ac (within x0 (List.length x6)) (
      Option.bind (x6[Int.toNat x0]?) fun y0 =>
      Option.bind (RF N (y0,x20,x21)) fun y1 =>
      Option.bind (DW N (y1.1,x7,x18,x19,x22)) fun y2 =>
      Option.bind (f (IntKind.wrap IntKind.i64 (x0 + (1 : Int)),x1,x2,x3,x4,x5,x6,x7,x8,x9,x10,x11,x12,x13,x14,x15,x16,x17,y2.1,y2.2.1,y1.2.1,y1.2.2,y2.2.2)) fun r => some r) (
      none )) (
    some ((x5,x4,x3,x2,x7,x8,x9,x10,x11,x12,x13,x14,x15,x16,x17,x18,x19,x20,x21,x22)))
noncomputable def hK (N : Nat) : Nat → lD → Option lu
  | 0,_ => none
  | k + 1,x => vd N (hK N k) x
noncomputable def lM (N : Nat) (k : Nat) : Cut := uH.cut (hK N k)
theorem kO (N : Nat) (k : Nat) : aj Tryz.prog false Tryz.f158 [0] 32034 (lM N k) :=
  uH.loopT af al (nL N) Tryz.f158 [0] (cuts := []) trivial (by decide +kernel) (by kernel_rfl) (vd N) (hK N) (fun _ => rfl) (fun _ _ => rfl) (fun f x => by kernel_rfl) k
@[reducible] def DD : LD := ⟨250,[4,9,1,2,12,3,10,11],[(.ret,[8]),(.exit 0,[9,4,3,11])],⟨[.adr 1 [],.int .i64,.ro (.int .i64),.int .i64,.int .i64,.adr 0 [],.int .i64,.adr 2 []],[.var 200 (.agg [.sl 3,.mp 4]),.var 140 (.agg [.agg [.int .i64,.int .i64,.bool,.bool,.int .i64,.int .i64,.int .i64,.int .i64,.int .i64,.int .i64]]),.var 221 (.agg [.sl 5,.int .i64,.int .i64]),.row (.int .i64) 3,.map (.int .i64) (.int .i64),.row (.int .u8) 5]⟩,[(.exit 0,⟨[.int .i64,.adr 1 [],.adr 0 [],.adr 2 []],[.var 200 (.agg [.sl 3,.mp 4]),.var 140 (.agg [.agg [.int .i64,.int .i64,.bool,.bool,.int .i64,.int .i64,.int .i64,.int .i64,.int .i64,.int .i64]]),.var 221 (.agg [.sl 5,.int .i64,.int .i64]),.row (.int .i64) 3,.map (.int .i64) (.int .i64),.row (.int .u8) 5]⟩)]⟩
abbrev uw : Type := Int × (List Int) × Int × Int × Int × Int × Int × Bool × Bool × Int × Int × Int × Int × Int × Int × Int × Int × (List Int) × (List (Int × Int)) × (List Int)
abbrev tH : Type := Int × Int × Int × Bool × Bool × Int × Int × Int × Int × Int × Int × Int × Int × (List Int) × (List (Int × Int)) × (List Int)
noncomputable def Fs (N : Nat) (f : uw → Option tH) : uw → Option tH
  | (x0,x1,x2,x3,x4,x5,x6,x7,x8,x9,x10,x11,x12,x13,x14,x15,x16,x17,x18,x19) =>
  ac (decide (x3 < (↑(List.length x1) : Int))) (
    ac (decide ((0 : Int) ≤ IntKind.wrap IntKind.i64 (x3 + x2) ∧ IntKind.wrap IntKind.i64 (x3 + x2) ≤ (↑(List.length x1) : Int))) (
      ac (decide ((0 : Int) ≤ x3 ∧ x3 ≤ (↑(Int.toNat (IntKind.wrap IntKind.i64 (x3 + x2))) : Int))) (
        Option.bind (hK N N ((0 : Int),(↑(List.length (List.take (Int.toNat (IntKind.wrap IntKind.i64 (x3 + x2)) - Int.toNat x3) (List.drop (Int.toNat x3) x1))) : Int),x2,x1,x0,x3,List.take (Int.toNat (IntKind.wrap IntKind.i64 (x3 + x2)) - Int.toNat x3) (List.drop (Int.toNat x3) x1),x4,x5,x6,x7,x8,x9,x10,x11,x12,x13,x14,x15,x16,x17,x18,x19)) fun (y0_0,y0_1,y0_2,y0_3,y0_4,y0_5,y0_6,y0_7,y0_8,y0_9,y0_10,y0_11,y0_12,y0_13,y0_14,y0_15,y0_16,y0_17,y0_18,y0_19) =>
        Option.bind (Oc N (y0_15,y0_16,y0_19)) fun y1 =>
        Option.bind (f (y0_1,y0_2,y0_3,IntKind.wrap IntKind.i64 (y0_0 + y0_3),y0_4,y0_5,y0_6,y0_7,y0_8,y0_9,y0_10,y0_11,y0_12,y0_13,y0_14,y1.1,y1.2.1,y0_17,y0_18,y1.2.2)) fun r => some r) (
        none )) (
      none )) (
    some ((x0,x5,x6,x7,x8,x9,x10,x11,x12,x13,x14,x15,x16,x17,x18,x19)))
noncomputable def ni (N : Nat) : Nat → uw → Option tH
  | 0,_ => none
  | k + 1,x => Fs N (ni N k) x
noncomputable def ET (N : Nat) (k : Nat) : Cut := DD.cut (ni N k)
theorem ES (N : Nat) (k : Nat) : aj Tryz.prog false Tryz.f158 [0] 250 (ET N k) :=
  DD.loopT af al (nL N) Tryz.f158 [0] (cuts := [(32034,lM N N)]) ⟨kO N N,trivial⟩ (by decide +kernel) (by kernel_rfl) (Fs N) (ni N) (fun _ => rfl) (fun _ _ => rfl) (fun f x => by kernel_rfl) k
@[reducible] def w158 : List SP := [⟨[.str],[.var 200 (.agg [.sl 1,.mp 2]),.row (.int .i64) 3,.map (.int .i64) (.int .i64)]⟩]
noncomputable def al2 (N : Nat) : (Int × Int × Bool × Bool × Int × Int × Int × Int × Int × Int × (List Int) × Int × (List Int) × (List (Int × Int))) → Option (ByteArray × (List Int) × (List (Int × Int)))
  | (x0,x1,x2,x3,x4,x5,x6,x7,x8,x9,x10,x11,x12,x13) =>
  Option.bind (Oe N (↑(List.length x12) : Int)) fun y0 =>
  Option.bind (ni N N ((↑(List.length x12) : Int),x10,x11,(0 : Int),y0,x0,x1,x2,x3,x4,x5,x6,x7,x8,x9,(0 : Int),(0 : Int),x12,x13,[])) fun (y1_0,y1_1,y1_2,y1_3,y1_4,y1_5,y1_6,y1_7,y1_8,y1_9,y1_10,y1_11,y1_12,y1_13,y1_14,y1_15) =>
  Option.bind (vD N y1_0) fun y2 =>
  Option.bind (Hb N (y1_1,y1_2,y1_3,y1_4,y1_5,y1_6,y1_7,y1_8,y1_9,y1_10,y1_13)) fun y3 =>
  ac (decide ((↑(ByteArray.size y2 + ByteArray.size y3) : Int) > (9223372036854775807 : Int))) (
    none ) (
    Option.bind (RB N (y1_15,y1_11,y1_12,())) fun y4 =>
    Option.bind (ak4 N y4) fun y5 =>
    ac (decide ((↑(ByteArray.size (y2 ++ y3) + ByteArray.size y5) : Int) > (9223372036854775807 : Int))) (
      none ) (
      some ((y2 ++ y3 ++ y5,y1_13,y1_14))))
noncomputable def aE7 (N : Nat) : Pk → Tr Pk := ag s158 w158 (al2 N)
theorem U2 (N : Nat) : au Tryz.prog (158) (aE7 N) :=
  (ae af al (nL N) Tryz.func158 s158 w158 [0] (cuts := [(32034,lM N N),(250,ET N N)]) ⟨kO N N,ES N N,trivial⟩ (fun _ => by kernel_rfl) (by decide +kernel) (al2 N) (fun x => by kernel_rfl))
@[reducible] def s159 : SP := ⟨[.agg [.agg [.int .i64,.int .i64,.bool,.bool,.int .i64,.int .i64,.int .i64,.int .i64,.int .i64,.int .i64]],.ro y0,.adr 0 []],[.var 200 (.agg [.sl 1,.mp 2]),.row (.int .i64) 3,.map (.int .i64) (.int .i64)]⟩
noncomputable def YW (N : Nat) : List (Nat × (Pk → Tr Pk)) := [(154,NY N),(155,QG N),(153,U5 N),(221,af2 N)]
theorem wA (N : Nat) : ah Tryz.prog (YW N) := ⟨mE N,qM N,zF N,Jb N,trivial⟩
@[reducible] def JX : LD := ⟨58,[7,27,26,25,2],[(.ret,[6]),(.exit 0,[7])],⟨[.str,.int .i64,.int .i64,.ro y0,.adr 0 []],[.var 200 (.agg [.sl 1,.mp 2]),.row (.int .i64) 3,.map (.int .i64) (.int .i64)]⟩,[(.exit 0,⟨[.str],[.var 200 (.agg [.sl 1,.mp 2]),.row (.int .i64) 3,.map (.int .i64) (.int .i64)]⟩)]⟩
abbrev Ba : Type := ByteArray × Int × Int × (List (Int × (Int × Unit))) × (List Int) × (List (Int × Int))
abbrev Av : Type := ByteArray × (List Int) × (List (Int × Int))
noncomputable def Ls (N : Nat) (f : Ba → Option Av) : Ba → Option Av
  | (x0,x1,x2,x3,x4,x5) =>
  ac (decide (x1 < x2)) (
    ac (within x1 (List.length x3)) (
      Option.bind (x3[Int.toNat x1]?) fun y0 =>
      Option.bind (RF N (y0.1,x4,x5)) fun y1 =>
      ac (y0.2.1 == (1 : Int)) (
        Option.bind (vD N y1.1) fun y2 =>
        ac (decide ((↑(ByteArray.size x0 + ByteArray.size y2) : Int) > (9223372036854775807 : Int))) (
          none ) (
          Option.bind (f (x0 ++ y2,IntKind.wrap IntKind.i64 (x1 + (1 : Int)),x2,x3,y1.2.1,y1.2.2)) fun r => some r)) (
        Option.bind (vD N (IntKind.wrap IntKind.i64 (↑(BitVec.toNat (BitVec.ofInt (64 : Nat) (128 : Int) ||| BitVec.ofInt (64 : Nat) y1.1)) : Int))) fun y3 =>
        Option.bind (V3 N y0.2.1) fun y4 =>
        ac (decide ((↑(ByteArray.size y3 + ByteArray.size y4) : Int) > (9223372036854775807 : Int))) (
          none ) (
          ac (decide ((↑(ByteArray.size x0 + ByteArray.size (y3 ++ y4)) : Int) > (9223372036854775807 : Int))) (
            none ) (
            Option.bind (f (x0 ++ (y3 ++ y4),IntKind.wrap IntKind.i64 (x1 + (1 : Int)),x2,x3,y1.2.1,y1.2.2)) fun r => some r)))) (
      none )) (
    some ((x0,x4,x5)))
noncomputable def rq (N : Nat) : Nat → Ba → Option Av
  | 0,_ => none
  | k + 1,x => Ls N (rq N k) x
noncomputable def KO (N : Nat) (k : Nat) : Cut := JX.cut (rq N k)
theorem HV (N : Nat) (k : Nat) : aj Tryz.prog false Tryz.f159 [0] 58 (KO N k) :=
  JX.loopT af al (wA N) Tryz.f159 [0] (cuts := []) trivial (by decide +kernel) (by kernel_rfl) (Ls N) (rq N) (fun _ => rfl) (fun _ _ => rfl) (fun f x => by kernel_rfl) k
@[reducible] def w159 : List SP := [⟨[.str],[.var 200 (.agg [.sl 1,.mp 2]),.row (.int .i64) 3,.map (.int .i64) (.int .i64)]⟩]
noncomputable def V9 (N : Nat) : (Int × Int × Bool × Bool × Int × Int × Int × Int × Int × Int × (List (Int × (Int × Unit))) × (List Int) × (List (Int × Int))) → Option (ByteArray × (List Int) × (List (Int × Int)))
  | (x0,x1,x2,x3,x4,x5,x6,x7,x8,x9,x10,x11,x12) =>
  Option.bind (vD N (IntKind.wrap IntKind.i64 ((128 : Int) + (↑(List.length x11) : Int)))) fun y0 =>
  Option.bind (Hb N (x0,x1,x2,x3,x4,x5,x6,x7,x8,x9,x11)) fun y1 =>
  ac (decide ((↑(ByteArray.size y0 + ByteArray.size y1) : Int) > (9223372036854775807 : Int))) (
    none ) (
    Option.bind (rq N N (y0 ++ y1,(0 : Int),(↑(List.length x10) : Int),x10,x11,x12)) fun y2 =>
    some ((y2.1,y2.2.1,y2.2.2)))
noncomputable def aE6 (N : Nat) : Pk → Tr Pk := ag s159 w159 (V9 N)
theorem U1 (N : Nat) : au Tryz.prog (159) (aE6 N) :=
  (ae af al (wA N) Tryz.func159 s159 w159 [0] (cuts := [(58,KO N N)]) ⟨HV N N,trivial⟩ (fun _ => by kernel_rfl) (by decide +kernel) (V9 N) (fun x => by kernel_rfl))
@[reducible] def s92 : SP := ⟨[.agg [.agg [.int .i64,.int .i64,.bool,.bool,.int .i64,.int .i64,.int .i64,.int .i64,.int .i64,.int .i64]],.ro (.int .i64),.int .i64],[]⟩
noncomputable def ao1 (N : Nat) : List (Nat × (Pk → Tr Pk)) := [(153,U5 N),(154,NY N),(155,QG N),(156,aE9 N),(157,aE8 N),(158,aE7 N),(159,aE6 N)]
theorem rD (N : Nat) : ah Tryz.prog (ao1 N) := ⟨zF N,mE N,qM N,U4 N,U3 N,U2 N,U1 N,trivial⟩
@[reducible] def QK : LD := ⟨58,[21,20,3,1,2,19,7],[(.ret,[6]),(.exit 0,[2,1,3,7])],⟨[.int .i64,.int .i64,.adr 0 [],.ro (.int .i64),.int .i64,.ro (.int .i64),.adr 1 []],[.var 140 (.agg [.agg [.int .i64,.int .i64,.bool,.bool,.int .i64,.int .i64,.int .i64,.int .i64,.int .i64,.int .i64]]),.var 200 (.agg [.sl 2,.mp 3]),.row (.int .i64) 3,.map (.int .i64) (.int .i64)]⟩,[(.exit 0,⟨[.int .i64,.ro (.int .i64),.adr 0 [],.adr 1 []],[.var 140 (.agg [.agg [.int .i64,.int .i64,.bool,.bool,.int .i64,.int .i64,.int .i64,.int .i64,.int .i64,.int .i64]]),.var 200 (.agg [.sl 2,.mp 3]),.row (.int .i64) 3,.map (.int .i64) (.int .i64)]⟩)]⟩
abbrev GN : Type := Int × Int × (List Int) × Int × (List Int) × Int × Int × Bool × Bool × Int × Int × Int × Int × Int × Int × (List Int) × (List (Int × Int))
abbrev GA : Type := Int × (List Int) × Int × Int × Bool × Bool × Int × Int × Int × Int × Int × Int × (List Int) × (List (Int × Int))
noncomputable def Sk (N : Nat) (f : GN → Option GA) : GN → Option GA
  | (x0,x1,x2,x3,x4,x5,x6,x7,x8,x9,x10,x11,x12,x13,x14,x15,x16) =>
  ac (decide (x0 < x1)) (
    ac (within x0 (List.length x4)) (
      Option.bind (x4[Int.toNat x0]?) fun y0 =>
      Option.bind (RF N (y0,x15,x16)) fun y1 =>
      Option.bind (f (IntKind.wrap IntKind.i64 (x0 + (1 : Int)),x1,x2,x3,x4,x5,x6,x7,x8,x9,x10,x11,x12,x13,x14,y1.2.1,y1.2.2)) fun r => some r) (
      none )) (
    some ((x3,x2,x5,x6,x7,x8,x9,x10,x11,x12,x13,x14,x15,x16)))
noncomputable def Bj (N : Nat) : Nat → GN → Option GA
  | 0,_ => none
  | k + 1,x => Sk N (Bj N k) x
noncomputable def Hi (N : Nat) (k : Nat) : Cut := QK.cut (Bj N k)
theorem xQ (N : Nat) (k : Nat) : aj Tryz.prog false Tryz.f92 [] 58 (Hi N k) :=
  QK.loopT af al (rD N) Tryz.f92 [] (cuts := []) trivial (by decide +kernel) (by kernel_rfl) (Sk N) (Bj N) (fun _ => rfl) (fun _ _ => rfl) (fun f x => by kernel_rfl) k
@[reducible] def xc : LD := ⟨16378,[13,79,78,77],[(.ret,[6]),(.exit 2,[13])],⟨[.str,.int .i64,.int .i64,.sl 0],[.row (.str) 9]⟩,[(.exit 2,⟨[.str],[]⟩)]⟩
abbrev oQ : Type := ByteArray × Int × Int × (List ByteArray)
abbrev oz : Type := ByteArray
noncomputable def xX (N : Nat) (f : oQ → Option oz) : oQ → Option oz
  | (x0,x1,x2,x3) =>
  ac (decide (x1 < x2)) (
    ac (within x1 (List.length x3)) (
      Option.bind (x3[Int.toNat x1]?) fun y0 =>
      ac (decide ((↑(ByteArray.size y0) : Int) < (↑(ByteArray.size x0) : Int))) (
        Option.bind (f (y0,IntKind.wrap IntKind.i64 (x1 + (1 : Int)),x2,x3)) fun r => some r) (
        Option.bind (f (x0,IntKind.wrap IntKind.i64 (x1 + (1 : Int)),x2,x3)) fun r => some r)) (
      none )) (
    some (x0))
noncomputable def dc (N : Nat) : Nat → oQ → Option oz
  | 0,_ => none
  | k + 1,x => xX N (dc N k) x
noncomputable def xR (N : Nat) (k : Nat) : Cut := xc.cut (dc N k)
theorem Bz (N : Nat) (k : Nat) : aj Tryz.prog false Tryz.f92 [] 16378 (xR N k) :=
  xc.loopT af al (rD N) Tryz.f92 [] (cuts := [(58,Hi N N)]) ⟨xQ N N,trivial⟩ (by decide +kernel) (by kernel_rfl) (xX N) (dc N) (fun _ => rfl) (fun _ _ => rfl) (fun f x => by kernel_rfl) k
@[reducible] def w92 : List SP := [⟨[.str],[]⟩]
noncomputable def F92 (N : Nat) : (Int × Int × Bool × Bool × Int × Int × Int × Int × Int × Int × (List Int) × Int) → Option (ByteArray)
  | (x0,x1,x2,x3,x4,x5,x6,x7,x8,x9,x10,x11) =>
  Option.bind (Bj N N ((0 : Int),(↑(List.length x10) : Int),x10,x11,x10,x0,x1,x2,x3,x4,x5,x6,x7,x8,x9,[],[])) fun (y0_0,y0_1,y0_2,y0_3,y0_4,y0_5,y0_6,y0_7,y0_8,y0_9,y0_10,y0_11,y0_12,y0_13) =>
  ac ((↑(List.length y0_12) : Int) == (1 : Int)) (
    Option.bind (vD N (1 : Int)) fun y1 =>
    Option.bind (Hb N (y0_2,y0_3,y0_4,y0_5,y0_6,y0_7,y0_8,y0_9,y0_10,y0_11,y0_12)) fun y2 =>
    ac (decide ((↑(ByteArray.size y1 + ByteArray.size y2) : Int) > (9223372036854775807 : Int))) (
      none ) (
      some (y1 ++ y2))) (
    Option.bind (al4 N y0_1) fun y3 =>
    Option.bind (vD N (0 : Int)) fun y4 =>
    Option.bind (Hb N (y0_2,y0_3,y0_4,y0_5,y0_6,y0_7,y0_8,y0_9,y0_10,y0_11,y0_1)) fun y5 =>
    ac (decide ((↑(ByteArray.size y4 + ByteArray.size y5) : Int) > (9223372036854775807 : Int))) (
      none ) (
      Option.bind (al3 N (y0_2,y0_3,y0_4,y0_5,y0_6,y0_7,y0_8,y0_9,y0_10,y0_11,y3)) fun y6 =>
      ac (decide ((↑(List.length y0_12) : Int) ≤ (16 : Int))) (
        Option.bind (al2 N (y0_2,y0_3,y0_4,y0_5,y0_6,y0_7,y0_8,y0_9,y0_10,y0_11,y0_1,y0_0,y0_12,y0_13)) fun y7 =>
        ac (decide ((List.length [y4 ++ y5,y6] + List.length [y7.1]) * (16 : Nat) ≤ (140737488355328 : Nat) ∧ List.length [y4 ++ y5,y6] + List.length [y7.1] ≤ (140737488355328 : Nat))) (
          ac (decide ((↑(List.length y0_12) : Int) < (128 : Int))) (
            Option.bind (V9 N (y0_2,y0_3,y0_4,y0_5,y0_6,y0_7,y0_8,y0_9,y0_10,y0_11,y3,y7.2.1,y7.2.2)) fun y8 =>
            ac (decide ((List.length [y4 ++ y5,y6,y7.1] + List.length [y8.1]) * (16 : Nat) ≤ (140737488355328 : Nat) ∧ List.length [y4 ++ y5,y6,y7.1] + List.length [y8.1] ≤ (140737488355328 : Nat))) (
              ac (within (0 : Int) (List.length [y4 ++ y5,y6,y7.1,y8.1])) (
                Option.bind (dc N N (y4 ++ y5,(0 : Int),(↑(List.length [y4 ++ y5,y6,y7.1,y8.1]) : Int),[y4 ++ y5,y6,y7.1,y8.1])) fun y9 =>
                some (y9)) (
                none )) (
              none )) (
            ac (within (0 : Int) (List.length [y4 ++ y5,y6,y7.1])) (
              Option.bind (dc N N (y4 ++ y5,(0 : Int),(↑(List.length [y4 ++ y5,y6,y7.1]) : Int),[y4 ++ y5,y6,y7.1])) fun y10 =>
              some (y10)) (
              none ))) (
          none )) (
        ac (decide ((↑(List.length y0_12) : Int) < (128 : Int))) (
          Option.bind (V9 N (y0_2,y0_3,y0_4,y0_5,y0_6,y0_7,y0_8,y0_9,y0_10,y0_11,y3,y0_12,y0_13)) fun y11 =>
          ac (decide ((List.length [y4 ++ y5,y6] + List.length [y11.1]) * (16 : Nat) ≤ (140737488355328 : Nat) ∧ List.length [y4 ++ y5,y6] + List.length [y11.1] ≤ (140737488355328 : Nat))) (
            ac (within (0 : Int) (List.length [y4 ++ y5,y6,y11.1])) (
              Option.bind (dc N N (y4 ++ y5,(0 : Int),(↑(List.length [y4 ++ y5,y6,y11.1]) : Int),[y4 ++ y5,y6,y11.1])) fun y12 =>
              some (y12)) (
              none )) (
            none )) (
          ac (within (0 : Int) (List.length [y4 ++ y5,y6])) (
            Option.bind (dc N N (y4 ++ y5,(0 : Int),(↑(List.length [y4 ++ y5,y6]) : Int),[y4 ++ y5,y6])) fun y13 =>
            some (y13)) (
            none )))))
noncomputable def T92 (N : Nat) : Pk → Tr Pk := ag s92 w92 (F92 N)
theorem aa7 (N : Nat) : au Tryz.prog (92) (T92 N) :=
  (ae af al (rD N) Tryz.func92 s92 w92 [] (cuts := [(58,Hi N N),(16378,xR N N)]) ⟨xQ N N,Bz N N,trivial⟩ (fun _ => by kernel_rfl) (by decide +kernel) (F92 N) (fun x => by kernel_rfl))
@[reducible] def s34 : SP := ⟨[.agg [.int .i64,.int .i64,.bool,.bool,.int .i64,.int .i64,.int .i64,.int .i64,.int .i64,.int .i64],.int .i64,.int .i64,.sl 0],[.row (.int .i64) 3]⟩
noncomputable def aq4 (N : Nat) : List (Nat × (Pk → Tr Pk)) := [(35,T35 N),(91,T91 N),(82,T82 N),(92,T92 N),(62,SN s62.I (T62 N) (ab9 N))]
theorem iy (N : Nat) : ah Tryz.prog (aq4 N) := ⟨zx N,aa8 N,Gv N,aa7 N,kW (Qv N) (IJ N),trivial⟩
@[reducible] def en : LD := ⟨518554,[15,46,45,11,12,38,39,40,1,10,14],[(.ret,[8,9]),(.exit 2,[15,14,40,39,38,12,11,1,10]),(.exit 1,[40,39,38,12,11,1,10]),(.exit 0,[12])],⟨[.sl 0,.int .i64,.int .i64,.adr 1 [],.adr 2 [],.sl 3,.int .i64,.int .i64,.int .i64,.sl 4,.adr 5 []],[.row (.int .i64) 3,.var 140 (.agg [.agg [.int .i64,.int .i64,.bool,.bool,.int .i64,.int .i64,.int .i64,.int .i64,.int .i64,.int .i64]]),.var 95 (.agg [.nilp,.sl 6]),.row y1 126,.row (.int .i64) 3,.var 126 (.agg [.int .i64,.int .i64,.int .i64,.int .i64]),.row (.int .u8) 5]⟩,[(.exit 2,⟨[.sl 0,.adr 1 [],.int .i64,.int .i64,.sl 2,.adr 3 [],.adr 4 [],.int .i64,.sl 5],[.row (.int .i64) 3,.var 126 (.agg [.int .i64,.int .i64,.int .i64,.int .i64]),.row y1 126,.var 95 (.agg [.nilp,.sl 6]),.var 140 (.agg [.agg [.int .i64,.int .i64,.bool,.bool,.int .i64,.int .i64,.int .i64,.int .i64,.int .i64,.int .i64]]),.row (.int .i64) 3,.row (.int .u8) 5]⟩)]⟩
abbrev lA : Type := Int × Int × Int × Int × Int × (List Int) × Int × Int × Bool × Bool × Int × Int × Int × Int × Int × Int × (List (Int × (Int × (Int × (Int × Unit))))) × (List Int) × Int × Int × Int × Int × (List Int)
abbrev ln : Type := Int × Int × Int × (List Int) × Int × Int × Int × Int × (List (Int × (Int × (Int × (Int × Unit))))) × Int × Int × Bool × Bool × Int × Int × Int × Int × Int × Int × (List Int) × (List Int)
noncomputable def u6 (N : Nat) (f : lA → Option ln) : lA → Option ln
  | (x0,x1,x2,x3,x4,x5,x6,x7,x8,x9,x10,x11,x12,x13,x14,x15,x16,x17,x18,x19,x20,x21,x22) =>
  ac (decide (x0 < x1)) (
    ac (decide ((0 : Int) ≤ IntKind.wrap IntKind.i64 (IntKind.wrap IntKind.i64 (IntKind.wrap IntKind.i64 (IntKind.wrap IntKind.i64 (x19 + x0) * x4) + x18) + x20) ∧ IntKind.wrap IntKind.i64 (IntKind.wrap IntKind.i64 (IntKind.wrap IntKind.i64 (IntKind.wrap IntKind.i64 (x19 + x0) * x4) + x18) + x20) ≤ (↑(List.length x17) : Int))) (
      ac (decide ((0 : Int) ≤ IntKind.wrap IntKind.i64 (IntKind.wrap IntKind.i64 (IntKind.wrap IntKind.i64 (x19 + x0) * x4) + x18) ∧ IntKind.wrap IntKind.i64 (IntKind.wrap IntKind.i64 (IntKind.wrap IntKind.i64 (x19 + x0) * x4) + x18) ≤ (↑(Int.toNat (IntKind.wrap IntKind.i64 (IntKind.wrap IntKind.i64 (IntKind.wrap IntKind.i64 (IntKind.wrap IntKind.i64 (x19 + x0) * x4) + x18) + x20))) : Int))) (
        ac (decide ((List.length x5 + List.length (List.take (Int.toNat (IntKind.wrap IntKind.i64 (IntKind.wrap IntKind.i64 (IntKind.wrap IntKind.i64 (IntKind.wrap IntKind.i64 (x19 + x0) * x4) + x18) + x20)) - Int.toNat (IntKind.wrap IntKind.i64 (IntKind.wrap IntKind.i64 (IntKind.wrap IntKind.i64 (x19 + x0) * x4) + x18))) (List.drop (Int.toNat (IntKind.wrap IntKind.i64 (IntKind.wrap IntKind.i64 (IntKind.wrap IntKind.i64 (x19 + x0) * x4) + x18))) x17))) * (8 : Nat) ≤ (140737488355328 : Nat) ∧ List.length x5 + List.length (List.take (Int.toNat (IntKind.wrap IntKind.i64 (IntKind.wrap IntKind.i64 (IntKind.wrap IntKind.i64 (IntKind.wrap IntKind.i64 (x19 + x0) * x4) + x18) + x20)) - Int.toNat (IntKind.wrap IntKind.i64 (IntKind.wrap IntKind.i64 (IntKind.wrap IntKind.i64 (x19 + x0) * x4) + x18))) (List.drop (Int.toNat (IntKind.wrap IntKind.i64 (IntKind.wrap IntKind.i64 (IntKind.wrap IntKind.i64 (x19 + x0) * x4) + x18))) x17)) ≤ (140737488355328 : Nat))) (
          Option.bind (f (IntKind.wrap IntKind.i64 (x0 + (1 : Int)),x1,x2,x3,x4,x5 ++ List.take (Int.toNat (IntKind.wrap IntKind.i64 (IntKind.wrap IntKind.i64 (IntKind.wrap IntKind.i64 (IntKind.wrap IntKind.i64 (x19 + x0) * x4) + x18) + x20)) - Int.toNat (IntKind.wrap IntKind.i64 (IntKind.wrap IntKind.i64 (IntKind.wrap IntKind.i64 (x19 + x0) * x4) + x18))) (List.drop (Int.toNat (IntKind.wrap IntKind.i64 (IntKind.wrap IntKind.i64 (IntKind.wrap IntKind.i64 (x19 + x0) * x4) + x18))) x17),x6,x7,x8,x9,x10,x11,x12,x13,x14,x15,x16,x17,x18,x19,x20,x21,x22)) fun r => some r) (
          none )) (
        none )) (
      none )) (
    some ((x3,x2,x4,x5,x18,x19,x20,x21,x16,x6,x7,x8,x9,x10,x11,x12,x13,x14,x15,x17,x22)))
noncomputable def gX (N : Nat) : Nat → lA → Option ln
  | 0,_ => none
  | k + 1,x => u6 N (gX N k) x
noncomputable def eE (N : Nat) (k : Nat) : Cut := en.cut (gX N k)
theorem dp (N : Nat) (k : Nat) : aj Tryz.prog false Tryz.f34 [] 518554 (eE N k) :=
  en.loopT af al (iy N) Tryz.f34 [] (cuts := []) trivial (by decide +kernel) (by kernel_rfl) (u6 N) (gX N) (fun _ => rfl) (fun _ _ => rfl) (fun f x => by kernel_rfl) k
@[reducible] def pW : LD := ⟨518554,[15,46,45,11,12,38,39,40,1,10,14],[(.ret,[8,9]),(.exit 2,[15,14,40,39,38,12,11,1,10]),(.exit 1,[40,39,38,12,11,1,10]),(.exit 0,[12])],⟨[.sl 0,.int .i64,.int .i64,.adr 1 [],.adr 2 [],.sl 3,.int .i64,.int .i64,.int .i64,.sl 4,.adr 5 []],[.row (.int .i64) 3,.var 140 (.agg [.agg [.int .i64,.int .i64,.bool,.bool,.int .i64,.int .i64,.int .i64,.int .i64,.int .i64,.int .i64]]),.var 95 (.agg [.adr 2 [],.sl 6]),.row y1 126,.row (.int .i64) 3,.var 126 (.agg [.int .i64,.int .i64,.int .i64,.int .i64]),.row (.int .u8) 5]⟩,[(.exit 2,⟨[.sl 0,.adr 1 [],.int .i64,.int .i64,.sl 2,.adr 3 [],.adr 4 [],.int .i64,.sl 5],[.row (.int .i64) 3,.var 126 (.agg [.int .i64,.int .i64,.int .i64,.int .i64]),.row y1 126,.var 95 (.agg [.adr 3 [],.sl 6]),.var 140 (.agg [.agg [.int .i64,.int .i64,.bool,.bool,.int .i64,.int .i64,.int .i64,.int .i64,.int .i64,.int .i64]]),.row (.int .i64) 3,.row (.int .u8) 5]⟩)]⟩
abbrev ja : Type := Int × Int × Int × Int × Int × (List Int) × Int × Int × Bool × Bool × Int × Int × Int × Int × Int × Int × (List (Int × (Int × (Int × (Int × Unit))))) × (List Int) × Int × Int × Int × Int × (List Int)
abbrev iV : Type := Int × Int × Int × (List Int) × Int × Int × Int × Int × (List (Int × (Int × (Int × (Int × Unit))))) × Int × Int × Bool × Bool × Int × Int × Int × Int × Int × Int × (List Int) × (List Int)
noncomputable def qk (N : Nat) (f : ja → Option iV) : ja → Option iV
  | (x0,x1,x2,x3,x4,x5,x6,x7,x8,x9,x10,x11,x12,x13,x14,x15,x16,x17,x18,x19,x20,x21,x22) =>
  ac (decide (x0 < x1)) (
    ac (decide ((0 : Int) ≤ IntKind.wrap IntKind.i64 (IntKind.wrap IntKind.i64 (IntKind.wrap IntKind.i64 (IntKind.wrap IntKind.i64 (x19 + x0) * x4) + x18) + x20) ∧ IntKind.wrap IntKind.i64 (IntKind.wrap IntKind.i64 (IntKind.wrap IntKind.i64 (IntKind.wrap IntKind.i64 (x19 + x0) * x4) + x18) + x20) ≤ (↑(List.length x17) : Int))) (
      ac (decide ((0 : Int) ≤ IntKind.wrap IntKind.i64 (IntKind.wrap IntKind.i64 (IntKind.wrap IntKind.i64 (x19 + x0) * x4) + x18) ∧ IntKind.wrap IntKind.i64 (IntKind.wrap IntKind.i64 (IntKind.wrap IntKind.i64 (x19 + x0) * x4) + x18) ≤ (↑(Int.toNat (IntKind.wrap IntKind.i64 (IntKind.wrap IntKind.i64 (IntKind.wrap IntKind.i64 (IntKind.wrap IntKind.i64 (x19 + x0) * x4) + x18) + x20))) : Int))) (
        ac (decide ((List.length x5 + List.length (List.take (Int.toNat (IntKind.wrap IntKind.i64 (IntKind.wrap IntKind.i64 (IntKind.wrap IntKind.i64 (IntKind.wrap IntKind.i64 (x19 + x0) * x4) + x18) + x20)) - Int.toNat (IntKind.wrap IntKind.i64 (IntKind.wrap IntKind.i64 (IntKind.wrap IntKind.i64 (x19 + x0) * x4) + x18))) (List.drop (Int.toNat (IntKind.wrap IntKind.i64 (IntKind.wrap IntKind.i64 (IntKind.wrap IntKind.i64 (x19 + x0) * x4) + x18))) x17))) * (8 : Nat) ≤ (140737488355328 : Nat) ∧ List.length x5 + List.length (List.take (Int.toNat (IntKind.wrap IntKind.i64 (IntKind.wrap IntKind.i64 (IntKind.wrap IntKind.i64 (IntKind.wrap IntKind.i64 (x19 + x0) * x4) + x18) + x20)) - Int.toNat (IntKind.wrap IntKind.i64 (IntKind.wrap IntKind.i64 (IntKind.wrap IntKind.i64 (x19 + x0) * x4) + x18))) (List.drop (Int.toNat (IntKind.wrap IntKind.i64 (IntKind.wrap IntKind.i64 (IntKind.wrap IntKind.i64 (x19 + x0) * x4) + x18))) x17)) ≤ (140737488355328 : Nat))) (
          Option.bind (f (IntKind.wrap IntKind.i64 (x0 + (1 : Int)),x1,x2,x3,x4,x5 ++ List.take (Int.toNat (IntKind.wrap IntKind.i64 (IntKind.wrap IntKind.i64 (IntKind.wrap IntKind.i64 (IntKind.wrap IntKind.i64 (x19 + x0) * x4) + x18) + x20)) - Int.toNat (IntKind.wrap IntKind.i64 (IntKind.wrap IntKind.i64 (IntKind.wrap IntKind.i64 (x19 + x0) * x4) + x18))) (List.drop (Int.toNat (IntKind.wrap IntKind.i64 (IntKind.wrap IntKind.i64 (IntKind.wrap IntKind.i64 (x19 + x0) * x4) + x18))) x17),x6,x7,x8,x9,x10,x11,x12,x13,x14,x15,x16,x17,x18,x19,x20,x21,x22)) fun r => some r) (
          none )) (
        none )) (
      none )) (
    some ((x3,x2,x4,x5,x18,x19,x20,x21,x16,x6,x7,x8,x9,x10,x11,x12,x13,x14,x15,x17,x22)))
noncomputable def eS (N : Nat) : Nat → ja → Option iV
  | 0,_ => none
  | k + 1,x => qk N (eS N k) x
noncomputable def eZ (N : Nat) (k : Nat) : Cut := pW.cut (eS N k)
theorem eD (N : Nat) (k : Nat) : aj Tryz.prog false Tryz.f34 [] 518554 (eZ N k) :=
  pW.loopT af al (iy N) Tryz.f34 [] (cuts := [(518554,eE N N)]) ⟨dp N N,trivial⟩ (by decide +kernel) (by kernel_rfl) (qk N) (eS N) (fun _ => rfl) (fun _ _ => rfl) (fun f x => by kernel_rfl) k
@[reducible] def eo : LD := ⟨506,[39,38,12,11,40,1,10],[(.ret,[8,9]),(.exit 0,[12])],⟨[.int .i64,.sl 0,.adr 1 [],.adr 2 [],.int .i64,.int .i64,.sl 3],[.row y1 126,.var 95 (.agg [.adr 1 [],.sl 4]),.var 140 (.agg [.agg [.int .i64,.int .i64,.bool,.bool,.int .i64,.int .i64,.int .i64,.int .i64,.int .i64,.int .i64]]),.row (.int .i64) 3,.row (.int .u8) 5]⟩,[(.exit 0,⟨[.adr 0 []],[.var 95 (.agg [.adr 0 [],.sl 1]),.row (.int .u8) 5]⟩),(.exit 0,⟨[.adr 0 []],[.var 95 (.agg [.nilp,.sl 1]),.row (.int .u8) 5]⟩)]⟩
abbrev uc : Type := Int × Int × Int × (List (Int × (Int × (Int × (Int × Unit))))) × Int × Int × Bool × Bool × Int × Int × Int × Int × Int × Int × (List Int) × (List Int)
abbrev tk : Type := (((List Int)) ⊕ ((List Int)))
noncomputable def u7 (N : Nat) (f : uc → Option tk) : uc → Option tk
  | (x0,x1,x2,x3,x4,x5,x6,x7,x8,x9,x10,x11,x12,x13,x14,x15) =>
  ac (decide (x1 < x0)) (
    ac (within x1 (List.length x3)) (
      Option.bind (x3[Int.toNat x1]?) fun y0 =>
      Option.bind (eS N N ((0 : Int),y0.2.2.2.1,x0,x1,x2,[],x4,x5,x6,x7,x8,x9,x10,x11,x12,x13,x3,x14,y0.1,y0.2.1,y0.2.2.1,y0.2.2.2.1,x15)) fun (y1_0,y1_1,y1_2,y1_3,y1_4,y1_5,y1_6,y1_7,y1_8,y1_9,y1_10,y1_11,y1_12,y1_13,y1_14,y1_15,y1_16,y1_17,y1_18,y1_19,y1_20) =>
      Option.bind (F92 N (y1_9,y1_10,y1_11,y1_12,y1_13,y1_14,y1_15,y1_16,y1_17,y1_18,y1_3,y1_6)) fun y2 =>
      Option.bind (Vw N (y2,y1_20)) fun y3 =>
      Option.bind (f (y1_1,IntKind.wrap IntKind.i64 (y1_0 + (1 : Int)),y1_2,y1_8,y1_9,y1_10,y1_11,y1_12,y1_13,y1_14,y1_15,y1_16,y1_17,y1_18,y1_19,y3.2)) fun r => match r with | .inl y => some (.inl y) | .inr y => some (.inr y)) (
      none )) (
    some (.inl (x15)))
noncomputable def jl (N : Nat) : Nat → uc → Option tk
  | 0,_ => none
  | k + 1,x => u7 N (jl N k) x
noncomputable def uW (N : Nat) (k : Nat) : Cut := eo.cut (jl N k)
theorem qg (N : Nat) (k : Nat) : aj Tryz.prog false Tryz.f34 [] 506 (uW N k) :=
  eo.loopT af al (iy N) Tryz.f34 [] (cuts := [(518554,BJ en.s.I (eE N N) (eZ N N))]) ⟨fun c' h => cb (dp N N c' h) (eD N N c' h) rfl rfl,trivial⟩ (by decide +kernel) (by kernel_rfl) (u7 N) (jl N) (fun _ => rfl) (fun _ _ => rfl) (fun f x => by kernel_rfl) k
@[reducible] def JE : LD := ⟨506,eo.live,eo.out,⟨[.int .i64,.sl 0,.adr 1 [],.adr 2 [],.int .i64,.int .i64,.sl 3],[.row y1 126,.var 95 (.agg [.nilp,.sl 4]),.var 140 (.agg [.agg [.int .i64,.int .i64,.bool,.bool,.int .i64,.int .i64,.int .i64,.int .i64,.int .i64,.int .i64]]),.row (.int .i64) 3,.row (.int .u8) 5]⟩,eo.w⟩
noncomputable def Li (N : Nat) (f : (Int × Int × Int × (List (Int × (Int × (Int × (Int × Unit))))) × Int × Int × Bool × Bool × Int × Int × Int × Int × Int × Int × (List Int) × (List Int)) → Option ((((List Int)) ⊕ ((List Int))))) : (Int × Int × Int × (List (Int × (Int × (Int × (Int × Unit))))) × Int × Int × Bool × Bool × Int × Int × Int × Int × Int × Int × (List Int) × (List Int)) → Option ((((List Int)) ⊕ ((List Int))))
  | (x0,x1,x2,x3,x4,x5,x6,x7,x8,x9,x10,x11,x12,x13,x14,x15) =>
  ac (decide (x1 < x0)) (
    ac (within x1 (List.length x3)) (
      Option.bind (x3[Int.toNat x1]?) fun y0 =>
      Option.bind (gX N N ((0 : Int),y0.2.2.2.1,x0,x1,x2,[],x4,x5,x6,x7,x8,x9,x10,x11,x12,x13,x3,x14,y0.1,y0.2.1,y0.2.2.1,y0.2.2.2.1,x15)) fun (y1_0,y1_1,y1_2,y1_3,y1_4,y1_5,y1_6,y1_7,y1_8,y1_9,y1_10,y1_11,y1_12,y1_13,y1_14,y1_15,y1_16,y1_17,y1_18,y1_19,y1_20) =>
      Option.bind (F92 N (y1_9,y1_10,y1_11,y1_12,y1_13,y1_14,y1_15,y1_16,y1_17,y1_18,y1_3,y1_6)) fun y2 =>
      Option.bind (F62 N (y2,y1_20)) fun y3 =>
      Option.bind (f (y1_1,IntKind.wrap IntKind.i64 (y1_0 + (1 : Int)),y1_2,y1_8,y1_9,y1_10,y1_11,y1_12,y1_13,y1_14,y1_15,y1_16,y1_17,y1_18,y1_19,y3.2)) fun r => match r with | .inl y => some (.inl y) | .inr y => some (.inr y)) (
      none )) (
    some (.inr (x15)))
noncomputable def J9 (N : Nat) (k : Nat) : (Int × Int × Int × (List (Int × (Int × (Int × (Int × Unit))))) × Int × Int × Bool × Bool × Int × Int × Int × Int × Int × Int × (List Int) × (List Int)) → Option ((((List Int)) ⊕ ((List Int)))) := Li N (jl N k)
noncomputable def Kx (N : Nat) (k : Nat) : Cut := JE.cut (J9 N k)
theorem HD (N : Nat) (k : Nat) : aj Tryz.prog false Tryz.f34 [] 506 (Kx N k) :=
  JE.loop2T af al (iy N) eo.s Tryz.f34 [] (cuts := [(518554,BJ en.s.I (eE N N) (eZ N N)),(506,uW N N)]) ⟨fun c' h => cb (dp N N c' h) (eD N N c' h) rfl rfl,qg N N,trivial⟩ (by decide +kernel) (by kernel_rfl) (Li N) (u7 N) (jl N) (fun _ => rfl) (fun _ _ => rfl) (fun f g x => by kernel_rfl) (fun f g x => by kernel_rfl) k
@[reducible] def w34 : List SP := [⟨[.tup [.str,.int .i64]],[]⟩]
noncomputable def F34 (N : Nat) : (Int × Int × Bool × Bool × Int × Int × Int × Int × Int × Int × Int × Int × (List Int)) → Option (ByteArray × Int)
  | (x0,x1,x2,x3,x4,x5,x6,x7,x8,x9,x10,x11,x12) =>
  Option.bind (WM N (x0,x1,x2,x3,x4,x5,x6,x7,x8,x9,x10,x11)) fun y0 =>
  ac (!y0) (
    some ((ByteArray.mk #[],(1 : Int)))) (
    ac ((↑(List.length x12) : Int) != IntKind.wrap IntKind.i64 (x10 * x11)) (
      some ((ByteArray.mk #[],(1 : Int)))) (
      Option.bind (F91 N (x0,x1,x2,x3,x4,x5,x6,x7,x8,x9,x12)) fun y1 =>
      Option.bind (F82 N (x10,x11,(64 : Int))) fun y2 =>
      Option.bind (J9 N N ((↑(List.length y2) : Int),(0 : Int),x10,y2,x0,x1,x2,x3,x4,x5,x6,x7,x8,x9,y1,[])) fun y3 =>
      match y3 with
      | .inl y4 =>
        ac (decide ((0 : Nat) < List.length y4 ∧ List.length y4 ≤ (140737488355328 : Nat))) (
          some ((aB y4,(0 : Int)))) (
          none )
      | .inr y4 =>
        ac (decide ((0 : Nat) < List.length y4 ∧ List.length y4 ≤ (140737488355328 : Nat))) (
          some ((aB y4,(0 : Int)))) (
          none )))
noncomputable def T34 (N : Nat) : Pk → Tr Pk := ag s34 w34 (F34 N)
theorem ad7 (N : Nat) : au Tryz.prog (34) (T34 N) :=
  (ae af al (iy N) Tryz.func34 s34 w34 [] (cuts := [(518554,BJ en.s.I (eE N N) (eZ N N)),(506,BJ eo.s.I (uW N N) (Kx N N))]) ⟨fun c' h => cb (dp N N c' h) (eD N N c' h) rfl rfl,fun c' h => cb (qg N N c' h) (HD N N c' h) rfl rfl,trivial⟩ (fun _ => by kernel_rfl) (by decide +kernel) (F34 N) (fun x => by kernel_rfl))
@[reducible] def s229 : SP := ⟨[.str],[]⟩
noncomputable def Yq (N : Nat) : List (Nat × (Pk → Tr Pk)) := []
theorem MI (N : Nat) : ah Tryz.prog (Yq N) := trivial
@[reducible] def w229 : List SP := [⟨[.str],[]⟩]
noncomputable def G7 (N : Nat) : (ByteArray) → Option (ByteArray)
  | x0 =>
  ac (decide (((0 : Int) ≤ if (0 : Int) > IntKind.wrap IntKind.i64 ((↑(ByteArray.size x0) : Int) - (32768 : Int)) then (0 : Int) else IntKind.wrap IntKind.i64 ((↑(ByteArray.size x0) : Int) - (32768 : Int))) ∧ (if (0 : Int) > IntKind.wrap IntKind.i64 ((↑(ByteArray.size x0) : Int) - (32768 : Int)) then (0 : Int) else IntKind.wrap IntKind.i64 ((↑(ByteArray.size x0) : Int) - (32768 : Int))) ≤ (↑(ByteArray.size x0) : Int))) (
    some (ByteArray.extract x0 (Int.toNat (if (0 : Int) > IntKind.wrap IntKind.i64 ((↑(ByteArray.size x0) : Int) - (32768 : Int)) then (0 : Int) else IntKind.wrap IntKind.i64 ((↑(ByteArray.size x0) : Int) - (32768 : Int)))) (ByteArray.size x0))) (
    none )
noncomputable def NX (N : Nat) : Pk → Tr Pk := ag s229 w229 (G7 N)
theorem mD (N : Nat) : au Tryz.prog (229) (NX N) :=
  (ae af al (MI N) Tryz.func229 s229 w229 [] (cuts := []) trivial (fun _ => by kernel_rfl) (by decide +kernel) (G7 N) (fun x => by kernel_rfl))
@[reducible] def s286 : SP := ⟨[.adr 0 [],.int .i64],[.var 318 (.agg [.str,.mp 1,.sl 2]),.map (.str) (.int .i64),.row (.int .i64) 3]⟩
noncomputable def X8 (N : Nat) : List (Nat × (Pk → Tr Pk)) := []
theorem My (N : Nat) : ah Tryz.prog (X8 N) := trivial
@[reducible] def w286 : List SP := [⟨[.tup []],[.var 318 (.agg [.str,.mp 1,.sl 2]),.map (.str) (.int .i64),.row (.int .i64) 3]⟩]
noncomputable def VX (N : Nat) : (Int × ByteArray × (List (ByteArray × Int)) × (List Int)) → Option (ByteArray × (List (ByteArray × Int)) × (List Int))
  | (x0,x1,x2,x3) =>
  ac (decide (IntKind.wrap IntKind.i64 (x0 + (3 : Int)) ≤ (↑(ByteArray.size x1) : Int))) (
    ac (decide ((0 : Int) ≤ IntKind.wrap IntKind.i64 (x0 + (3 : Int)) ∧ IntKind.wrap IntKind.i64 (x0 + (3 : Int)) ≤ (↑(ByteArray.size x1) : Int))) (
      ac (decide ((0 : Int) ≤ x0 ∧ x0 ≤ (↑(Int.toNat (IntKind.wrap IntKind.i64 (x0 + (3 : Int)))) : Int))) (
        ac (kZ Ty.str (ByteArray.extract x1 (Int.toNat x0) (Int.toNat (IntKind.wrap IntKind.i64 (x0 + (3 : Int))))) x2) (
          ac (decide ((List.length x3 + List.length [gJ Ty.str (ByteArray.extract x1 (Int.toNat x0) (Int.toNat (IntKind.wrap IntKind.i64 (x0 + (3 : Int))))) (0 : Int) x2]) * (8 : Nat) ≤ (140737488355328 : Nat) ∧ List.length x3 + List.length [gJ Ty.str (ByteArray.extract x1 (Int.toNat x0) (Int.toNat (IntKind.wrap IntKind.i64 (x0 + (3 : Int))))) (0 : Int) x2] ≤ (140737488355328 : Nat))) (
            some ((x1,dC Ty.str (ByteArray.extract x1 (Int.toNat x0) (Int.toNat (IntKind.wrap IntKind.i64 (x0 + (3 : Int))))) x0 x2,x3 ++ [gJ Ty.str (ByteArray.extract x1 (Int.toNat x0) (Int.toNat (IntKind.wrap IntKind.i64 (x0 + (3 : Int))))) (0 : Int) x2]))) (
            none )) (
          ac (decide ((List.length x3 + (1 : Nat)) * (8 : Nat) ≤ (140737488355328 : Nat) ∧ List.length x3 + (1 : Nat) ≤ (140737488355328 : Nat))) (
            some ((x1,dC Ty.str (ByteArray.extract x1 (Int.toNat x0) (Int.toNat (IntKind.wrap IntKind.i64 (x0 + (3 : Int))))) x0 x2,x3 ++ [(-1 : Int)]))) (
            none ))) (
        none )) (
      none )) (
    ac (decide ((List.length x3 + (1 : Nat)) * (8 : Nat) ≤ (140737488355328 : Nat) ∧ List.length x3 + (1 : Nat) ≤ (140737488355328 : Nat))) (
      some ((x1,x2,x3 ++ [(-1 : Int)]))) (
      none ))
noncomputable def aB1 (N : Nat) : Pk → Tr Pk := ag s286 w286 (VX N)
theorem Up (N : Nat) : au Tryz.prog (286) (aB1 N) :=
  (ae af al (My N) Tryz.func286 s286 w286 [0] (cuts := []) trivial (fun _ => by kernel_rfl) (by decide +kernel) (VX N) (fun x => by kernel_rfl))
@[reducible] def y4 : Ty := (.cons (.int .i64) (.cons (.int .i64) (.cons (.int .i64) .unit)))
@[reducible] def s321 : SP := ⟨[.adr 0 [],.int .i64,.int .i64],[.var 318 (.agg [.str,.mp 1,.sl 2]),.map (.str) (.int .i64),.row (.int .i64) 3]⟩
noncomputable def XV (N : Nat) : List (Nat × (Pk → Tr Pk)) := []
theorem v6 (N : Nat) : ah Tryz.prog (XV N) := trivial
@[reducible] def JJ : LD := ⟨28,[7,1,0,2],[(.ret,[6]),(.exit 0,[7])],⟨[.int .i64,.int .i64,.adr 0 [],.int .i64],[.var 318 (.agg [.str,.mp 1,.sl 2]),.map (.str) (.int .i64),.row (.int .i64) 3]⟩,[(.exit 0,⟨[.int .i64],[.var 318 (.agg [.str,.mp 1,.sl 2]),.map (.str) (.int .i64),.row (.int .i64) 3]⟩)]⟩
abbrev A0 : Type := Int × Int × Int × ByteArray × (List (ByteArray × Int)) × (List Int)
abbrev Aj : Type := Int × ByteArray × (List (ByteArray × Int)) × (List Int)
noncomputable def Lm (N : Nat) (f : A0 → Option Aj) : A0 → Option Aj
  | (x0,x1,x2,x3,x4,x5) =>
  ac (decide (x0 < (258 : Int))) (
    ac (decide (IntKind.wrap IntKind.i64 (x2 + x0) < (↑(ByteArray.size x3) : Int))) (
      ac (decide ((0 : Int) ≤ IntKind.wrap IntKind.i64 (x1 + x0))) (
        Option.bind (x3[Int.toNat (IntKind.wrap IntKind.i64 (x1 + x0))]?) fun y0 =>
        ac (decide ((0 : Int) ≤ IntKind.wrap IntKind.i64 (x2 + x0))) (
          Option.bind (x3[Int.toNat (IntKind.wrap IntKind.i64 (x2 + x0))]?) fun y1 =>
          ac ((↑(UInt8.toNat y0) : Int) == (↑(UInt8.toNat y1) : Int)) (
            Option.bind (f (IntKind.wrap IntKind.i64 (x0 + (1 : Int)),x1,x2,x3,x4,x5)) fun r => some r) (
            some ((x0,x3,x4,x5)))) (
          none )) (
        none )) (
      some ((x0,x3,x4,x5)))) (
    some ((x0,x3,x4,x5)))
noncomputable def rj (N : Nat) : Nat → A0 → Option Aj
  | 0,_ => none
  | k + 1,x => Lm N (rj N k) x
noncomputable def KB (N : Nat) (k : Nat) : Cut := JJ.cut (rj N k)
theorem HH (N : Nat) (k : Nat) : aj Tryz.prog false Tryz.f321 [0] 28 (KB N k) :=
  JJ.loopT af al (v6 N) Tryz.f321 [0] (cuts := []) trivial (by decide +kernel) (by kernel_rfl) (Lm N) (rj N) (fun _ => rfl) (fun _ _ => rfl) (fun f x => by kernel_rfl) k
@[reducible] def w321 : List SP := [⟨[.int .i64],[.var 318 (.agg [.str,.mp 1,.sl 2]),.map (.str) (.int .i64),.row (.int .i64) 3]⟩]
noncomputable def ai9 (N : Nat) : (Int × Int × ByteArray × (List (ByteArray × Int)) × (List Int)) → Option (Int × ByteArray × (List (ByteArray × Int)) × (List Int))
  | (x0,x1,x2,x3,x4) =>
  Option.bind (rj N N ((0 : Int),x0,x1,x2,x3,x4)) fun y0 =>
  some ((y0.1,y0.2.1,y0.2.2.1,y0.2.2.2))
noncomputable def aA1 (N : Nat) : Pk → Tr Pk := ag s321 w321 (ai9 N)
theorem Ud (N : Nat) : au Tryz.prog (321) (aA1 N) :=
  (ae af al (v6 N) Tryz.func321 s321 w321 [0] (cuts := [(28,KB N N)]) ⟨HH N N,trivial⟩ (fun _ => by kernel_rfl) (by decide +kernel) (ai9 N) (fun x => by kernel_rfl))
@[reducible] def s287 : SP := ⟨[.adr 0 [],.int .i64],[.var 318 (.agg [.str,.mp 1,.sl 2]),.map (.str) (.int .i64),.row (.int .i64) 3]⟩
noncomputable def X7 (N : Nat) : List (Nat × (Pk → Tr Pk)) := [(321,aA1 N)]
theorem nJ (N : Nat) : ah Tryz.prog (X7 N) := ⟨Ud N,trivial⟩
@[reducible] def xr : LD := ⟨1001,[7,9,8,4,1,6,0],[(.ret,[4,5]),(.exit 0,[6,4]),(.normal,[7,9,8,4,1,6,0])],⟨[.int .i64,.int .i64,.bool,.adr 1 [],.int .i64,.adr 2 [],.adr 0 []],[.var 318 (.agg [.str,.mp 3,.sl 4]),.var 281 (.agg [.int .i64,.int .i64,.int .i64]),.var 281 (.agg [.int .i64,.int .i64,.int .i64]),.map (.str) (.int .i64),.row (.int .i64) 3]⟩,[(.normal,⟨[.int .i64,.int .i64,.bool,.adr 1 [],.int .i64,.adr 2 [],.adr 0 []],[.var 318 (.agg [.str,.mp 3,.sl 4]),.var 281 (.agg [.int .i64,.int .i64,.int .i64]),.var 281 (.agg [.int .i64,.int .i64,.int .i64]),.map (.str) (.int .i64),.row (.int .i64) 3]⟩)]⟩
noncomputable def pf (N : Nat) : (Int × Int × Bool × Int × ByteArray × Int × Int × Int × Int × Int × Int × (List (ByteArray × Int)) × (List Int)) → Option (Int × Int × Bool × Int × ByteArray × Int × Int × Int × Int × Int × Int × (List (ByteArray × Int)) × (List Int))
  | (x0,x1,x2,x3,x4,x5,x6,x7,x8,x9,x10,x11,x12) =>
  Option.bind (ai9 N (x0,x3,x4,x11,x12)) fun y0 =>
  ac (decide (y0.1 > x9)) (
    ac (within x0 (List.length y0.2.2.2)) (
      Option.bind (y0.2.2.2[Int.toNat x0]?) fun y1 =>
      some ((y1,IntKind.wrap IntKind.i64 (x1 + (1 : Int)),x2,x3,y0.2.1,x5,x6,x7,(0 : Int),y0.1,IntKind.wrap IntKind.i64 (x3 - x0),y0.2.2.1,y0.2.2.2))) (
      none )) (
    ac (within x0 (List.length y0.2.2.2)) (
      Option.bind (y0.2.2.2[Int.toNat x0]?) fun y2 =>
      some ((y2,IntKind.wrap IntKind.i64 (x1 + (1 : Int)),x2,x3,y0.2.1,x5,x6,x7,x8,x9,x10,y0.2.2.1,y0.2.2.2))) (
      none ))
noncomputable def pw (N : Nat) (_ : Nat) : Cut := xr.cut (pf N)
theorem nv (N : Nat) (k : Nat) : aj Tryz.prog false Tryz.f287 [0] 1001 (pw N k) :=
  xr.pieceT af al (nJ N) Tryz.f287 [0] (cuts := []) trivial (by decide +kernel) (by kernel_rfl) (pf N) (fun x => by kernel_rfl)
@[reducible] def Dr : LD := ⟨250,[7,9,8,4,1,6,0],[(.ret,[4,5]),(.exit 0,[6,4])],⟨[.int .i64,.int .i64,.bool,.adr 1 [],.int .i64,.adr 2 [],.adr 0 []],[.var 318 (.agg [.str,.mp 3,.sl 4]),.var 281 (.agg [.int .i64,.int .i64,.int .i64]),.var 281 (.agg [.int .i64,.int .i64,.int .i64]),.map (.str) (.int .i64),.row (.int .i64) 3]⟩,[(.exit 0,⟨[.adr 1 [],.adr 2 []],[.var 318 (.agg [.str,.mp 3,.sl 4]),.var 281 (.agg [.int .i64,.int .i64,.int .i64]),.var 281 (.agg [.int .i64,.int .i64,.int .i64]),.map (.str) (.int .i64),.row (.int .i64) 3]⟩)]⟩
abbrev uj : Type := Int × Int × Bool × Int × ByteArray × Int × Int × Int × Int × Int × Int × (List (ByteArray × Int)) × (List Int)
abbrev tv : Type := ByteArray × Int × Int × Int × Int × Int × Int × (List (ByteArray × Int)) × (List Int)
noncomputable def Fi (N : Nat) (f : uj → Option tv) : uj → Option tv
  | (x0,x1,x2,x3,x4,x5,x6,x7,x8,x9,x10,x11,x12) =>
  ac (x2) (
    ac (decide (x1 < (64 : Int))) (
      ac (decide (x0 ≥ (0 : Int))) (
        ac (decide (IntKind.wrap IntKind.i64 (x3 - x0) ≤ (32768 : Int))) (
          Option.bind (pf N (x0,x1,x2,x3,x4,x5,x6,x7,x8,x9,x10,x11,x12)) fun (y0_0,y0_1,y0_2,y0_3,y0_4,y0_5,y0_6,y0_7,y0_8,y0_9,y0_10,y0_11,y0_12) =>
          Option.bind (f (y0_0,y0_1,y0_2,y0_3,y0_4,y0_5,y0_6,y0_7,y0_8,y0_9,y0_10,y0_11,y0_12)) fun r => some r) (
          some ((x4,x8,x9,x10,x5,x6,x7,x11,x12)))) (
        some ((x4,x8,x9,x10,x5,x6,x7,x11,x12)))) (
      some ((x4,x8,x9,x10,x5,x6,x7,x11,x12)))) (
    some ((x4,x8,x9,x10,x5,x6,x7,x11,x12)))
noncomputable def nb (N : Nat) : Nat → uj → Option tv
  | 0,_ => none
  | k + 1,x => Fi N (nb N k) x
noncomputable def EF (N : Nat) (k : Nat) : Cut := Dr.cut (nb N k)
theorem EE (N : Nat) (k : Nat) : aj Tryz.prog false Tryz.f287 [0] 250 (EF N k) :=
  Dr.loopT af al (nJ N) Tryz.f287 [0] (cuts := [(1001,pw N N)]) ⟨nv N N,trivial⟩ (by decide +kernel) (by kernel_rfl) (Fi N) (nb N) (fun _ => rfl) (fun _ _ => rfl) (fun f x => by kernel_rfl) k
@[reducible] def w287 : List SP := [⟨[.tup [.agg [.int .i64,.int .i64,.int .i64],.bool]],[.var 318 (.agg [.str,.mp 1,.sl 2]),.map (.str) (.int .i64),.row (.int .i64) 3]⟩]
noncomputable def aj5 (N : Nat) : (Int × ByteArray × (List (ByteArray × Int)) × (List Int)) → Option (Int × Int × Int × Bool × ByteArray × (List (ByteArray × Int)) × (List Int))
  | (x0,x1,x2,x3) =>
  ac (decide (IntKind.wrap IntKind.i64 (x0 + (3 : Int)) > (↑(ByteArray.size x1) : Int))) (
    some (((0 : Int),(0 : Int),(0 : Int),false,x1,x2,x3))) (
    ac (decide ((0 : Int) ≤ IntKind.wrap IntKind.i64 (x0 + (3 : Int)) ∧ IntKind.wrap IntKind.i64 (x0 + (3 : Int)) ≤ (↑(ByteArray.size x1) : Int))) (
      ac (decide ((0 : Int) ≤ x0 ∧ x0 ≤ (↑(Int.toNat (IntKind.wrap IntKind.i64 (x0 + (3 : Int)))) : Int))) (
        Option.bind (nb N N (gJ Ty.str (ByteArray.extract x1 (Int.toNat x0) (Int.toNat (IntKind.wrap IntKind.i64 (x0 + (3 : Int))))) (0 : Int) x2,(0 : Int),kZ Ty.str (ByteArray.extract x1 (Int.toNat x0) (Int.toNat (IntKind.wrap IntKind.i64 (x0 + (3 : Int))))) x2,x0,x1,(0 : Int),(0 : Int),(0 : Int),(0 : Int),(0 : Int),(0 : Int),x2,x3)) fun (y0_0,y0_1,y0_2,y0_3,y0_4,y0_5,y0_6,y0_7,y0_8) =>
        some ((y0_1,y0_2,y0_3,decide (y0_2 ≥ (3 : Int)),y0_0,y0_7,y0_8))) (
        none )) (
      none ))
noncomputable def aB0 (N : Nat) : Pk → Tr Pk := ag s287 w287 (aj5 N)
theorem Uo (N : Nat) : au Tryz.prog (287) (aB0 N) :=
  (ae af al (nJ N) Tryz.func287 s287 w287 [0] (cuts := [(1001,pw N N),(250,EF N N)]) ⟨nv N N,EE N N,trivial⟩ (fun _ => by kernel_rfl) (by decide +kernel) (aj5 N) (fun x => by kernel_rfl))
@[reducible] def s251 : SP := ⟨[.str,.str],[]⟩
noncomputable def Ym (N : Nat) : List (Nat × (Pk → Tr Pk)) := [(229,NX N),(286,aB1 N),(287,aB0 N)]
theorem jP (N : Nat) : ah Tryz.prog (Ym N) := ⟨mD N,Up N,Uo N,trivial⟩
@[reducible] def Dw : LD := ⟨122,[22,21,5,6],[(.ret,[4]),(.exit 0,[5,6])],⟨[.int .i64,.int .i64,.str,.adr 0 []],[.var 318 (.agg [.str,.mp 1,.sl 2]),.map (.str) (.int .i64),.row (.int .i64) 3]⟩,[(.exit 0,⟨[.str,.adr 0 []],[.var 318 (.agg [.str,.mp 1,.sl 2]),.map (.str) (.int .i64),.row (.int .i64) 3]⟩)]⟩
abbrev un : Type := Int × Int × ByteArray × ByteArray × (List (ByteArray × Int)) × (List Int)
abbrev tA : Type := ByteArray × ByteArray × (List (ByteArray × Int)) × (List Int)
noncomputable def Fo (N : Nat) (f : un → Option tA) : un → Option tA
  | (x0,x1,x2,x3,x4,x5) =>
  ac (decide (x0 < x1)) (
    Option.bind (VX N (x0,x3,x4,x5)) fun y0 =>
    Option.bind (f (IntKind.wrap IntKind.i64 (x0 + (1 : Int)),x1,x2,y0.1,y0.2.1,y0.2.2)) fun r => some r) (
    some ((x2,x3,x4,x5)))
noncomputable def nf (N : Nat) : Nat → un → Option tA
  | 0,_ => none
  | k + 1,x => Fo N (nf N k) x
noncomputable def ny (N : Nat) (k : Nat) : Cut := Dw.cut (nf N k)
theorem jG (N : Nat) (k : Nat) : aj Tryz.prog false Tryz.f251 [] 122 (ny N k) :=
  Dw.loopT af al (jP N) Tryz.f251 [] (cuts := []) trivial (by decide +kernel) (by kernel_rfl) (Fo N) (nf N) (fun _ => rfl) (fun _ _ => rfl) (fun f x => by kernel_rfl) k
@[reducible] def p8 : LD := ⟨129630,[9,61,60,8,6],[(.ret,[4]),(.exit 4,[8,9,6]),(.exit 3,[8,9,6]),(.exit 2,[8])],⟨[.int .i64,.int .i64,.int .i64,.sl 0,.adr 1 []],[.row y4 281,.var 318 (.agg [.str,.mp 2,.sl 3]),.map (.str) (.int .i64),.row (.int .i64) 3]⟩,[(.exit 4,⟨[.sl 0,.int .i64,.adr 1 []],[.row y4 281,.var 318 (.agg [.str,.mp 2,.sl 3]),.map (.str) (.int .i64),.row (.int .i64) 3]⟩)]⟩
abbrev je : Type := Int × Int × Int × (List (Int × (Int × (Int × Unit)))) × ByteArray × (List (ByteArray × Int)) × (List Int)
abbrev iZ : Type := Int × (List (Int × (Int × (Int × Unit)))) × ByteArray × (List (ByteArray × Int)) × (List Int)
noncomputable def qo (N : Nat) (f : je → Option iZ) : je → Option iZ
  | (x0,x1,x2,x3,x4,x5,x6) =>
  ac (decide (x1 < x2)) (
    Option.bind (VX N (x0,x4,x5,x6)) fun y0 =>
    Option.bind (f (IntKind.wrap IntKind.i64 (x0 + (1 : Int)),IntKind.wrap IntKind.i64 (x1 + (1 : Int)),x2,x3,y0.1,y0.2.1,y0.2.2)) fun r => some r) (
    some ((x0,x3,x4,x5,x6)))
noncomputable def dy (N : Nat) : Nat → je → Option iZ
  | 0,_ => none
  | k + 1,x => qo N (dy N k) x
noncomputable def jF (N : Nat) (k : Nat) : Cut := p8.cut (dy N k)
theorem jE (N : Nat) (k : Nat) : aj Tryz.prog false Tryz.f251 [] 129630 (jF N k) :=
  p8.loopT af al (jP N) Tryz.f251 [] (cuts := [(122,ny N N)]) ⟨jG N N,trivial⟩ (by decide +kernel) (by kernel_rfl) (qo N) (dy N) (fun _ => rfl) (fun _ _ => rfl) (fun f x => by kernel_rfl) k
@[reducible] def Dv : LD := ⟨506,[8,9,6],[(.ret,[4]),(.exit 2,[8])],⟨[.sl 0,.int .i64,.adr 1 []],[.row y4 281,.var 318 (.agg [.str,.mp 2,.sl 3]),.map (.str) (.int .i64),.row (.int .i64) 3]⟩,[(.exit 2,⟨[.sl 0],[.row y4 281]⟩)]⟩
abbrev um : Type := Int × (List (Int × (Int × (Int × Unit)))) × ByteArray × (List (ByteArray × Int)) × (List Int)
abbrev tz : Type := (List (Int × (Int × (Int × Unit))))
noncomputable def Fl (N : Nat) (f : um → Option tz) : um → Option tz
  | (x0,x1,x2,x3,x4) =>
  ac (decide (x0 < (↑(ByteArray.size x2) : Int))) (
    Option.bind (aj5 N (x0,x2,x3,x4)) fun (y0_0,y0_1,y0_2,y0_3,y0_4,y0_5,y0_6) =>
    ac (!y0_3) (
      ac (decide ((0 : Int) ≤ x0)) (
        Option.bind (y0_4[Int.toNat x0]?) fun y1 =>
        ac (decide ((List.length x1 + List.length [(IntKind.wrap IntKind.i64 (↑(UInt8.toNat y1) : Int),(0 : Int),(0 : Int),())]) * (24 : Nat) ≤ (140737488355328 : Nat) ∧ List.length x1 + List.length [(IntKind.wrap IntKind.i64 (↑(UInt8.toNat y1) : Int),(0 : Int),(0 : Int),())] ≤ (140737488355328 : Nat))) (
          Option.bind (dy N N (x0,(0 : Int),(1 : Int),x1 ++ [(IntKind.wrap IntKind.i64 (↑(UInt8.toNat y1) : Int),(0 : Int),(0 : Int),())],y0_4,y0_5,y0_6)) fun y2 =>
          Option.bind (f (y2.1,y2.2.1,y2.2.2.1,y2.2.2.2.1,y2.2.2.2.2)) fun r => some r) (
          none )) (
        none )) (
      ac (decide ((List.length x1 + List.length [(y0_0,y0_1,y0_2,())]) * (24 : Nat) ≤ (140737488355328 : Nat) ∧ List.length x1 + List.length [(y0_0,y0_1,y0_2,())] ≤ (140737488355328 : Nat))) (
        Option.bind (dy N N (x0,(0 : Int),if (1 : Int) > y0_1 then (1 : Int) else y0_1,x1 ++ [(y0_0,y0_1,y0_2,())],y0_4,y0_5,y0_6)) fun y3 =>
        Option.bind (f (y3.1,y3.2.1,y3.2.2.1,y3.2.2.2.1,y3.2.2.2.2)) fun r => some r) (
        none ))) (
    some (x1))
noncomputable def nd (N : Nat) : Nat → um → Option tz
  | 0,_ => none
  | k + 1,x => Fl N (nd N k) x
noncomputable def EL (N : Nat) (k : Nat) : Cut := Dv.cut (nd N k)
theorem EK (N : Nat) (k : Nat) : aj Tryz.prog false Tryz.f251 [] 506 (EL N k) :=
  Dv.loopT af al (jP N) Tryz.f251 [] (cuts := [(122,ny N N),(129630,jF N N)]) ⟨jG N N,jE N N,trivial⟩ (by decide +kernel) (by kernel_rfl) (Fl N) (nd N) (fun _ => rfl) (fun _ _ => rfl) (fun f x => by kernel_rfl) k
@[reducible] def w251 : List SP := [⟨[.sl 0],[.row y4 281]⟩]
noncomputable def ak1 (N : Nat) : (ByteArray × ByteArray) → Option ((List (Int × (Int × (Int × Unit)))))
  | (x0,x1) =>
  Option.bind (G7 N x0) fun y0 =>
  ac (decide ((↑(ByteArray.size y0 + ByteArray.size x1) : Int) > (9223372036854775807 : Int))) (
    none ) (
    Option.bind (nf N N ((0 : Int),(↑(ByteArray.size y0) : Int),y0,y0 ++ x1,[],[])) fun y1 =>
    Option.bind (nd N N ((↑(ByteArray.size y1.1) : Int),[],y1.2.1,y1.2.2.1,y1.2.2.2)) fun y2 =>
    some (y2))
noncomputable def aC2 (N : Nat) : Pk → Tr Pk := ag s251 w251 (ak1 N)
theorem UA (N : Nat) : au Tryz.prog (251) (aC2 N) :=
  (ae af al (jP N) Tryz.func251 s251 w251 [] (cuts := [(122,ny N N),(129630,jF N N),(506,EL N N)]) ⟨jG N N,jE N N,EK N N,trivial⟩ (fun _ => by kernel_rfl) (by decide +kernel) (ak1 N) (fun x => by kernel_rfl))
@[reducible] def s352 : SP := ⟨[.int .i64,.int .i64,.int .i64],[]⟩
noncomputable def Xx (N : Nat) : List (Nat × (Pk → Tr Pk)) := []
theorem Ma (N : Nat) : ah Tryz.prog (Xx N) := trivial
@[reducible] def w352 : List SP := [⟨[.bool],[]⟩]
noncomputable def Rh (N : Nat) : (Int × Int × Int) → Option (Bool)
  | (x0,x1,x2) =>
  ac (decide (x1 ≤ x0)) (
    some (decide (x0 ≤ x2))) (
    some (false))
noncomputable def ay5 (N : Nat) : Pk → Tr Pk := ag s352 w352 (Rh N)
theorem TM (N : Nat) : au Tryz.prog (352) (ay5 N) :=
  (ae af al (Ma N) Tryz.func352 s352 w352 [] (cuts := []) trivial (fun _ => by kernel_rfl) (by decide +kernel) (Rh N) (fun x => by kernel_rfl))
@[reducible] def s335 : SP := ⟨[.agg [.int .i64,.int .i64,.int .i64]],[]⟩
noncomputable def XL (N : Nat) : List (Nat × (Pk → Tr Pk)) := [(352,ay5 N)]
theorem Mh (N : Nat) : ah Tryz.prog (XL N) := ⟨TM N,trivial⟩
@[reducible] def w335 : List SP := [⟨[.bool],[]⟩]
noncomputable def N6 (N : Nat) : (Int × Int × Int) → Option (Bool)
  | (x0,x1,x2) =>
  ac (x1 == (0 : Int)) (
    ac (x2 == (0 : Int)) (
      Option.bind (Rh N (x0,(0 : Int),(255 : Int))) fun y0 =>
      some (y0)) (
      some (false))) (
    ac (x0 == (0 : Int)) (
      Option.bind (Rh N (x1,(3 : Int),(258 : Int))) fun y1 =>
      ac (y1) (
        Option.bind (Rh N (x2,(1 : Int),(32768 : Int))) fun y2 =>
        some (y2)) (
        some (false))) (
      some (false)))
noncomputable def QB (N : Nat) : Pk → Tr Pk := ag s335 w335 (N6 N)
theorem qL (N : Nat) : au Tryz.prog (335) (QB N) :=
  (ae af al (Mh N) Tryz.func335 s335 w335 [] (cuts := []) trivial (fun _ => by kernel_rfl) (by decide +kernel) (N6 N) (fun x => by kernel_rfl))
@[reducible] def s271 : SP := ⟨[.adr 0 [],.bool,.int .i64],[.var 221 (.agg [.sl 1,.int .i64,.int .i64]),.row (.int .u8) 5]⟩
noncomputable def Yc (N : Nat) : List (Nat × (Pk → Tr Pk)) := [(269,Gz N)]
theorem MC (N : Nat) : ah Tryz.prog (Yc N) := ⟨j6 N,trivial⟩
@[reducible] def w271 : List SP := [⟨[.tup []],[.var 221 (.agg [.sl 1,.int .i64,.int .i64]),.row (.int .u8) 5]⟩]
noncomputable def N9 (N : Nat) : (Bool × Int × Int × Int × (List Int)) → Option (Int × Int × (List Int))
  | (x0,x1,x2,x3,x4) =>
  ac (x0) (
    Option.bind (gY N ((1 : Int),(1 : Int),x2,x3,x4)) fun y0 =>
    Option.bind (gY N ((2 : Int),x1,y0.1,y0.2.1,y0.2.2)) fun y1 =>
    some ((y1.1,y1.2.1,y1.2.2))) (
    Option.bind (gY N ((1 : Int),(0 : Int),x2,x3,x4)) fun y2 =>
    Option.bind (gY N ((2 : Int),x1,y2.1,y2.2.1,y2.2.2)) fun y3 =>
    some ((y3.1,y3.2.1,y3.2.2)))
noncomputable def ae6 (N : Nat) : Pk → Tr Pk := ag s271 w271 (N9 N)
theorem I6 (N : Nat) : au Tryz.prog (271) (ae6 N) :=
  (ae af al (MC N) Tryz.func271 s271 w271 [0] (cuts := []) trivial (fun _ => by kernel_rfl) (by decide +kernel) (N9 N) (fun x => by kernel_rfl))
@[reducible] def s353 : SP := ⟨[.sl 0,.int .i64,.int .i64],[.row (.int .i64) 3]⟩
noncomputable def Xw (N : Nat) : List (Nat × (Pk → Tr Pk)) := []
theorem vV (N : Nat) : ah Tryz.prog (Xw N) := trivial
@[reducible] def JD : LD := ⟨12,[0,1,2],[(.ret,[6]),(.exit 0,[0])],⟨[.sl 0,.int .i64,.int .i64],[.row (.int .i64) 3]⟩,[(.exit 0,⟨[.sl 0],[.row (.int .i64) 3]⟩)]⟩
abbrev AW : Type := Int × Int × (List Int)
abbrev Af : Type := (List Int)
noncomputable def Lh (N : Nat) (f : AW → Option Af) : AW → Option Af
  | (x0,x1,x2) =>
  ac (decide ((↑(List.length x2) : Int) < x0)) (
    ac (decide ((List.length x2 + List.length [x1]) * (8 : Nat) ≤ (140737488355328 : Nat) ∧ List.length x2 + List.length [x1] ≤ (140737488355328 : Nat))) (
      Option.bind (f (x0,x1,x2 ++ [x1])) fun r => some r) (
      none )) (
    some (x2))
noncomputable def re (N : Nat) : Nat → AW → Option Af
  | 0,_ => none
  | k + 1,x => Lh N (re N k) x
noncomputable def Kw (N : Nat) (k : Nat) : Cut := JD.cut (re N k)
theorem HC (N : Nat) (k : Nat) : aj Tryz.prog false Tryz.f353 [] 12 (Kw N k) :=
  JD.loopT af al (vV N) Tryz.f353 [] (cuts := []) trivial (by decide +kernel) (by kernel_rfl) (Lh N) (re N) (fun _ => rfl) (fun _ _ => rfl) (fun f x => by kernel_rfl) k
@[reducible] def w353 : List SP := [⟨[.sl 0],[.row (.int .i64) 3]⟩]
noncomputable def G6 (N : Nat) : (Int × Int × (List Int)) → Option ((List Int))
  | (x0,x1,x2) =>
  Option.bind (re N N (x0,x1,x2)) fun y0 =>
  some (y0)
noncomputable def ay4 (N : Nat) : Pk → Tr Pk := ag s353 w353 (G6 N)
theorem TL (N : Nat) : au Tryz.prog (353) (ay4 N) :=
  (ae af al (vV N) Tryz.func353 s353 w353 [] (cuts := [(12,Kw N N)]) ⟨HC N N,trivial⟩ (fun _ => by kernel_rfl) (by decide +kernel) (G6 N) (fun x => by kernel_rfl))
@[reducible] def s336 : SP := ⟨[],[]⟩
noncomputable def XK (N : Nat) : List (Nat × (Pk → Tr Pk)) := [(353,ay4 N)]
theorem Mg (N : Nat) : ah Tryz.prog (XK N) := ⟨TL N,trivial⟩
@[reducible] def w336 : List SP := [⟨[.tup [.sl 0,.sl 1]],[.row (.int .i64) 3,.row (.int .i64) 3]⟩]
noncomputable def VR (N : Nat) : (Unit) → Option ((List Int) × (List Int))
  | () =>
  Option.bind (G6 N ((144 : Int),(8 : Int),[])) fun y0 =>
  Option.bind (G6 N ((256 : Int),(9 : Int),y0)) fun y1 =>
  Option.bind (G6 N ((280 : Int),(7 : Int),y1)) fun y2 =>
  Option.bind (G6 N ((288 : Int),(8 : Int),y2)) fun y3 =>
  Option.bind (G6 N ((30 : Int),(5 : Int),[])) fun y4 =>
  some ((y3,y4))
noncomputable def ae1 (N : Nat) : Pk → Tr Pk := ag s336 w336 (VR N)
theorem I3 (N : Nat) : au Tryz.prog (336) (ae1 N) :=
  (ae af al (Mg N) Tryz.func336 s336 w336 [] (cuts := []) trivial (fun _ => by kernel_rfl) (by decide +kernel) (VR N) (fun x => by kernel_rfl))
@[reducible] def s371 : SP := ⟨[.ro (.int .i64)],[]⟩
noncomputable def Xf (N : Nat) : List (Nat × (Pk → Tr Pk)) := []
theorem vP (N : Nat) : ah Tryz.prog (Xf N) := trivial
@[reducible] def De : LD := ⟨122,[12,11,13,4,2],[(.ret,[2,3]),(.exit 0,[4,2])],⟨[.int .i64,.ro (.int .i64),.int .i64,.adr 0 [],.adr 1 []],[.var 383 (.arr (.int .i64) 16),.var 383 (.arr (.int .i64) 16)]⟩,[(.ret,⟨[.adr 0 [],.int .i64],[.var 383 (.arr (.int .i64) 16)]⟩),(.exit 0,⟨[.adr 0 [],.adr 1 []],[.var 383 (.arr (.int .i64) 16),.var 383 (.arr (.int .i64) 16)]⟩)]⟩
abbrev tX : Type := Int × (List Int) × Int × (List Int) × (List Int)
abbrev ta : Type := ((Int × (List Int)) ⊕ ((List Int) × (List Int)))
noncomputable def E5 (N : Nat) (f : tX → Option ta) : tX → Option ta
  | (x0,x1,x2,x3,x4) =>
  ac (decide (x2 < x0)) (
    ac (within x2 (List.length x1)) (
      Option.bind (x1[Int.toNat x2]?) fun y0 =>
      ac (decide (y0 < (0 : Int))) (
        some (.inl (((50 : Int),x3)))) (
        ac (decide (y0 > (15 : Int))) (
          some (.inl (((50 : Int),x3)))) (
          ac (within y0 (16 : Nat)) (
            Option.bind (x3[Int.toNat y0]?) fun y1 =>
            ac (within y0 (16 : Nat)) (
              Option.bind (x3[Int.toNat y0]?) fun y2 =>
              Option.bind (f (x0,x1,IntKind.wrap IntKind.i64 (x2 + (1 : Int)),List.set x3 (Int.toNat y0) (IntKind.wrap IntKind.i64 (y1 + (1 : Int))),x4)) fun r => match r with | .inl y => some (.inl y) | .inr y => some (.inr y)) (
              none )) (
            none )))) (
      none )) (
    some (.inr ((x3,x4))))
noncomputable def mO (N : Nat) : Nat → tX → Option ta
  | 0,_ => none
  | k + 1,x => E5 N (mO N k) x
noncomputable def Ej (N : Nat) (k : Nat) : Cut := De.cut (mO N k)
theorem Ei (N : Nat) (k : Nat) : aj Tryz.prog false Tryz.f371 [] 122 (Ej N k) :=
  De.loopT af al (vP N) Tryz.f371 [] (cuts := []) trivial (by decide +kernel) (by kernel_rfl) (E5 N) (mO N) (fun _ => rfl) (fun _ _ => rfl) (fun f x => by kernel_rfl) k
@[reducible] def w371 : List SP := [⟨[.tup [.arr (.int .i64) 16,.int .i64]],[]⟩]
noncomputable def Ra (N : Nat) : ((List Int)) → Option ((List Int) × Int)
  | x0 =>
  ac (decide ((↑(List.length x0) : Int) > (320 : Int))) (
    some (([(0 : Int),(0 : Int),(0 : Int),(0 : Int),(0 : Int),(0 : Int),(0 : Int),(0 : Int),(0 : Int),(0 : Int),(0 : Int),(0 : Int),(0 : Int),(0 : Int),(0 : Int),(0 : Int)],(50 : Int)))) (
    Option.bind (mO N N ((↑(List.length x0) : Int),x0,(0 : Int),[(0 : Int),(0 : Int),(0 : Int),(0 : Int),(0 : Int),(0 : Int),(0 : Int),(0 : Int),(0 : Int),(0 : Int),(0 : Int),(0 : Int),(0 : Int),(0 : Int),(0 : Int),(0 : Int)],[(0 : Int),(0 : Int),(0 : Int),(0 : Int),(0 : Int),(0 : Int),(0 : Int),(0 : Int),(0 : Int),(0 : Int),(0 : Int),(0 : Int),(0 : Int),(0 : Int),(0 : Int),(0 : Int)])) fun y0 =>
    match y0 with
    | .inl y1 =>
      some ((y1.2,y1.1))
    | .inr y1 =>
      some ((y1.1,(0 : Int))))
noncomputable def TD (N : Nat) : Pk → Tr Pk := ag s371 w371 (Ra N)
theorem zv (N : Nat) : au Tryz.prog (371) (TD N) :=
  (ae af al (vP N) Tryz.func371 s371 w371 [] (cuts := [(122,Ej N N)]) ⟨Ei N N,trivial⟩ (fun _ => by kernel_rfl) (by decide +kernel) (Ra N) (fun x => by kernel_rfl))
@[reducible] def s370 : SP := ⟨[.ro (.int .i64)],[]⟩
noncomputable def Xg (N : Nat) : List (Nat × (Pk → Tr Pk)) := [(371,TD N)]
theorem vQ (N : Nat) : ah Tryz.prog (Xg N) := ⟨zv N,trivial⟩
@[reducible] def Df : LD := ⟨122,[6,5,7,4],[(.ret,[2,3]),(.exit 0,[6,5])],⟨[.int .i64,.int .i64,.int .i64,.adr 0 []],[.var 383 (.arr (.int .i64) 16)]⟩,[(.exit 0,⟨[.int .i64,.int .i64],[]⟩)]⟩
abbrev tY : Type := Int × Int × Int × (List Int)
abbrev tb : Type := Int × Int
noncomputable def E6 (N : Nat) (f : tY → Option tb) : tY → Option tb
  | (x0,x1,x2,x3) =>
  ac (decide (x2 ≤ (15 : Int))) (
    ac (x1 == (0 : Int)) (
      ac (within x2 (16 : Nat)) (
        Option.bind (x3[Int.toNat x2]?) fun y0 =>
        ac (decide (IntKind.wrap IntKind.i64 (IntKind.wrap IntKind.i64 (x0 * (2 : Int)) - y0) < (0 : Int))) (
          Option.bind (f (IntKind.wrap IntKind.i64 (IntKind.wrap IntKind.i64 (x0 * (2 : Int)) - y0),(50 : Int),IntKind.wrap IntKind.i64 (x2 + (1 : Int)),x3)) fun r => some r) (
          Option.bind (f (IntKind.wrap IntKind.i64 (IntKind.wrap IntKind.i64 (x0 * (2 : Int)) - y0),x1,IntKind.wrap IntKind.i64 (x2 + (1 : Int)),x3)) fun r => some r)) (
        none )) (
      some ((x0,x1)))) (
    some ((x0,x1)))
noncomputable def mP (N : Nat) : Nat → tY → Option tb
  | 0,_ => none
  | k + 1,x => E6 N (mP N k) x
noncomputable def El (N : Nat) (k : Nat) : Cut := Df.cut (mP N k)
theorem Ek (N : Nat) (k : Nat) : aj Tryz.prog false Tryz.f370 [] 122 (El N k) :=
  Df.loopT af al (vQ N) Tryz.f370 [] (cuts := []) trivial (by decide +kernel) (by kernel_rfl) (E6 N) (mP N) (fun _ => rfl) (fun _ _ => rfl) (fun f x => by kernel_rfl) k
@[reducible] def w370 : List SP := [⟨[.tup [.int .i64,.int .i64]],[]⟩]
noncomputable def VG (N : Nat) : ((List Int)) → Option (Int × Int)
  | x0 =>
  Option.bind (Ra N x0) fun y0 =>
  Option.bind (mP N N ((1 : Int),y0.2,(1 : Int),y0.1)) fun y1 =>
  ac (y1.2 != (0 : Int)) (
    some (((0 : Int),y1.2))) (
    some ((y1.1,(0 : Int))))
noncomputable def ac8 (N : Nat) : Pk → Tr Pk := ag s370 w370 (VG N)
theorem IR (N : Nat) : au Tryz.prog (370) (ac8 N) :=
  (ae af al (vQ N) Tryz.func370 s370 w370 [] (cuts := [(122,El N N)]) ⟨Ek N N,trivial⟩ (fun _ => by kernel_rfl) (by decide +kernel) (VG N) (fun x => by kernel_rfl))
@[reducible] def s354 : SP := ⟨[.ro (.int .i64)],[]⟩
noncomputable def Xv (N : Nat) : List (Nat × (Pk → Tr Pk)) := [(370,ac8 N),(371,TD N)]
theorem nH (N : Nat) : ah Tryz.prog (Xv N) := ⟨IR N,zv N,trivial⟩
@[reducible] def Dk : LD := ⟨250,[9,0,6,8],[(.ret,[2,3]),(.exit 0,[0,8])],⟨[.int .i64,.ro (.int .i64),.adr 0 [],.adr 1 []],[.var 383 (.arr (.int .i64) 16),.var 383 (.arr (.int .i64) 16)]⟩,[(.exit 0,⟨[.ro (.int .i64),.adr 0 []],[.var 383 (.arr (.int .i64) 16)]⟩)]⟩
abbrev ua : Type := Int × (List Int) × (List Int) × (List Int)
abbrev ti : Type := (List Int) × (List Int)
noncomputable def Fa (N : Nat) (f : ua → Option ti) : ua → Option ti
  | (x0,x1,x2,x3) =>
  ac (decide (x0 < (15 : Int))) (
    ac (within x0 (16 : Nat)) (
      Option.bind (x3[Int.toNat x0]?) fun y0 =>
      ac (within x0 (16 : Nat)) (
        Option.bind (x2[Int.toNat x0]?) fun y1 =>
        ac (within (IntKind.wrap IntKind.i64 (x0 + (1 : Int))) (16 : Nat)) (
          Option.bind (x3[Int.toNat (IntKind.wrap IntKind.i64 (x0 + (1 : Int)))]?) fun y2 =>
          Option.bind (f (IntKind.wrap IntKind.i64 (x0 + (1 : Int)),x1,x2,List.set x3 (Int.toNat (IntKind.wrap IntKind.i64 (x0 + (1 : Int)))) (IntKind.wrap IntKind.i64 (IntKind.wrap IntKind.i64 (y0 + y1) * (2 : Int))))) fun r => some r) (
          none )) (
        none )) (
      none )) (
    some ((x1,x3)))
noncomputable def mT (N : Nat) : Nat → ua → Option ti
  | 0,_ => none
  | k + 1,x => Fa N (mT N k) x
noncomputable def uV (N : Nat) (k : Nat) : Cut := Dk.cut (mT N k)
theorem qf (N : Nat) (k : Nat) : aj Tryz.prog false Tryz.f354 [] 250 (uV N k) :=
  Dk.loopT af al (nH N) Tryz.f354 [] (cuts := []) trivial (by decide +kernel) (by kernel_rfl) (Fa N) (mT N) (fun _ => rfl) (fun _ _ => rfl) (fun f x => by kernel_rfl) k
@[reducible] def xm : LD := ⟨1018,[46,45,44,10,8],[(.ret,[2,3]),(.exit 2,[10])],⟨[.int .i64,.int .i64,.ro (.int .i64),.sl 0,.adr 1 []],[.row y0 248,.var 383 (.arr (.int .i64) 16)]⟩,[(.exit 2,⟨[.sl 0],[.row y0 248]⟩)]⟩
abbrev oX : Type := Int × Int × (List Int) × (List (Int × (Int × Unit))) × (List Int)
abbrev oG : Type := (List (Int × (Int × Unit)))
noncomputable def yd (N : Nat) (f : oX → Option oG) : oX → Option oG
  | (x0,x1,x2,x3,x4) =>
  ac (decide (x0 < x1)) (
    ac (within x0 (List.length x2)) (
      Option.bind (x2[Int.toNat x0]?) fun y0 =>
      ac (decide (y0 > (0 : Int))) (
        ac (within y0 (16 : Nat)) (
          Option.bind (x4[Int.toNat y0]?) fun y1 =>
          ac (within x0 (List.length x3)) (
            Option.bind (x3[Int.toNat x0]?) fun y2 =>
            ac (within y0 (16 : Nat)) (
              Option.bind (x4[Int.toNat y0]?) fun y3 =>
              ac (within y0 (16 : Nat)) (
                Option.bind (x4[Int.toNat y0]?) fun y4 =>
                Option.bind (f (IntKind.wrap IntKind.i64 (x0 + (1 : Int)),x1,x2,List.set x3 (Int.toNat x0) (y1,y0,()),List.set x4 (Int.toNat y0) (IntKind.wrap IntKind.i64 (y3 + (1 : Int))))) fun r => some r) (
                none )) (
              none )) (
            none )) (
          none )) (
        Option.bind (f (IntKind.wrap IntKind.i64 (x0 + (1 : Int)),x1,x2,x3,x4)) fun r => some r)) (
      none )) (
    some (x3))
noncomputable def ki (N : Nat) : Nat → oX → Option oG
  | 0,_ => none
  | k + 1,x => yd N (ki N k) x
noncomputable def xU (N : Nat) (k : Nat) : Cut := xm.cut (ki N k)
theorem BE (N : Nat) (k : Nat) : aj Tryz.prog false Tryz.f354 [] 1018 (xU N k) :=
  xm.loopT af al (nH N) Tryz.f354 [] (cuts := [(250,uV N N)]) ⟨qf N N,trivial⟩ (by decide +kernel) (by kernel_rfl) (yd N) (ki N) (fun _ => rfl) (fun _ _ => rfl) (fun f x => by kernel_rfl) k
@[reducible] def w354 : List SP := [⟨[.tup [.sl 0,.int .i64]],[.row y0 248]⟩]
noncomputable def Re (N : Nat) : ((List Int)) → Option (Int × (List (Int × (Int × Unit))))
  | x0 =>
  Option.bind (VG N x0) fun y0 =>
  ac (y0.2 != (0 : Int)) (
    some ((y0.2,[]))) (
    Option.bind (Ra N x0) fun y1 =>
    Option.bind (mT N N ((1 : Int),x0,y1.1,[(0 : Int),(0 : Int),(0 : Int),(0 : Int),(0 : Int),(0 : Int),(0 : Int),(0 : Int),(0 : Int),(0 : Int),(0 : Int),(0 : Int),(0 : Int),(0 : Int),(0 : Int),(0 : Int)])) fun y2 =>
    ac (decide ((0 : Int) ≤ (↑(List.length y2.1) : Int) ∧ (↑(List.length y2.1) : Int) ≤ (↑(List.length y2.1) : Int) ∧ (↑(List.length y2.1) : Int) * (16 : Int) ≤ (140737488355328 : Int) ∧ (↑(List.length y2.1) : Int) ≤ (140737488355328 : Int))) (
      Option.bind (ki N N ((0 : Int),(↑(List.length y2.1) : Int),y2.1,List.replicate (Int.toNat (↑(List.length y2.1) : Int)) ((0 : Int),(0 : Int),()),y2.2)) fun y3 =>
      some (((0 : Int),y3))) (
      none ))
noncomputable def ad6 (N : Nat) : Pk → Tr Pk := ag s354 w354 (Re N)
theorem I0 (N : Nat) : au Tryz.prog (354) (ad6 N) :=
  (ae af al (nH N) Tryz.func354 s354 w354 [] (cuts := [(250,uV N N),(1018,xU N N)]) ⟨qf N N,BE N N,trivial⟩ (fun _ => by kernel_rfl) (by decide +kernel) (Re N) (fun x => by kernel_rfl))
@[reducible] def s387 : SP := ⟨[.int .i64,.int .i64,.int .i64],[]⟩
noncomputable def WZ (N : Nat) : List (Nat × (Pk → Tr Pk)) := []
theorem LK (N : Nat) : ah Tryz.prog (WZ N) := trivial
@[reducible] def w387 : List SP := [⟨[.int .i64],[]⟩]
noncomputable def VA (N : Nat) : (Int × Int × Int) → Option (Int)
  | (x0,x1,x2) =>
  ac (decide (x2 = (0 : Int))) (
    none ) (
    ac (decide (x1 = (0 : Int))) (
      none ) (
      some (IntKind.wrap IntKind.i64 ((if (0 : Int) > IntKind.wrap IntKind.i64 (IntKind.wrap IntKind.i64 (Int.tdiv (IntKind.wrap IntKind.i64 (x0 - x1)) x2) + (1 : Int)) then (0 : Int) else IntKind.wrap IntKind.i64 (IntKind.wrap IntKind.i64 (Int.tdiv (IntKind.wrap IntKind.i64 (x0 - x1)) x2) + (1 : Int))) * if (1 : Int) < IntKind.wrap IntKind.i64 (Int.tdiv x0 x1) then (1 : Int) else IntKind.wrap IntKind.i64 (Int.tdiv x0 x1)))))
noncomputable def aw7 (N : Nat) : Pk → Tr Pk := ag s387 w387 (VA N)
theorem Tp (N : Nat) : au Tryz.prog (387) (aw7 N) :=
  (ae af al (LK N) Tryz.func387 s387 w387 [] (cuts := []) trivial (fun _ => by kernel_rfl) (by decide +kernel) (VA N) (fun x => by kernel_rfl))
@[reducible] def s382 : SP := ⟨[.int .i64,.int .i64,.int .i64,.int .i64],[]⟩
noncomputable def W4 (N : Nat) : List (Nat × (Pk → Tr Pk)) := [(387,aw7 N)]
theorem vJ (N : Nat) : ah Tryz.prog (W4 N) := ⟨Tp N,trivial⟩
@[reducible] def Jq : LD := ⟨58,[10,14,13,0,1,2],[(.ret,[8,9]),(.exit 0,[10,0,1,2])],⟨[.int .i64,.int .i64,.int .i64,.int .i64,.int .i64,.int .i64],[]⟩,[(.exit 0,⟨[.int .i64,.int .i64,.int .i64,.int .i64],[]⟩)]⟩
abbrev AJ : Type := Int × Int × Int × Int × Int × Int
abbrev zS : Type := Int × Int × Int × Int
noncomputable def K4 (N : Nat) (f : AJ → Option zS) : AJ → Option zS
  | (x0,x1,x2,x3,x4,x5) =>
  ac (decide (x1 < x2)) (
    Option.bind (VA N (x1,x4,x5)) fun y0 =>
    ac (decide (y0 < (0 : Int))) (
      none ) (
      Option.bind (f (IntKind.wrap IntKind.i64 (x0 + IntKind.wrap IntKind.i64 ((1 : Int) * (2 : Int) ^ min (Int.toNat y0) (64 : Nat))),IntKind.wrap IntKind.i64 (x1 + (1 : Int)),x2,x3,x4,x5)) fun r => some r)) (
    some ((x0,x3,x4,x5)))
noncomputable def qU (N : Nat) : Nat → AJ → Option zS
  | 0,_ => none
  | k + 1,x => K4 N (qU N k) x
noncomputable def Kj (N : Nat) (k : Nat) : Cut := Jq.cut (qU N k)
theorem Hp (N : Nat) (k : Nat) : aj Tryz.prog false Tryz.f382 [] 58 (Kj N k) :=
  Jq.loopT af al (vJ N) Tryz.f382 [] (cuts := []) trivial (by decide +kernel) (by kernel_rfl) (K4 N) (qU N) (fun _ => rfl) (fun _ _ => rfl) (fun f x => by kernel_rfl) k
@[reducible] def w382 : List SP := [⟨[.tup [.int .i64,.int .i64]],[]⟩]
noncomputable def VB (N : Nat) : (Int × Int × Int × Int) → Option (Int × Int)
  | (x0,x1,x2,x3) =>
  Option.bind (qU N N (x3,(0 : Int),x0,x0,x1,x2)) fun y0 =>
  Option.bind (VA N (y0.2.1,y0.2.2.1,y0.2.2.2)) fun y1 =>
  some ((y0.1,y1))
noncomputable def ac3 (N : Nat) : Pk → Tr Pk := ag s382 w382 (VB N)
theorem IL (N : Nat) : au Tryz.prog (382) (ac3 N) :=
  (ae af al (vJ N) Tryz.func382 s382 w382 [] (cuts := [(58,Kj N N)]) ⟨Hp N N,trivial⟩ (fun _ => by kernel_rfl) (by decide +kernel) (VB N) (fun x => by kernel_rfl))
@[reducible] def s373 : SP := ⟨[.int .i64],[]⟩
noncomputable def Xd (N : Nat) : List (Nat × (Pk → Tr Pk)) := [(382,ac3 N)]
theorem LS (N : Nat) : ah Tryz.prog (Xd N) := ⟨IL N,trivial⟩
@[reducible] def w373 : List SP := [⟨[.tup [.int .i64,.int .i64]],[]⟩]
noncomputable def VF (N : Nat) : (Int) → Option (Int × Int)
  | x0 =>
  ac (x0 == (285 : Int)) (
    some (((258 : Int),(0 : Int)))) (
    ac (decide (x0 < (257 : Int))) (
      some (((0 : Int),(0 : Int)))) (
      ac (decide (x0 > (285 : Int))) (
        some (((0 : Int),(0 : Int)))) (
        Option.bind (VB N (IntKind.wrap IntKind.i64 (x0 - (257 : Int)),(8 : Int),(4 : Int),(3 : Int))) fun y0 =>
        some ((y0.1,y0.2)))))
noncomputable def ac7 (N : Nat) : Pk → Tr Pk := ag s373 w373 (VF N)
theorem IQ (N : Nat) : au Tryz.prog (373) (ac7 N) :=
  (ae af al (LS N) Tryz.func373 s373 w373 [] (cuts := []) trivial (fun _ => by kernel_rfl) (by decide +kernel) (VF N) (fun x => by kernel_rfl))
@[reducible] def s372 : SP := ⟨[.int .i64,.int .i64,.int .i64,.fn 373],[]⟩
noncomputable def Xe (N : Nat) : List (Nat × (Pk → Tr Pk)) := [(373,ac7 N)]
theorem vO (N : Nat) : ah Tryz.prog (Xe N) := ⟨IQ N,trivial⟩
@[reducible] def Jw : LD := ⟨26,[1,3,11,0],[(.ret,[8,9,10]),(.exit 0,[])],⟨[.int .i64,.fn 373,.int .i64,.int .i64],[]⟩,[(.ret,⟨[.int .i64,.int .i64,.int .i64],[]⟩),(.exit 0,⟨[],[]⟩)]⟩
abbrev AP : Type := Int × Int × Int
abbrev zY : Type := ((Int × Int × Int) ⊕ (Unit))
noncomputable def K9 (N : Nat) (f : AP → Option zY) : AP → Option zY
  | (x0,x1,x2) =>
  ac (decide (x1 ≥ x0)) (
    Option.bind (VF N x1) fun y0 =>
    ac (decide (y0.1 ≤ x2)) (
      some (.inl ((x1,IntKind.wrap IntKind.i64 (x2 - y0.1),y0.2)))) (
      Option.bind (f (x0,IntKind.wrap IntKind.i64 (x1 - (1 : Int)),x2)) fun r => match r with | .inl y => some (.inl y) | .inr y => some (.inr y))) (
    some (.inr (())))
noncomputable def qZ (N : Nat) : Nat → AP → Option zY
  | 0,_ => none
  | k + 1,x => K9 N (qZ N k) x
noncomputable def Kp (N : Nat) (k : Nat) : Cut := Jw.cut (qZ N k)
theorem Hv (N : Nat) (k : Nat) : aj Tryz.prog false Tryz.f372 [] 26 (Kp N k) :=
  Jw.loopT af al (vO N) Tryz.f372 [] (cuts := []) trivial (by decide +kernel) (by kernel_rfl) (K9 N) (qZ N) (fun _ => rfl) (fun _ _ => rfl) (fun f x => by kernel_rfl) k
@[reducible] def w372 : List SP := [⟨[.tup [.int .i64,.int .i64,.int .i64]],[]⟩]
noncomputable def ah5 (N : Nat) : (Int × Int × Int) → Option (Int × Int × Int)
  | (x0,x1,x2) =>
  Option.bind (qZ N N (x1,x2,x0)) fun y0 =>
  match y0 with
  | .inl y1 =>
    some ((y1.1,y1.2.1,y1.2.2))
  | .inr y1 =>
    some (((0 : Int),(0 : Int),(0 : Int)))
noncomputable def ax6 (N : Nat) : Pk → Tr Pk := ag s372 w372 (ah5 N)
theorem TC (N : Nat) : au Tryz.prog (372) (ax6 N) :=
  (ae af al (vO N) Tryz.func372 s372 w372 [] (cuts := [(26,Kp N N)]) ⟨Hv N N,trivial⟩ (fun _ => by kernel_rfl) (by decide +kernel) (ah5 N) (fun x => by kernel_rfl))
@[reducible] def s356 : SP := ⟨[.int .i64],[]⟩
noncomputable def Xt (N : Nat) : List (Nat × (Pk → Tr Pk)) := [(372,ax6 N)]
theorem LZ (N : Nat) : ah Tryz.prog (Xt N) := ⟨TC N,trivial⟩
@[reducible] def w356 : List SP := [⟨[.tup [.int .i64,.int .i64,.int .i64]],[]⟩]
noncomputable def VL (N : Nat) : (Int) → Option (Int × Int × Int)
  | x0 =>
  ac (decide (x0 > (258 : Int))) (
    some (((0 : Int),(0 : Int),(0 : Int)))) (
    Option.bind (ah5 N (x0,(257 : Int),(285 : Int))) fun y0 =>
    some ((y0.1,y0.2.1,y0.2.2)))
noncomputable def ad5 (N : Nat) : Pk → Tr Pk := ag s356 w356 (VL N)
theorem IZ (N : Nat) : au Tryz.prog (356) (ad5 N) :=
  (ae af al (LZ N) Tryz.func356 s356 w356 [] (cuts := []) trivial (fun _ => by kernel_rfl) (by decide +kernel) (VL N) (fun x => by kernel_rfl))
@[reducible] def s374 : SP := ⟨[.int .i64],[]⟩
noncomputable def Xc (N : Nat) : List (Nat × (Pk → Tr Pk)) := [(382,ac3 N)]
theorem LR (N : Nat) : ah Tryz.prog (Xc N) := ⟨IL N,trivial⟩
@[reducible] def w374 : List SP := [⟨[.tup [.int .i64,.int .i64]],[]⟩]
noncomputable def VE (N : Nat) : (Int) → Option (Int × Int)
  | x0 =>
  ac (decide (x0 < (0 : Int))) (
    some (((0 : Int),(0 : Int)))) (
    ac (decide (x0 ≥ (30 : Int))) (
      some (((0 : Int),(0 : Int)))) (
      Option.bind (VB N (x0,(4 : Int),(2 : Int),(1 : Int))) fun y0 =>
      some ((y0.1,y0.2))))
noncomputable def ac6 (N : Nat) : Pk → Tr Pk := ag s374 w374 (VE N)
theorem IP (N : Nat) : au Tryz.prog (374) (ac6 N) :=
  (ae af al (LR N) Tryz.func374 s374 w374 [] (cuts := []) trivial (fun _ => by kernel_rfl) (by decide +kernel) (VE N) (fun x => by kernel_rfl))
@[reducible] def s372a : SP := ⟨[.int .i64,.int .i64,.int .i64,.fn 374],[]⟩
noncomputable def Sy (N : Nat) : List (Nat × (Pk → Tr Pk)) := [(374,ac6 N)]
theorem rH (N : Nat) : ah Tryz.prog (Sy N) := ⟨IP N,trivial⟩
@[reducible] def Dd : LD := ⟨26,[1,3,11,0],[(.ret,[8,9,10]),(.exit 0,[])],⟨[.int .i64,.fn 374,.int .i64,.int .i64],[]⟩,[(.ret,⟨[.int .i64,.int .i64,.int .i64],[]⟩),(.exit 0,⟨[],[]⟩)]⟩
abbrev tW : Type := Int × Int × Int
abbrev sZ : Type := ((Int × Int × Int) ⊕ (Unit))
noncomputable def E4 (N : Nat) (f : tW → Option sZ) : tW → Option sZ
  | (x0,x1,x2) =>
  ac (decide (x1 ≥ x0)) (
    Option.bind (VE N x1) fun y0 =>
    ac (decide (y0.1 ≤ x2)) (
      some (.inl ((x1,IntKind.wrap IntKind.i64 (x2 - y0.1),y0.2)))) (
      Option.bind (f (x0,IntKind.wrap IntKind.i64 (x1 - (1 : Int)),x2)) fun r => match r with | .inl y => some (.inl y) | .inr y => some (.inr y))) (
    some (.inr (())))
noncomputable def mN (N : Nat) : Nat → tW → Option sZ
  | 0,_ => none
  | k + 1,x => E4 N (mN N k) x
noncomputable def Eh (N : Nat) (k : Nat) : Cut := Dd.cut (mN N k)
theorem Eg (N : Nat) (k : Nat) : aj Tryz.prog false Tryz.f372 [] 26 (Eh N k) :=
  Dd.loopT af al (rH N) Tryz.f372 [] (cuts := []) trivial (by decide +kernel) (by kernel_rfl) (E4 N) (mN N) (fun _ => rfl) (fun _ _ => rfl) (fun f x => by kernel_rfl) k
@[reducible] def w372a : List SP := [⟨[.tup [.int .i64,.int .i64,.int .i64]],[]⟩]
noncomputable def Q9 (N : Nat) : (Int × Int × Int) → Option (Int × Int × Int)
  | (x0,x1,x2) =>
  Option.bind (mN N N (x1,x2,x0)) fun y0 =>
  match y0 with
  | .inl y1 =>
    some ((y1.1,y1.2.1,y1.2.2))
  | .inr y1 =>
    some (((0 : Int),(0 : Int),(0 : Int)))
noncomputable def WB (N : Nat) : Pk → Tr Pk := ag s372a w372a (Q9 N)
theorem Qz (N : Nat) : au Tryz.prog (372) (WB N) :=
  (ae af al (rH N) Tryz.func372 s372a w372a [] (cuts := [(26,Eh N N)]) ⟨Eg N N,trivial⟩ (fun _ => by kernel_rfl) (by decide +kernel) (Q9 N) (fun x => by kernel_rfl))
@[reducible] def s357 : SP := ⟨[.int .i64],[]⟩
noncomputable def Xs (N : Nat) : List (Nat × (Pk → Tr Pk)) := [(372,WB N)]
theorem LY (N : Nat) : ah Tryz.prog (Xs N) := ⟨Qz N,trivial⟩
@[reducible] def w357 : List SP := [⟨[.tup [.int .i64,.int .i64,.int .i64]],[]⟩]
noncomputable def VK (N : Nat) : (Int) → Option (Int × Int × Int)
  | x0 =>
  ac (decide (x0 > (32768 : Int))) (
    some (((0 : Int),(0 : Int),(0 : Int)))) (
    Option.bind (Q9 N (x0,(0 : Int),(29 : Int))) fun y0 =>
    some ((y0.1,y0.2.1,y0.2.2)))
noncomputable def ad4 (N : Nat) : Pk → Tr Pk := ag s357 w357 (VK N)
theorem IY (N : Nat) : au Tryz.prog (357) (ad4 N) :=
  (ae af al (LY N) Tryz.func357 s357 w357 [] (cuts := []) trivial (fun _ => by kernel_rfl) (by decide +kernel) (VK N) (fun x => by kernel_rfl))
@[reducible] def s338 : SP := ⟨[.ro y4],[]⟩
noncomputable def XI (N : Nat) : List (Nat × (Pk → Tr Pk)) := [(335,QB N),(356,ad5 N),(357,ad4 N)]
theorem vX (N : Nat) : ah Tryz.prog (XI N) := ⟨qL N,IZ N,IY N,trivial⟩
@[reducible] def Dn : LD := ⟨122,[18,17,16,2,3],[(.ret,[2,3]),(.exit 0,[2,3])],⟨[.int .i64,.int .i64,.ro y4,.sl 0,.sl 1],[.row (.int .i64) 3,.row (.int .i64) 3]⟩,[(.exit 0,⟨[.sl 0,.sl 1],[.row (.int .i64) 3,.row (.int .i64) 3]⟩)]⟩
abbrev ug : Type := Int × Int × (List (Int × (Int × (Int × Unit)))) × (List Int) × (List Int)
abbrev tr : Type := (List Int) × (List Int)
noncomputable def Fg (N : Nat) (f : ug → Option tr) : ug → Option tr
  | (x0,x1,x2,x3,x4) =>
  ac (decide (x0 < x1)) (
    ac (within x0 (List.length x2)) (
      Option.bind (x2[Int.toNat x0]?) fun y0 =>
      Option.bind (N6 N (y0.1,y0.2.1,y0.2.2.1)) fun y1 =>
      ac (!y1) (
        Option.bind (f (IntKind.wrap IntKind.i64 (x0 + (1 : Int)),x1,x2,x3,x4)) fun r => some r) (
        ac (y0.2.1 == (0 : Int)) (
          ac (within y0.1 (List.length x3)) (
            Option.bind (x3[Int.toNat y0.1]?) fun y2 =>
            ac (within y0.1 (List.length x3)) (
              Option.bind (x3[Int.toNat y0.1]?) fun y3 =>
              Option.bind (f (IntKind.wrap IntKind.i64 (x0 + (1 : Int)),x1,x2,List.set x3 (Int.toNat y0.1) (IntKind.wrap IntKind.i64 (y2 + (1 : Int))),x4)) fun r => some r) (
              none )) (
            none )) (
          Option.bind (VL N y0.2.1) fun y4 =>
          Option.bind (VK N y0.2.2.1) fun y5 =>
          ac (within y4.1 (List.length x3)) (
            Option.bind (x3[Int.toNat y4.1]?) fun y6 =>
            ac (within y4.1 (List.length x3)) (
              Option.bind (x3[Int.toNat y4.1]?) fun y7 =>
              ac (within y5.1 (List.length x4)) (
                Option.bind (x4[Int.toNat y5.1]?) fun y8 =>
                ac (within y5.1 (List.length x4)) (
                  Option.bind (x4[Int.toNat y5.1]?) fun y9 =>
                  Option.bind (f (IntKind.wrap IntKind.i64 (x0 + (1 : Int)),x1,x2,List.set x3 (Int.toNat y4.1) (IntKind.wrap IntKind.i64 (y6 + (1 : Int))),List.set x4 (Int.toNat y5.1) (IntKind.wrap IntKind.i64 (y8 + (1 : Int))))) fun r => some r) (
                  none )) (
                none )) (
              none )) (
            none )))) (
      none )) (
    some ((x3,x4)))
noncomputable def mY (N : Nat) : Nat → ug → Option tr
  | 0,_ => none
  | k + 1,x => Fg N (mY N k) x
noncomputable def Ew (N : Nat) (k : Nat) : Cut := Dn.cut (mY N k)
theorem Ev (N : Nat) (k : Nat) : aj Tryz.prog false Tryz.f338 [] 122 (Ew N k) :=
  Dn.loopT af al (vX N) Tryz.f338 [] (cuts := []) trivial (by decide +kernel) (by kernel_rfl) (Fg N) (mY N) (fun _ => rfl) (fun _ _ => rfl) (fun f x => by kernel_rfl) k
@[reducible] def w338 : List SP := [⟨[.tup [.sl 0,.sl 1]],[.row (.int .i64) 3,.row (.int .i64) 3]⟩]
noncomputable def VP (N : Nat) : ((List (Int × (Int × (Int × Unit))))) → Option ((List Int) × (List Int))
  | x0 =>
  Option.bind (mY N N ((0 : Int),(↑(List.length x0) : Int),x0,[(0 : Int),(0 : Int),(0 : Int),(0 : Int),(0 : Int),(0 : Int),(0 : Int),(0 : Int),(0 : Int),(0 : Int),(0 : Int),(0 : Int),(0 : Int),(0 : Int),(0 : Int),(0 : Int),(0 : Int),(0 : Int),(0 : Int),(0 : Int),(0 : Int),(0 : Int),(0 : Int),(0 : Int),(0 : Int),(0 : Int),(0 : Int),(0 : Int),(0 : Int),(0 : Int),(0 : Int),(0 : Int),(0 : Int),(0 : Int),(0 : Int),(0 : Int),(0 : Int),(0 : Int),(0 : Int),(0 : Int),(0 : Int),(0 : Int),(0 : Int),(0 : Int),(0 : Int),(0 : Int),(0 : Int),(0 : Int),(0 : Int),(0 : Int),(0 : Int),(0 : Int),(0 : Int),(0 : Int),(0 : Int),(0 : Int),(0 : Int),(0 : Int),(0 : Int),(0 : Int),(0 : Int),(0 : Int),(0 : Int),(0 : Int),(0 : Int),(0 : Int),(0 : Int),(0 : Int),(0 : Int),(0 : Int),(0 : Int),(0 : Int),(0 : Int),(0 : Int),(0 : Int),(0 : Int),(0 : Int),(0 : Int),(0 : Int),(0 : Int),(0 : Int),(0 : Int),(0 : Int),(0 : Int),(0 : Int),(0 : Int),(0 : Int),(0 : Int),(0 : Int),(0 : Int),(0 : Int),(0 : Int),(0 : Int),(0 : Int),(0 : Int),(0 : Int),(0 : Int),(0 : Int),(0 : Int),(0 : Int),(0 : Int),(0 : Int),(0 : Int),(0 : Int),(0 : Int),(0 : Int),(0 : Int),(0 : Int),(0 : Int),(0 : Int),(0 : Int),(0 : Int),(0 : Int),(0 : Int),(0 : Int),(0 : Int),(0 : Int),(0 : Int),(0 : Int),(0 : Int),(0 : Int),(0 : Int),(0 : Int),(0 : Int),(0 : Int),(0 : Int),(0 : Int),(0 : Int),(0 : Int),(0 : Int),(0 : Int),(0 : Int),(0 : Int),(0 : Int),(0 : Int),(0 : Int),(0 : Int),(0 : Int),(0 : Int),(0 : Int),(0 : Int),(0 : Int),(0 : Int),(0 : Int),(0 : Int),(0 : Int),(0 : Int),(0 : Int),(0 : Int),(0 : Int),(0 : Int),(0 : Int),(0 : Int),(0 : Int),(0 : Int),(0 : Int),(0 : Int),(0 : Int),(0 : Int),(0 : Int),(0 : Int),(0 : Int),(0 : Int),(0 : Int),(0 : Int),(0 : Int),(0 : Int),(0 : Int),(0 : Int),(0 : Int),(0 : Int),(0 : Int),(0 : Int),(0 : Int),(0 : Int),(0 : Int),(0 : Int),(0 : Int),(0 : Int),(0 : Int),(0 : Int),(0 : Int),(0 : Int),(0 : Int),(0 : Int),(0 : Int),(0 : Int),(0 : Int),(0 : Int),(0 : Int),(0 : Int),(0 : Int),(0 : Int),(0 : Int),(0 : Int),(0 : Int),(0 : Int),(0 : Int),(0 : Int),(0 : Int),(0 : Int),(0 : Int),(0 : Int),(0 : Int),(0 : Int),(0 : Int),(0 : Int),(0 : Int),(0 : Int),(0 : Int),(0 : Int),(0 : Int),(0 : Int),(0 : Int),(0 : Int),(0 : Int),(0 : Int),(0 : Int),(0 : Int),(0 : Int),(0 : Int),(0 : Int),(0 : Int),(0 : Int),(0 : Int),(0 : Int),(0 : Int),(0 : Int),(0 : Int),(0 : Int),(0 : Int),(0 : Int),(0 : Int),(0 : Int),(0 : Int),(0 : Int),(0 : Int),(0 : Int),(0 : Int),(0 : Int),(0 : Int),(0 : Int),(0 : Int),(0 : Int),(0 : Int),(0 : Int),(0 : Int),(0 : Int),(0 : Int),(0 : Int),(0 : Int),(0 : Int),(0 : Int),(0 : Int),(0 : Int),(0 : Int),(1 : Int),(0 : Int),(0 : Int),(0 : Int),(0 : Int),(0 : Int),(0 : Int),(0 : Int),(0 : Int),(0 : Int),(0 : Int),(0 : Int),(0 : Int),(0 : Int),(0 : Int),(0 : Int),(0 : Int),(0 : Int),(0 : Int),(0 : Int),(0 : Int),(0 : Int),(0 : Int),(0 : Int),(0 : Int),(0 : Int),(0 : Int),(0 : Int),(0 : Int),(0 : Int)],List.replicate (30 : Nat) (0 : Int))) fun y0 =>
  some ((y0.1,y0.2))
noncomputable def ae0 (N : Nat) : Pk → Tr Pk := ag s338 w338 (VP N)
theorem I2 (N : Nat) : au Tryz.prog (338) (ae0 N) :=
  (ae af al (vX N) Tryz.func338 s338 w338 [] (cuts := [(122,Ew N N)]) ⟨Ev N N,trivial⟩ (fun _ => by kernel_rfl) (by decide +kernel) (VP N) (fun x => by kernel_rfl))
@[reducible] def s355 : SP := ⟨[.ro y0,.ro (.int .i64)],[]⟩
noncomputable def Xu (N : Nat) : List (Nat × (Pk → Tr Pk)) := []
theorem vU (N : Nat) : ah Tryz.prog (Xu N) := trivial
@[reducible] def JC : LD := ⟨26,[8,7,0,9],[(.ret,[4]),(.exit 0,[])],⟨[.int .i64,.ro (.int .i64),.ro y0,.int .i64],[]⟩,[(.ret,⟨[.bool],[]⟩),(.exit 0,⟨[],[]⟩)]⟩
abbrev AV : Type := Int × (List Int) × (List (Int × (Int × Unit))) × Int
abbrev Ae : Type := ((Bool) ⊕ (Unit))
noncomputable def Lf (N : Nat) (f : AV → Option Ae) : AV → Option Ae
  | (x0,x1,x2,x3) =>
  ac (decide (x3 < x0)) (
    ac (within x3 (List.length x1)) (
      Option.bind (x1[Int.toNat x3]?) fun y0 =>
      ac (decide (y0 > (0 : Int))) (
        ac (decide (x3 ≥ (↑(List.length x2) : Int))) (
          some (.inl (false))) (
          ac (within x3 (List.length x2)) (
            Option.bind (x2[Int.toNat x3]?) fun y1 =>
            ac (y1.2.1 == (0 : Int)) (
              some (.inl (false))) (
              Option.bind (f (x0,x1,x2,IntKind.wrap IntKind.i64 (x3 + (1 : Int)))) fun r => match r with | .inl y => some (.inl y) | .inr y => some (.inr y))) (
            none ))) (
        Option.bind (f (x0,x1,x2,IntKind.wrap IntKind.i64 (x3 + (1 : Int)))) fun r => match r with | .inl y => some (.inl y) | .inr y => some (.inr y))) (
      none )) (
    some (.inr (())))
noncomputable def q9 (N : Nat) : Nat → AV → Option Ae
  | 0,_ => none
  | k + 1,x => Lf N (q9 N k) x
noncomputable def Kv (N : Nat) (k : Nat) : Cut := JC.cut (q9 N k)
theorem HB (N : Nat) (k : Nat) : aj Tryz.prog false Tryz.f355 [] 26 (Kv N k) :=
  JC.loopT af al (vU N) Tryz.f355 [] (cuts := []) trivial (by decide +kernel) (by kernel_rfl) (Lf N) (q9 N) (fun _ => rfl) (fun _ _ => rfl) (fun f x => by kernel_rfl) k
@[reducible] def w355 : List SP := [⟨[.bool],[]⟩]
noncomputable def VM (N : Nat) : ((List (Int × (Int × Unit))) × (List Int)) → Option (Bool)
  | (x0,x1) =>
  Option.bind (q9 N N ((↑(List.length x1) : Int),x1,x0,(0 : Int))) fun y0 =>
  match y0 with
  | .inl y1 =>
    some (y1)
  | .inr y1 =>
    some (true)
noncomputable def ay3 (N : Nat) : Pk → Tr Pk := ag s355 w355 (VM N)
theorem TK (N : Nat) : au Tryz.prog (355) (ay3 N) :=
  (ae af al (vU N) Tryz.func355 s355 w355 [] (cuts := [(26,Kv N N)]) ⟨HB N N,trivial⟩ (fun _ => by kernel_rfl) (by decide +kernel) (VM N) (fun x => by kernel_rfl))
@[reducible] def s337 : SP := ⟨[.adr 0 [],.ro (.int .i64),.ro (.int .i64),.ro y4],[.var 221 (.agg [.sl 1,.int .i64,.int .i64]),.row (.int .u8) 5]⟩
noncomputable def XJ (N : Nat) : List (Nat × (Pk → Tr Pk)) := [(335,QB N),(354,ad6 N),(338,ae0 N),(355,ay3 N),(222,UF N),(356,ad5 N),(269,Gz N),(357,ad4 N)]
theorem jO (N : Nat) : ah Tryz.prog (XJ N) := ⟨qL N,I0 N,I2 N,TK N,zD N,IZ N,j6 N,IY N,trivial⟩
@[reducible] def JH : LD := ⟨26,[23,3,0,2,1,22,24],[(.ret,[8]),(.exit 0,[1,2,0,3])],⟨[.int .i64,.ro y4,.adr 0 [],.ro (.int .i64),.ro (.int .i64),.ro y4,.int .i64],[.var 221 (.agg [.sl 1,.int .i64,.int .i64]),.row (.int .u8) 5]⟩,[(.ret,⟨[.int .i64],[.var 221 (.agg [.sl 1,.int .i64,.int .i64]),.row (.int .u8) 5]⟩),(.exit 0,⟨[.ro (.int .i64),.ro (.int .i64),.adr 0 [],.ro y4],[.var 221 (.agg [.sl 1,.int .i64,.int .i64]),.row (.int .u8) 5]⟩)]⟩
abbrev AY : Type := Int × (List (Int × (Int × (Int × Unit)))) × (List Int) × (List Int) × (List (Int × (Int × (Int × Unit)))) × Int × Int × Int × (List Int)
abbrev Ah : Type := ((Int × Int × Int × (List Int)) ⊕ ((List Int) × (List Int) × (List (Int × (Int × (Int × Unit)))) × Int × Int × (List Int)))
noncomputable def Lk (N : Nat) (f : AY → Option Ah) : AY → Option Ah
  | (x0,x1,x2,x3,x4,x5,x6,x7,x8) =>
  ac (decide (x5 < x0)) (
    ac (within x5 (List.length x4)) (
      Option.bind (x4[Int.toNat x5]?) fun y0 =>
      Option.bind (N6 N (y0.1,y0.2.1,y0.2.2.1)) fun y1 =>
      ac (!y1) (
        some (.inl (((1 : Int),x6,x7,x8)))) (
        Option.bind (f (x0,x1,x2,x3,x4,IntKind.wrap IntKind.i64 (x5 + (1 : Int)),x6,x7,x8)) fun r => match r with | .inl y => some (.inl y) | .inr y => some (.inr y))) (
      none )) (
    some (.inr ((x3,x2,x1,x6,x7,x8))))
noncomputable def rh (N : Nat) : Nat → AY → Option Ah
  | 0,_ => none
  | k + 1,x => Lk N (rh N k) x
noncomputable def rB (N : Nat) (k : Nat) : Cut := JH.cut (rh N k)
theorem lK (N : Nat) (k : Nat) : aj Tryz.prog false Tryz.f337 [0] 26 (rB N k) :=
  JH.loopT af al (jO N) Tryz.f337 [0] (cuts := []) trivial (by decide +kernel) (by kernel_rfl) (Lk N) (rh N) (fun _ => rfl) (fun _ _ => rfl) (fun f x => by kernel_rfl) k
@[reducible] def xq : LD := ⟨1018,[67,66,65,13,0,11],[(.ret,[8]),(.exit 2,[0,11])],⟨[.int .i64,.int .i64,.ro y4,.sl 1,.adr 0 [],.sl 2],[.var 221 (.agg [.sl 3,.int .i64,.int .i64]),.row y0 248,.row y0 248,.row (.int .u8) 5]⟩,[(.exit 2,⟨[.adr 0 [],.sl 1],[.var 221 (.agg [.sl 2,.int .i64,.int .i64]),.row y0 248,.row (.int .u8) 5]⟩)]⟩
abbrev o7 : Type := Int × Int × (List (Int × (Int × (Int × Unit)))) × Int × Int × (List (Int × (Int × Unit))) × (List (Int × (Int × Unit))) × (List Int)
abbrev oM : Type := Int × Int × (List (Int × (Int × Unit))) × (List Int)
noncomputable def yj (N : Nat) (f : o7 → Option oM) : o7 → Option oM
  | (x0,x1,x2,x3,x4,x5,x6,x7) =>
  ac (decide (x0 < x1)) (
    ac (within x0 (List.length x2)) (
      Option.bind (x2[Int.toNat x0]?) fun y0 =>
      ac (y0.2.1 == (0 : Int)) (
        ac (within y0.1 (List.length x6)) (
          Option.bind (x6[Int.toNat y0.1]?) fun y1 =>
          Option.bind (DW N (y1.1,y1.2.1,x3,x4,x7)) fun y2 =>
          Option.bind (f (IntKind.wrap IntKind.i64 (x0 + (1 : Int)),x1,x2,y2.1,y2.2.1,x5,x6,y2.2.2)) fun r => some r) (
          none )) (
        Option.bind (VL N y0.2.1) fun y3 =>
        ac (within y3.1 (List.length x6)) (
          Option.bind (x6[Int.toNat y3.1]?) fun y4 =>
          Option.bind (DW N (y4.1,y4.2.1,x3,x4,x7)) fun y5 =>
          Option.bind (gY N (y3.2.2,y3.2.1,y5.1,y5.2.1,y5.2.2)) fun y6 =>
          Option.bind (VK N y0.2.2.1) fun y7 =>
          ac (within y7.1 (List.length x5)) (
            Option.bind (x5[Int.toNat y7.1]?) fun y8 =>
            Option.bind (DW N (y8.1,y8.2.1,y6.1,y6.2.1,y6.2.2)) fun y9 =>
            Option.bind (gY N (y7.2.2,y7.2.1,y9.1,y9.2.1,y9.2.2)) fun y10 =>
            Option.bind (f (IntKind.wrap IntKind.i64 (x0 + (1 : Int)),x1,x2,y10.1,y10.2.1,x5,x6,y10.2.2)) fun r => some r) (
            none )) (
          none ))) (
      none )) (
    some ((x3,x4,x6,x7)))
noncomputable def kq (N : Nat) : Nat → o7 → Option oM
  | 0,_ => none
  | k + 1,x => yj N (kq N k) x
noncomputable def pv (N : Nat) (k : Nat) : Cut := xq.cut (kq N k)
theorem nu (N : Nat) (k : Nat) : aj Tryz.prog false Tryz.f337 [0] 1018 (pv N k) :=
  xq.loopT af al (jO N) Tryz.f337 [0] (cuts := [(26,rB N N)]) ⟨lK N N,trivial⟩ (by decide +kernel) (by kernel_rfl) (yj N) (kq N) (fun _ => rfl) (fun _ _ => rfl) (fun f x => by kernel_rfl) k
@[reducible] def Do : LD := ⟨127,[3,13,0,11],[(.ret,[8]),(.normal,[8])],⟨[.ro y4,.sl 1,.adr 0 [],.sl 2],[.var 221 (.agg [.sl 3,.int .i64,.int .i64]),.row y0 248,.row y0 248,.row (.int .u8) 5]⟩,[(.ret,⟨[.int .i64],[.var 221 (.agg [.sl 1,.int .i64,.int .i64]),.row (.int .u8) 5]⟩)]⟩
noncomputable def uM (N : Nat) : ((List (Int × (Int × (Int × Unit)))) × Int × Int × (List (Int × (Int × Unit))) × (List (Int × (Int × Unit))) × (List Int)) → Option (Int × Int × Int × (List Int))
  | (x0,x1,x2,x3,x4,x5) =>
  Option.bind (kq N N ((0 : Int),(↑(List.length x0) : Int),x0,x1,x2,x3,x4,x5)) fun y0 =>
  ac (within (256 : Int) (List.length y0.2.2.1)) (
    Option.bind (y0.2.2.1[(256 : Nat)]?) fun y1 =>
    Option.bind (DW N (y1.1,y1.2.1,y0.1,y0.2.1,y0.2.2.2)) fun y2 =>
    some (((0 : Int),y2.1,y2.2.1,y2.2.2))) (
    none )
noncomputable def Ez (N : Nat) (_ : Nat) : Cut := Do.cut (uM N)
theorem Ey (N : Nat) (k : Nat) : aj Tryz.prog false Tryz.f337 [0] 127 (Ez N k) :=
  Do.pieceT af al (jO N) Tryz.f337 [0] (cuts := [(26,rB N N),(1018,pv N N)]) ⟨lK N N,nu N N,trivial⟩ (by decide +kernel) (by kernel_rfl) (uM N) (fun x => by kernel_rfl)
@[reducible] def w337 : List SP := [⟨[.int .i64],[.var 221 (.agg [.sl 1,.int .i64,.int .i64]),.row (.int .u8) 5]⟩]
noncomputable def VQ (N : Nat) : ((List Int) × (List Int) × (List (Int × (Int × (Int × Unit)))) × Int × Int × (List Int)) → Option (Int × Int × Int × (List Int))
  | (x0,x1,x2,x3,x4,x5) =>
  Option.bind (rh N N ((↑(List.length x2) : Int),x2,x1,x0,x2,(0 : Int),x3,x4,x5)) fun y0 =>
  match y0 with
  | .inl y1 =>
    some ((y1.1,y1.2.1,y1.2.2.1,y1.2.2.2))
  | .inr (y1_0,y1_1,y1_2,y1_3,y1_4,y1_5) =>
    Option.bind (Re N y1_0) fun y2 =>
    Option.bind (Re N y1_1) fun y3 =>
    Option.bind (VP N y1_2) fun y4 =>
    ac (y2.1 != (0 : Int)) (
      some (((50 : Int),y1_3,y1_4,y1_5))) (
      ac (y3.1 != (0 : Int)) (
        some (((50 : Int),y1_3,y1_4,y1_5))) (
        Option.bind (VM N (y2.2,y4.1)) fun y5 =>
        ac (!y5) (
          some (((50 : Int),y1_3,y1_4,y1_5))) (
          Option.bind (VM N (y3.2,y4.2)) fun y6 =>
          ac (!y6) (
            some (((50 : Int),y1_3,y1_4,y1_5))) (
            Option.bind (uM N (y1_2,y1_3,y1_4,y3.2,y2.2,y1_5)) fun y7 =>
            some ((y7.1,y7.2.1,y7.2.2.1,y7.2.2.2))))))
noncomputable def az5 (N : Nat) : Pk → Tr Pk := ag s337 w337 (VQ N)
theorem TX (N : Nat) : au Tryz.prog (337) (az5 N) :=
  (ae af al (jO N) Tryz.func337 s337 w337 [0] (cuts := [(26,rB N N),(1018,pv N N),(127,Ez N N)]) ⟨lK N N,nu N N,Ey N N,trivial⟩ (fun _ => by kernel_rfl) (by decide +kernel) (VQ N) (fun x => by kernel_rfl))
@[reducible] def y5 : Ty := (.cons (.int .i64) (.cons (.sl (.int .i64)) .unit))
@[reducible] def y6 : Ty := (.sl (.cons (.int .i64) (.cons (.sl (.int .i64)) .unit)))
@[reducible] def s388 : SP := ⟨[.nilsl,.int .i64],[]⟩
noncomputable def WY (N : Nat) : List (Nat × (Pk → Tr Pk)) := []
theorem LJ (N : Nat) : ah Tryz.prog (WY N) := trivial
@[reducible] def w388 : List SP := [⟨[.slp 0 (.c 0) (.c 0)],[.row y5 391]⟩,⟨[.sl 0],[.row y5 391]⟩]
noncomputable def ag6 (N : Nat) : (Int) → Option ((((List (Int × ((List Int) × Unit)))) ⊕ ((List (Int × ((List Int) × Unit))))))
  | x0 =>
  ac (decide (x0 < (0 : Int))) (
    none ) (
    ac (decide (IntKind.wrap IntKind.i64 (x0 - (0 : Int)) > (0 : Int))) (
      ac (decide ((0 : Int) < IntKind.wrap IntKind.i64 (x0 - (0 : Int)) ∧ IntKind.wrap IntKind.i64 (x0 - (0 : Int)) * (32 : Int) ≤ (140737488355328 : Int) ∧ IntKind.wrap IntKind.i64 (x0 - (0 : Int)) ≤ (140737488355328 : Int))) (
        ac (decide ((0 : Int) ≤ (0 : Int) ∧ (0 : Int) ≤ (↑(List.length (List.replicate (Int.toNat (IntKind.wrap IntKind.i64 (x0 - (0 : Int)))) ((0 : Int),as2 (Ty.den (Ty.int IntKind.i64)),()))) : Int))) (
          some (.inl (List.replicate (Int.toNat (IntKind.wrap IntKind.i64 (x0 - (0 : Int)))) ((0 : Int),as2 (Ty.den (Ty.int IntKind.i64)),())))) (
          none )) (
        none )) (
      some (.inr ([]))))
noncomputable def aw6 (N : Nat) : Pk → Tr Pk := r8 (H5 (Ty.cons (Ty.int IntKind.i64) (Ty.cons (Ty.sl (Ty.int IntKind.i64)) (Ty.unit))) 391) (ag s388 w388 (ag6 N))
theorem To (N : Nat) : au Tryz.prog (388) (aw6 N) :=
  iJ (BN _ _) (ae af al (LJ N) Tryz.func388 s388 w388 [] (cuts := []) trivial (fun _ => by kernel_rfl) (by decide +kernel) (ag6 N) (fun x => by kernel_rfl)) (by decide +kernel)
@[reducible] def s383 : SP := ⟨[.sl 0],[.row y6 387]⟩
noncomputable def W3 (N : Nat) : List (Nat × (Pk → Tr Pk)) := [(388,aw6 N)]
theorem nD (N : Nat) : ah Tryz.prog (W3 N) := ⟨To N,trivial⟩
@[reducible] def Jp : LD := ⟨58,[3,11,10,0,9],[(.ret,[2]),(.exit 0,[3,0])],⟨[.int .i64,.int .i64,.int .i64,.sl 0,.sl 0],[.row y6 387]⟩,[(.exit 0,⟨[.int .i64,.sl 0],[.row y6 387]⟩)]⟩
abbrev AI : Type := Int × Int × Int × (List (List (Int × ((List Int) × Unit))))
abbrev zR : Type := Int × (List (List (Int × ((List Int) × Unit))))
noncomputable def K3 (N : Nat) (f : AI → Option zR) : AI → Option zR
  | (x0,x1,x2,x3) =>
  ac (decide (x1 < x2)) (
    ac (within x1 (List.length x3)) (
      Option.bind (x3[Int.toNat x1]?) fun y0 =>
      ac (decide (IntKind.wrap IntKind.i64 (x0 + (↑(List.length y0) : Int)) < (0 : Int))) (
        none ) (
        Option.bind (f (IntKind.wrap IntKind.i64 (x0 + (↑(List.length y0) : Int)),IntKind.wrap IntKind.i64 (x1 + (1 : Int)),x2,x3)) fun r => some r)) (
      none )) (
    some ((x0,x3)))
noncomputable def qT (N : Nat) : Nat → AI → Option zR
  | 0,_ => none
  | k + 1,x => K3 N (qT N k) x
noncomputable def BC (N : Nat) (k : Nat) : Cut := Jp.cut (qT N k)
theorem uT (N : Nat) (k : Nat) : aj Tryz.prog false Tryz.f383 [] 58 (BC N k) :=
  Jp.loopT af al (nD N) Tryz.f383 [] (cuts := []) trivial (by decide +kernel) (by kernel_rfl) (K3 N) (qT N) (fun _ => rfl) (fun _ _ => rfl) (fun f x => by kernel_rfl) k
@[reducible] def Dc : LD := ⟨250,[6,27,26,25],[(.ret,[2]),(.exit 2,[6])],⟨[.sl 0,.int .i64,.int .i64,.sl 1],[.row y5 391,.row y6 387]⟩,[(.exit 2,⟨[.sl 0],[.row y5 391]⟩)]⟩
abbrev tV : Type := Int × Int × (List (Int × ((List Int) × Unit))) × (List (List (Int × ((List Int) × Unit))))
abbrev sY : Type := (List (Int × ((List Int) × Unit)))
noncomputable def E3 (N : Nat) (f : tV → Option sY) : tV → Option sY
  | (x0,x1,x2,x3) =>
  ac (decide (x0 < x1)) (
    ac (within x0 (List.length x3)) (
      Option.bind (x3[Int.toNat x0]?) fun y0 =>
      ac (decide ((List.length x2 + List.length y0) * (32 : Nat) ≤ (140737488355328 : Nat) ∧ List.length x2 + List.length y0 ≤ (140737488355328 : Nat))) (
        Option.bind (f (IntKind.wrap IntKind.i64 (x0 + (1 : Int)),x1,x2 ++ y0,x3)) fun r => some r) (
        none )) (
      none )) (
    some (x2))
noncomputable def ji (N : Nat) : Nat → tV → Option sY
  | 0,_ => none
  | k + 1,x => E3 N (ji N k) x
noncomputable def Ef (N : Nat) (k : Nat) : Cut := Dc.cut (ji N k)
theorem Ee (N : Nat) (k : Nat) : aj Tryz.prog false Tryz.f383 [] 250 (Ef N k) :=
  Dc.loopT af al (nD N) Tryz.f383 [] (cuts := [(58,BC N N)]) ⟨uT N N,trivial⟩ (by decide +kernel) (by kernel_rfl) (E3 N) (ji N) (fun _ => rfl) (fun _ _ => rfl) (fun f x => by kernel_rfl) k
@[reducible] def w383 : List SP := [⟨[.sl 0],[.row y5 391]⟩]
noncomputable def ag9 (N : Nat) : ((List (List (Int × ((List Int) × Unit))))) → Option ((List (Int × ((List Int) × Unit))))
  | x0 =>
  Option.bind (qT N N ((0 : Int),(0 : Int),(↑(List.length x0) : Int),x0)) fun y0 =>
  Option.bind (ag6 N y0.1) fun y1 =>
  match y1 with
  | .inl y2 =>
    Option.bind (ji N N ((0 : Int),(↑(List.length y0.2) : Int),[],y0.2)) fun y3 =>
    some (y3)
  | .inr y2 =>
    Option.bind (ji N N ((0 : Int),(↑(List.length y0.2) : Int),y2,y0.2)) fun y4 =>
    some (y4)
noncomputable def ax0 (N : Nat) : Pk → Tr Pk := ag s383 w383 (ag9 N)
theorem Tu (N : Nat) : au Tryz.prog (383) (ax0 N) :=
  (ae af al (nD N) Tryz.func383 s383 w383 [] (cuts := [(58,BC N N),(250,Ef N N)]) ⟨uT N N,Ee N N,trivial⟩ (fun _ => by kernel_rfl) (by decide +kernel) (ag9 N) (fun x => by kernel_rfl))
@[reducible] def s390 : SP := ⟨[.int .i64],[]⟩
noncomputable def WW (N : Nat) : List (Nat × (Pk → Tr Pk)) := []
theorem LI (N : Nat) : ah Tryz.prog (WW N) := trivial
@[reducible] def w390 : List SP := [⟨[.bool],[]⟩]
noncomputable def Vz (N : Nat) : (Int) → Option (Bool)
  | x0 =>
  some (x0 != x0)
noncomputable def aw4 (N : Nat) : Pk → Tr Pk := ag s390 w390 (Vz N)
theorem Tm (N : Nat) : au Tryz.prog (390) (aw4 N) :=
  (ae af al (LI N) Tryz.func390 s390 w390 [] (cuts := []) trivial (fun _ => by kernel_rfl) (by decide +kernel) (Vz N) (fun x => by kernel_rfl))
@[reducible] def s386 : SP := ⟨[.int .i64,.int .i64],[]⟩
noncomputable def W0 (N : Nat) : List (Nat × (Pk → Tr Pk)) := [(390,aw4 N)]
theorem LL (N : Nat) : ah Tryz.prog (W0 N) := ⟨Tm N,trivial⟩
@[reducible] def w386 : List SP := [⟨[.int .i64],[]⟩]
noncomputable def ag7 (N : Nat) : (Int × Int) → Option (Int)
  | (x0,x1) =>
  Option.bind (Vz N x0) fun y0 =>
  Option.bind (Vz N x1) fun y1 =>
  ac (y0) (
    ac (y1) (
      some ((0 : Int))) (
      some ((-1 : Int)))) (
    ac (y1) (
      some ((1 : Int))) (
      ac (decide (x0 < x1)) (
        some ((-1 : Int))) (
        ac (decide (x0 > x1)) (
          some ((1 : Int))) (
          some ((0 : Int))))))
noncomputable def aw8 (N : Nat) : Pk → Tr Pk := ag s386 w386 (ag7 N)
theorem Tq (N : Nat) : au Tryz.prog (386) (aw8 N) :=
  (ae af al (LL N) Tryz.func386 s386 w386 [] (cuts := []) trivial (fun _ => by kernel_rfl) (by decide +kernel) (ag7 N) (fun x => by kernel_rfl))
@[reducible] def s385 : SP := ⟨[.agg [.int .i64,.ro (.int .i64)],.agg [.int .i64,.ro (.int .i64)]],[]⟩
noncomputable def W1 (N : Nat) : List (Nat × (Pk → Tr Pk)) := [(386,aw8 N)]
theorem LM (N : Nat) : ah Tryz.prog (W1 N) := ⟨Tq N,trivial⟩
@[reducible] def w385 : List SP := [⟨[.int .i64],[]⟩]
noncomputable def N2 (N : Nat) : (Int × (List Int) × Int × (List Int)) → Option (Int)
  | (x0,x1,x2,x3) =>
  Option.bind (ag7 N (x0,x2)) fun y0 =>
  some (y0)
noncomputable def ac2 (N : Nat) : Pk → Tr Pk := ag s385 w385 (N2 N)
theorem IK (N : Nat) : au Tryz.prog (385) (ac2 N) :=
  (ae af al (LM N) Tryz.func385 s385 w385 [] (cuts := []) trivial (fun _ => by kernel_rfl) (by decide +kernel) (N2 N) (fun x => by kernel_rfl))
@[reducible] def s391 : SP := ⟨[.slp 0 .h .h,.int .i64,.int .i64,.fn 385],[.row y5 391]⟩
noncomputable def WV (N : Nat) : List (Nat × (Pk → Tr Pk)) := [(385,ac2 N)]
theorem nC (N : Nat) : ah Tryz.prog (WV N) := ⟨IK N,trivial⟩
@[reducible] def Da : LD := ⟨402,[9,3,1,2,8,0],[(.exit 2,[8,2,1,3,0]),(.exit 1,[8,2,1,3,0])],⟨[.int .i64,.fn 385,.int .i64,.int .i64,.int .i64,.slp 0 .h .h],[.row y5 391]⟩,[(.exit 2,⟨[.int .i64,.int .i64,.int .i64,.fn 385,.slp 0 .h .h],[.row y5 391]⟩)]⟩
abbrev tQ : Type := Int × Int × Int × Int × Nat × Nat × (List (Int × ((List Int) × Unit)))
abbrev sW : Type := Int × Int × Int × Nat × Nat × (List (Int × ((List Int) × Unit)))
noncomputable def E2 (N : Nat) (f : tQ → Option sW) : tQ → Option sW
  | (x0,x1,x2,x3,x4,x5,x6) =>
  ac (decide (x0 > x1)) (
    ac (within x0 x5) (
      Option.bind (x6[x4 + Int.toNat x0]?) fun y0 =>
      ac (within (IntKind.wrap IntKind.i64 (x0 - (1 : Int))) x5) (
        Option.bind (x6[x4 + Int.toNat (IntKind.wrap IntKind.i64 (x0 - (1 : Int)))]?) fun y1 =>
        Option.bind (N2 N (y0.1,y0.2.1,y1.1,y1.2.1)) fun y2 =>
        ac (decide (y2 < (0 : Int))) (
          ac (within (IntKind.wrap IntKind.i64 (x0 - (1 : Int))) x5) (
            Option.bind (x6[x4 + Int.toNat (IntKind.wrap IntKind.i64 (x0 - (1 : Int)))]?) fun y3 =>
            ac (within x0 x5) (
              Option.bind (x6[x4 + Int.toNat x0]?) fun y4 =>
              ac (within x0 x5) (
                Option.bind (x6[x4 + Int.toNat x0]?) fun y5 =>
                ac (within (IntKind.wrap IntKind.i64 (x0 - (1 : Int))) x5) (
                  Option.bind ((List.set x6 (x4 + Int.toNat x0) (y3.1,y3.2.1,()))[x4 + Int.toNat (IntKind.wrap IntKind.i64 (x0 - (1 : Int)))]?) fun y6 =>
                  Option.bind (f (IntKind.wrap IntKind.i64 (x0 - (1 : Int)),x1,x2,x3,x4,x5,List.set (List.set x6 (x4 + Int.toNat x0) (y3.1,y3.2.1,())) (x4 + Int.toNat (IntKind.wrap IntKind.i64 (x0 - (1 : Int)))) (y4.1,y4.2.1,()))) fun r => some r) (
                  none )) (
                none )) (
              none )) (
            none )) (
          some ((x3,x2,x1,x4,x5,x6)))) (
        none )) (
      none )) (
    some ((x3,x2,x1,x4,x5,x6)))
noncomputable def mM (N : Nat) : Nat → tQ → Option sW
  | 0,_ => none
  | k + 1,x => E2 N (mM N k) x
noncomputable def uR (N : Nat) (k : Nat) : Cut := Da.cut (mM N k)
theorem qd (N : Nat) (k : Nat) : aj Tryz.prog false Tryz.f391 [0] 402 (uR N k) :=
  Da.loopT af al (nC N) Tryz.f391 [0] (cuts := []) trivial (by decide +kernel) (by kernel_rfl) (E2 N) (mM N) (fun _ => rfl) (fun _ _ => rfl) (fun f x => by kernel_rfl) k
@[reducible] def QS : LD := ⟨6,[2,1,3,8,0],[(.exit 0,[])],⟨[.int .i64,.int .i64,.fn 385,.int .i64,.slp 0 .h .h],[.row y5 391]⟩,[(.exit 0,⟨[],[.row y5 391]⟩)]⟩
abbrev GU : Type := Int × Int × Int × Nat × Nat × (List (Int × ((List Int) × Unit)))
abbrev GG : Type := (List (Int × ((List Int) × Unit)))
noncomputable def Sm (N : Nat) (f : GU → Option GG) : GU → Option GG
  | (x0,x1,x2,x3,x4,x5) =>
  ac (decide (x2 < x0)) (
    Option.bind (mM N N (x2,x1,x0,x2,x3,x4,x5)) fun (y0_0,y0_1,y0_2,y0_3,y0_4,y0_5) =>
    Option.bind (f (y0_1,y0_2,IntKind.wrap IntKind.i64 (y0_0 + (1 : Int)),y0_3,y0_4,y0_5)) fun r => some r) (
    some (x5))
noncomputable def Bn (N : Nat) : Nat → GU → Option GG
  | 0,_ => none
  | k + 1,x => Sm N (Bn N k) x
noncomputable def Sb (N : Nat) (k : Nat) : Cut := QS.cut (Bn N k)
theorem Oo (N : Nat) (k : Nat) : aj Tryz.prog false Tryz.f391 [0] 6 (Sb N k) :=
  QS.loopT af al (nC N) Tryz.f391 [0] (cuts := [(402,uR N N)]) ⟨qd N N,trivial⟩ (by decide +kernel) (by kernel_rfl) (Sm N) (Bn N) (fun _ => rfl) (fun _ _ => rfl) (fun f x => by kernel_rfl) k
@[reducible] def w391 : List SP := [⟨[.tup []],[.row y5 391]⟩]
noncomputable def Vy (N : Nat) : (Nat × Nat × Int × Int × (List (Int × ((List Int) × Unit)))) → Option ((List (Int × ((List Int) × Unit))))
  | (x0,x1,x2,x3,x4) =>
  Option.bind (Bn N N (x3,x2,IntKind.wrap IntKind.i64 (x2 + (1 : Int)),x0,x1,x4)) fun y0 =>
  some (y0)
noncomputable def aw3 (N : Nat) : Pk → Tr Pk := ag s391 w391 (Vy N)
theorem Tl (N : Nat) : au Tryz.prog (391) (aw3 N) :=
  (ae af al (nC N) Tryz.func391 s391 w391 [0] (cuts := [(402,uR N N),(6,Sb N N)]) ⟨qd N N,Oo N N,trivial⟩ (fun _ => by kernel_rfl) (by decide +kernel) (Vy N) (fun x => by kernel_rfl))
@[reducible] def s394 : SP := ⟨[.slp 0 .h .h,.int .i64,.int .i64,.int .i64,.fn 385],[.row y5 391]⟩
noncomputable def WR (N : Nat) : List (Nat × (Pk → Tr Pk)) := []
theorem vH (N : Nat) : ah Tryz.prog (WR N) := trivial
@[reducible] def QR : LD := ⟨6,[10,3,2,0,1],[(.exit 0,[])],⟨[.int .i64,.int .i64,.int .i64,.slp 0 .h .h,.int .i64],[.row y5 391]⟩,[(.exit 0,⟨[],[.row y5 391]⟩)]⟩
abbrev GR : Type := Int × Int × Int × Nat × Nat × Int × (List (Int × ((List Int) × Unit)))
abbrev GF : Type := (List (Int × ((List Int) × Unit)))
noncomputable def Sl (N : Nat) (f : GR → Option GF) : GR → Option GF
  | (x0,x1,x2,x3,x4,x5,x6) =>
  ac (decide (x0 < x1)) (
    ac (within (IntKind.wrap IntKind.i64 (x2 + x0)) x4) (
      Option.bind (x6[x3 + Int.toNat (IntKind.wrap IntKind.i64 (x2 + x0))]?) fun y0 =>
      ac (within (IntKind.wrap IntKind.i64 (x5 + x0)) x4) (
        Option.bind (x6[x3 + Int.toNat (IntKind.wrap IntKind.i64 (x5 + x0))]?) fun y1 =>
        ac (within (IntKind.wrap IntKind.i64 (x5 + x0)) x4) (
          Option.bind (x6[x3 + Int.toNat (IntKind.wrap IntKind.i64 (x5 + x0))]?) fun y2 =>
          ac (within (IntKind.wrap IntKind.i64 (x2 + x0)) x4) (
            Option.bind ((List.set x6 (x3 + Int.toNat (IntKind.wrap IntKind.i64 (x5 + x0))) (y0.1,y0.2.1,()))[x3 + Int.toNat (IntKind.wrap IntKind.i64 (x2 + x0))]?) fun y3 =>
            Option.bind (f (IntKind.wrap IntKind.i64 (x0 + (1 : Int)),x1,x2,x3,x4,x5,List.set (List.set x6 (x3 + Int.toNat (IntKind.wrap IntKind.i64 (x5 + x0))) (y0.1,y0.2.1,())) (x3 + Int.toNat (IntKind.wrap IntKind.i64 (x2 + x0))) (y1.1,y1.2.1,()))) fun r => some r) (
            none )) (
          none )) (
        none )) (
      none )) (
    some (x6))
noncomputable def Bm (N : Nat) : Nat → GR → Option GF
  | 0,_ => none
  | k + 1,x => Sl N (Bm N k) x
noncomputable def Sa (N : Nat) (k : Nat) : Cut := QR.cut (Bm N k)
theorem On (N : Nat) (k : Nat) : aj Tryz.prog false Tryz.f394 [0] 6 (Sa N k) :=
  QR.loopT af al (vH N) Tryz.f394 [0] (cuts := []) trivial (by decide +kernel) (by kernel_rfl) (Sl N) (Bm N) (fun _ => rfl) (fun _ _ => rfl) (fun f x => by kernel_rfl) k
@[reducible] def w394 : List SP := [⟨[.tup []],[.row y5 391]⟩]
noncomputable def Q7 (N : Nat) : (Nat × Nat × Int × Int × Int × (List (Int × ((List Int) × Unit)))) → Option ((List (Int × ((List Int) × Unit))))
  | (x0,x1,x2,x3,x4,x5) =>
  Option.bind (Bm N N ((0 : Int),x4,x3,x0,x1,x2,x5)) fun y0 =>
  some (y0)
noncomputable def aw0 (N : Nat) : Pk → Tr Pk := ag s394 w394 (Q7 N)
theorem Ti (N : Nat) : au Tryz.prog (394) (aw0 N) :=
  (ae af al (vH N) Tryz.func394 s394 w394 [0] (cuts := [(6,Sa N N)]) ⟨On N N,trivial⟩ (fun _ => by kernel_rfl) (by decide +kernel) (Q7 N) (fun x => by kernel_rfl))
@[reducible] def s393 : SP := ⟨[.slp 0 .h .h,.int .i64,.int .i64,.int .i64,.fn 385],[.row y5 391]⟩
noncomputable def WS (N : Nat) : List (Nat × (Pk → Tr Pk)) := [(394,aw0 N)]
theorem vI (N : Nat) : ah Tryz.prog (WS N) := ⟨Ti N,trivial⟩
@[reducible] def Jl : LD := ⟨28,[10,0,2,4,11],[(.exit 0,[0,2,10,4])],⟨[.int .i64,.slp 0 .h .h,.int .i64,.fn 385,.int .i64],[.row y5 391]⟩,[(.exit 0,⟨[.slp 0 .h .h,.int .i64,.int .i64,.fn 385],[.row y5 391]⟩)]⟩
abbrev AE : Type := Int × Nat × Nat × Int × Int × (List (Int × ((List Int) × Unit)))
abbrev zN : Type := Nat × Nat × Int × Int × (List (Int × ((List Int) × Unit)))
noncomputable def KY (N : Nat) (f : AE → Option zN) : AE → Option zN
  | (x0,x1,x2,x3,x4,x5) =>
  ac (x0 != x4) (
    ac (decide (x0 > x4)) (
      Option.bind (Q7 N (x1,x2,IntKind.wrap IntKind.i64 (x3 - x0),x3,x4,x5)) fun y0 =>
      Option.bind (f (IntKind.wrap IntKind.i64 (x0 - x4),x1,x2,x3,x4,y0)) fun r => some r) (
      Option.bind (Q7 N (x1,x2,IntKind.wrap IntKind.i64 (x3 - x0),IntKind.wrap IntKind.i64 (IntKind.wrap IntKind.i64 (x3 + x4) - x0),x0,x5)) fun y1 =>
      Option.bind (f (x0,x1,x2,x3,IntKind.wrap IntKind.i64 (x4 - x0),y1)) fun r => some r)) (
    some ((x1,x2,x3,x0,x5)))
noncomputable def qQ (N : Nat) : Nat → AE → Option zN
  | 0,_ => none
  | k + 1,x => KY N (qQ N k) x
noncomputable def Kg (N : Nat) (k : Nat) : Cut := Jl.cut (qQ N k)
theorem Hm (N : Nat) (k : Nat) : aj Tryz.prog false Tryz.f393 [0] 28 (Kg N k) :=
  Jl.loopT af al (vI N) Tryz.f393 [0] (cuts := []) trivial (by decide +kernel) (by kernel_rfl) (KY N) (qQ N) (fun _ => rfl) (fun _ _ => rfl) (fun f x => by kernel_rfl) k
@[reducible] def w393 : List SP := [⟨[.tup []],[.row y5 391]⟩]
noncomputable def ag3 (N : Nat) : (Nat × Nat × Int × Int × Int × (List (Int × ((List Int) × Unit)))) → Option ((List (Int × ((List Int) × Unit))))
  | (x0,x1,x2,x3,x4,x5) =>
  Option.bind (qQ N N (IntKind.wrap IntKind.i64 (x3 - x2),x0,x1,x3,IntKind.wrap IntKind.i64 (x4 - x3),x5)) fun y0 =>
  Option.bind (Q7 N (y0.1,y0.2.1,IntKind.wrap IntKind.i64 (y0.2.2.1 - y0.2.2.2.1),y0.2.2.1,y0.2.2.2.1,y0.2.2.2.2)) fun y1 =>
  some (y1)
noncomputable def aw1 (N : Nat) : Pk → Tr Pk := ag s393 w393 (ag3 N)
theorem Tj (N : Nat) : au Tryz.prog (393) (aw1 N) :=
  (ae af al (vI N) Tryz.func393 s393 w393 [0] (cuts := [(28,Kg N N)]) ⟨Hm N N,trivial⟩ (fun _ => by kernel_rfl) (by decide +kernel) (ag3 N) (fun x => by kernel_rfl))
@[reducible] def s392 : SP := ⟨[.slp 0 .h .h,.int .i64,.int .i64,.int .i64,.fn 385],[.row y5 391]⟩
@[reducible] def w392 : List SP := [⟨[.tup []],[.row (.cons (.int .i64) (.cons (.sl (.int .i64)) .unit)) 391]⟩]
noncomputable def WU (N : Nat) (G : (Nat × Nat × Int × Int × Int × (List (Int × ((List Int) × Unit)))) → Option ((List (Int × ((List Int) × Unit))))) : List (Nat × (Pk → Tr Pk)) := [(392,ag s392 w392 G),(385,ac2 N),(393,aw1 N)]
theorem bZ (N : Nat) (G : (Nat × Nat × Int × Int × Int × (List (Int × ((List Int) × Unit)))) → Option ((List (Int × ((List Int) × Unit))))) (hG : au Tryz.prog 392 (ag s392 w392 G)) : ah Tryz.prog (WU N G) := ⟨hG,IK N,Tj N,trivial⟩
@[reducible] def C8 : LD := ⟨172,[10,11,4,0,1],[(.exit 0,[1,10,0])],⟨[.int .i64,.int .i64,.fn 385,.slp 0 .h .h,.int .i64],[.row y5 391]⟩,[(.exit 0,⟨[.int .i64,.int .i64,.slp 0 .h .h],[.row y5 391]⟩)]⟩
abbrev tP : Type := Int × Int × Nat × Nat × Int × (List (Int × ((List Int) × Unit)))
abbrev sV : Type := Int × Int × Nat × Nat × (List (Int × ((List Int) × Unit)))
noncomputable def E1 (N : Nat) (G : (Nat × Nat × Int × Int × Int × (List (Int × ((List Int) × Unit)))) → Option ((List (Int × ((List Int) × Unit))))) (f : tP → Option sV) : tP → Option sV
  | (x0,x1,x2,x3,x4,x5) =>
  ac (decide (x0 < x1)) (
    ac (within (IntKind.wrap IntKind.i64 (Int.fdiv (IntKind.wrap IntKind.u64 (IntKind.wrap IntKind.i64 (x0 + x1))) (2 : Int))) x3) (
      Option.bind (x5[x2 + Int.toNat (IntKind.wrap IntKind.i64 (Int.fdiv (IntKind.wrap IntKind.u64 (IntKind.wrap IntKind.i64 (x0 + x1))) (2 : Int)))]?) fun y0 =>
      ac (within x4 x3) (
        Option.bind (x5[x2 + Int.toNat x4]?) fun y1 =>
        Option.bind (N2 N (y0.1,y0.2.1,y1.1,y1.2.1)) fun y2 =>
        ac (decide (y2 < (0 : Int))) (
          Option.bind (f (IntKind.wrap IntKind.i64 (IntKind.wrap IntKind.i64 (Int.fdiv (IntKind.wrap IntKind.u64 (IntKind.wrap IntKind.i64 (x0 + x1))) (2 : Int)) + (1 : Int)),x1,x2,x3,x4,x5)) fun r => some r) (
          Option.bind (f (x0,IntKind.wrap IntKind.i64 (Int.fdiv (IntKind.wrap IntKind.u64 (IntKind.wrap IntKind.i64 (x0 + x1))) (2 : Int)),x2,x3,x4,x5)) fun r => some r)) (
        none )) (
      none )) (
    some ((x4,x0,x2,x3,x5)))
noncomputable def mK (N : Nat) (G : (Nat × Nat × Int × Int × Int × (List (Int × ((List Int) × Unit)))) → Option ((List (Int × ((List Int) × Unit))))) : Nat → tP → Option sV
  | 0,_ => none
  | k + 1,x => E1 N G (mK N G k) x
noncomputable def cQ (N : Nat) (G : (Nat × Nat × Int × Int × Int × (List (Int × ((List Int) × Unit)))) → Option ((List (Int × ((List Int) × Unit))))) (k : Nat) : Cut := C8.cut (mK N G k)
theorem bH (N : Nat) (G : (Nat × Nat × Int × Int × Int × (List (Int × ((List Int) × Unit)))) → Option ((List (Int × ((List Int) × Unit))))) (hG : au Tryz.prog 392 (ag s392 w392 G)) (k : Nat) : aj Tryz.prog false Tryz.f392 [0] 172 (cQ N G k) :=
  C8.loopT af al (bZ N G hG) Tryz.f392 [0] (cuts := []) trivial (by decide +kernel) (by kernel_rfl) (E1 N G) (mK N G) (fun _ => rfl) (fun _ _ => rfl) (fun f x => by kernel_rfl) k
@[reducible] def C6 : LD := ⟨698,[13,10,0],[(.exit 2,[])],⟨[.int .i64,.int .i64,.slp 0 .h .h],[.row y5 391]⟩,[(.exit 2,⟨[],[.row y5 391]⟩)]⟩
abbrev tN : Type := Int × Int × Nat × Nat × (List (Int × ((List Int) × Unit)))
abbrev sT : Type := (List (Int × ((List Int) × Unit)))
noncomputable def EZ (N : Nat) (G : (Nat × Nat × Int × Int × Int × (List (Int × ((List Int) × Unit)))) → Option ((List (Int × ((List Int) × Unit))))) (f : tN → Option sT) : tN → Option sT
  | (x0,x1,x2,x3,x4) =>
  ac (decide (x0 < IntKind.wrap IntKind.i64 (x1 - (1 : Int)))) (
    ac (within (IntKind.wrap IntKind.i64 (x0 + (1 : Int))) x3) (
      Option.bind (x4[x2 + Int.toNat (IntKind.wrap IntKind.i64 (x0 + (1 : Int)))]?) fun y0 =>
      ac (within x0 x3) (
        Option.bind (x4[x2 + Int.toNat x0]?) fun y1 =>
        ac (within x0 x3) (
          Option.bind (x4[x2 + Int.toNat x0]?) fun y2 =>
          ac (within (IntKind.wrap IntKind.i64 (x0 + (1 : Int))) x3) (
            Option.bind ((List.set x4 (x2 + Int.toNat x0) (y0.1,y0.2.1,()))[x2 + Int.toNat (IntKind.wrap IntKind.i64 (x0 + (1 : Int)))]?) fun y3 =>
            Option.bind (f (IntKind.wrap IntKind.i64 (x0 + (1 : Int)),x1,x2,x3,List.set (List.set x4 (x2 + Int.toNat x0) (y0.1,y0.2.1,())) (x2 + Int.toNat (IntKind.wrap IntKind.i64 (x0 + (1 : Int)))) (y1.1,y1.2.1,()))) fun r => some r) (
            none )) (
          none )) (
        none )) (
      none )) (
    some (x4))
noncomputable def mI (N : Nat) (G : (Nat × Nat × Int × Int × Int × (List (Int × ((List Int) × Unit)))) → Option ((List (Int × ((List Int) × Unit))))) : Nat → tN → Option sT
  | 0,_ => none
  | k + 1,x => EZ N G (mI N G k) x
noncomputable def dA (N : Nat) (G : (Nat × Nat × Int × Int × Int × (List (Int × ((List Int) × Unit)))) → Option ((List (Int × ((List Int) × Unit))))) (k : Nat) : Cut := C6.cut (mI N G k)
theorem bY (N : Nat) (G : (Nat × Nat × Int × Int × Int × (List (Int × ((List Int) × Unit)))) → Option ((List (Int × ((List Int) × Unit))))) (hG : au Tryz.prog 392 (ag s392 w392 G)) (k : Nat) : aj Tryz.prog false Tryz.f392 [0] 698 (dA N G k) :=
  C6.loopT af al (bZ N G hG) Tryz.f392 [0] (cuts := [(172,cQ N G N)]) ⟨bH N G hG N,trivial⟩ (by decide +kernel) (by kernel_rfl) (EZ N G) (mI N G) (fun _ => rfl) (fun _ _ => rfl) (fun f x => by kernel_rfl) k
@[reducible] def C7 : LD := ⟨428,[14,15,4,2,0],[(.exit 4,[2,14,0])],⟨[.int .i64,.int .i64,.fn 385,.int .i64,.slp 0 .h .h],[.row y5 391]⟩,[(.exit 4,⟨[.int .i64,.int .i64,.slp 0 .h .h],[.row y5 391]⟩)]⟩
abbrev tO : Type := Int × Int × Int × Nat × Nat × (List (Int × ((List Int) × Unit)))
abbrev sU : Type := Int × Int × Nat × Nat × (List (Int × ((List Int) × Unit)))
noncomputable def E0 (N : Nat) (G : (Nat × Nat × Int × Int × Int × (List (Int × ((List Int) × Unit)))) → Option ((List (Int × ((List Int) × Unit))))) (f : tO → Option sU) : tO → Option sU
  | (x0,x1,x2,x3,x4,x5) =>
  ac (decide (x0 < x1)) (
    ac (within x2 x4) (
      Option.bind (x5[x3 + Int.toNat x2]?) fun y0 =>
      ac (within (IntKind.wrap IntKind.i64 (Int.fdiv (IntKind.wrap IntKind.u64 (IntKind.wrap IntKind.i64 (x0 + x1))) (2 : Int))) x4) (
        Option.bind (x5[x3 + Int.toNat (IntKind.wrap IntKind.i64 (Int.fdiv (IntKind.wrap IntKind.u64 (IntKind.wrap IntKind.i64 (x0 + x1))) (2 : Int)))]?) fun y1 =>
        Option.bind (N2 N (y0.1,y0.2.1,y1.1,y1.2.1)) fun y2 =>
        ac (!decide (y2 < (0 : Int))) (
          Option.bind (f (IntKind.wrap IntKind.i64 (IntKind.wrap IntKind.i64 (Int.fdiv (IntKind.wrap IntKind.u64 (IntKind.wrap IntKind.i64 (x0 + x1))) (2 : Int)) + (1 : Int)),x1,x2,x3,x4,x5)) fun r => some r) (
          Option.bind (f (x0,IntKind.wrap IntKind.i64 (Int.fdiv (IntKind.wrap IntKind.u64 (IntKind.wrap IntKind.i64 (x0 + x1))) (2 : Int)),x2,x3,x4,x5)) fun r => some r)) (
        none )) (
      none )) (
    some ((x2,x0,x3,x4,x5)))
noncomputable def mJ (N : Nat) (G : (Nat × Nat × Int × Int × Int × (List (Int × ((List Int) × Unit)))) → Option ((List (Int × ((List Int) × Unit))))) : Nat → tO → Option sU
  | 0,_ => none
  | k + 1,x => E0 N G (mJ N G k) x
noncomputable def eC (N : Nat) (G : (Nat × Nat × Int × Int × Int × (List (Int × ((List Int) × Unit)))) → Option ((List (Int × ((List Int) × Unit))))) (k : Nat) : Cut := C7.cut (mJ N G k)
theorem cF (N : Nat) (G : (Nat × Nat × Int × Int × Int × (List (Int × ((List Int) × Unit)))) → Option ((List (Int × ((List Int) × Unit))))) (hG : au Tryz.prog 392 (ag s392 w392 G)) (k : Nat) : aj Tryz.prog false Tryz.f392 [0] 428 (eC N G k) :=
  C7.loopT af al (bZ N G hG) Tryz.f392 [0] (cuts := [(172,cQ N G N),(698,dA N G N)]) ⟨bH N G hG N,bY N G hG N,trivial⟩ (by decide +kernel) (by kernel_rfl) (E0 N G) (mJ N G) (fun _ => rfl) (fun _ _ => rfl) (fun f x => by kernel_rfl) k
@[reducible] def xg : LD := ⟨1722,[17,14,0],[(.exit 6,[])],⟨[.int .i64,.int .i64,.slp 0 .h .h],[.row y5 391]⟩,[(.exit 6,⟨[],[.row y5 391]⟩)]⟩
abbrev oS : Type := Int × Int × Nat × Nat × (List (Int × ((List Int) × Unit)))
abbrev oB : Type := (List (Int × ((List Int) × Unit)))
noncomputable def xY (N : Nat) (G : (Nat × Nat × Int × Int × Int × (List (Int × ((List Int) × Unit)))) → Option ((List (Int × ((List Int) × Unit))))) (f : oS → Option oB) : oS → Option oB
  | (x0,x1,x2,x3,x4) =>
  ac (decide (x0 > x1)) (
    ac (within (IntKind.wrap IntKind.i64 (x0 - (1 : Int))) x3) (
      Option.bind (x4[x2 + Int.toNat (IntKind.wrap IntKind.i64 (x0 - (1 : Int)))]?) fun y0 =>
      ac (within x0 x3) (
        Option.bind (x4[x2 + Int.toNat x0]?) fun y1 =>
        ac (within x0 x3) (
          Option.bind (x4[x2 + Int.toNat x0]?) fun y2 =>
          ac (within (IntKind.wrap IntKind.i64 (x0 - (1 : Int))) x3) (
            Option.bind ((List.set x4 (x2 + Int.toNat x0) (y0.1,y0.2.1,()))[x2 + Int.toNat (IntKind.wrap IntKind.i64 (x0 - (1 : Int)))]?) fun y3 =>
            Option.bind (f (IntKind.wrap IntKind.i64 (x0 - (1 : Int)),x1,x2,x3,List.set (List.set x4 (x2 + Int.toNat x0) (y0.1,y0.2.1,())) (x2 + Int.toNat (IntKind.wrap IntKind.i64 (x0 - (1 : Int)))) (y1.1,y1.2.1,()))) fun r => some r) (
            none )) (
          none )) (
        none )) (
      none )) (
    some (x4))
noncomputable def j8 (N : Nat) (G : (Nat × Nat × Int × Int × Int × (List (Int × ((List Int) × Unit)))) → Option ((List (Int × ((List Int) × Unit))))) : Nat → oS → Option oB
  | 0,_ => none
  | k + 1,x => xY N G (j8 N G k) x
noncomputable def dX (N : Nat) (G : (Nat × Nat × Int × Int × Int × (List (Int × ((List Int) × Unit)))) → Option ((List (Int × ((List Int) × Unit))))) (k : Nat) : Cut := xg.cut (j8 N G k)
theorem cP (N : Nat) (G : (Nat × Nat × Int × Int × Int × (List (Int × ((List Int) × Unit)))) → Option ((List (Int × ((List Int) × Unit))))) (hG : au Tryz.prog 392 (ag s392 w392 G)) (k : Nat) : aj Tryz.prog false Tryz.f392 [0] 1722 (dX N G k) :=
  xg.loopT af al (bZ N G hG) Tryz.f392 [0] (cuts := [(172,cQ N G N),(698,dA N G N),(428,eC N G N)]) ⟨bH N G hG N,bY N G hG N,cF N G hG N,trivial⟩ (by decide +kernel) (by kernel_rfl) (xY N G) (j8 N G) (fun _ => rfl) (fun _ _ => rfl) (fun f x => by kernel_rfl) k
@[reducible] def xh : LD := ⟨1020,[20,3,18,1,2,19,21,4,22,0],[(.exit 8,[19,2,1,20,0,18,3,4])],⟨[.int .i64,.int .i64,.int .i64,.int .i64,.int .i64,.int .i64,.int .i64,.fn 385,.int .i64,.slp 0 .h .h],[.row y5 391]⟩,[(.exit 8,⟨[.int .i64,.int .i64,.int .i64,.int .i64,.slp 0 .h .h,.int .i64,.int .i64,.fn 385],[.row y5 391]⟩)]⟩
abbrev oT : Type := Int × Int × Int × Int × Int × Int × Int × Int × Nat × Nat × (List (Int × ((List Int) × Unit)))
abbrev oC : Type := Int × Int × Int × Int × Nat × Nat × Int × Int × (List (Int × ((List Int) × Unit)))
noncomputable def xZ (N : Nat) (G : (Nat × Nat × Int × Int × Int × (List (Int × ((List Int) × Unit)))) → Option ((List (Int × ((List Int) × Unit))))) (f : oT → Option oC) : oT → Option oC
  | (x0,x1,x2,x3,x4,x5,x6,x7,x8,x9,x10) =>
  ac (decide (x0 < x6)) (
    ac (within (IntKind.wrap IntKind.i64 (x7 - IntKind.wrap IntKind.i64 (Int.fdiv (IntKind.wrap IntKind.u64 (IntKind.wrap IntKind.i64 (x0 + x6))) (2 : Int)))) x9) (
      Option.bind (x10[x8 + Int.toNat (IntKind.wrap IntKind.i64 (x7 - IntKind.wrap IntKind.i64 (Int.fdiv (IntKind.wrap IntKind.u64 (IntKind.wrap IntKind.i64 (x0 + x6))) (2 : Int))))]?) fun y0 =>
      ac (within (IntKind.wrap IntKind.i64 (Int.fdiv (IntKind.wrap IntKind.u64 (IntKind.wrap IntKind.i64 (x0 + x6))) (2 : Int))) x9) (
        Option.bind (x10[x8 + Int.toNat (IntKind.wrap IntKind.i64 (Int.fdiv (IntKind.wrap IntKind.u64 (IntKind.wrap IntKind.i64 (x0 + x6))) (2 : Int)))]?) fun y1 =>
        Option.bind (N2 N (y0.1,y0.2.1,y1.1,y1.2.1)) fun y2 =>
        ac (!decide (y2 < (0 : Int))) (
          Option.bind (f (IntKind.wrap IntKind.i64 (IntKind.wrap IntKind.i64 (Int.fdiv (IntKind.wrap IntKind.u64 (IntKind.wrap IntKind.i64 (x0 + x6))) (2 : Int)) + (1 : Int)),x1,x2,x3,x4,x5,x6,x7,x8,x9,x10)) fun r => some r) (
          Option.bind (f (x0,x1,x2,x3,x4,x5,IntKind.wrap IntKind.i64 (Int.fdiv (IntKind.wrap IntKind.u64 (IntKind.wrap IntKind.i64 (x0 + x6))) (2 : Int)),x7,x8,x9,x10)) fun r => some r)) (
        none )) (
      none )) (
    some ((x5,x4,x3,x0,x8,x9,x2,x1,x10)))
noncomputable def j9 (N : Nat) (G : (Nat × Nat × Int × Int × Int × (List (Int × ((List Int) × Unit)))) → Option ((List (Int × ((List Int) × Unit))))) : Nat → oT → Option oC
  | 0,_ => none
  | k + 1,x => xZ N G (j9 N G k) x
noncomputable def gf (N : Nat) (G : (Nat × Nat × Int × Int × Int × (List (Int × ((List Int) × Unit)))) → Option ((List (Int × ((List Int) × Unit))))) (k : Nat) : Cut := xh.cut (j9 N G k)
theorem dP (N : Nat) (G : (Nat × Nat × Int × Int × Int × (List (Int × ((List Int) × Unit)))) → Option ((List (Int × ((List Int) × Unit))))) (hG : au Tryz.prog 392 (ag s392 w392 G)) (k : Nat) : aj Tryz.prog false Tryz.f392 [0] 1020 (gf N G k) :=
  xh.loopT af al (bZ N G hG) Tryz.f392 [0] (cuts := [(172,cQ N G N),(698,dA N G N),(428,eC N G N),(1722,dX N G N)]) ⟨bH N G hG N,bY N G hG N,cF N G hG N,cP N G hG N,trivial⟩ (by decide +kernel) (by kernel_rfl) (xZ N G) (j9 N G) (fun _ => rfl) (fun _ _ => rfl) (fun f x => by kernel_rfl) k
@[reducible] def xe : LD := ⟨4095,[0,18,24,3,4],[(.normal,[])],⟨[.slp 0 .h .h,.int .i64,.int .i64,.int .i64,.fn 385],[.row y5 391]⟩,[(.normal,⟨[],[.row y5 391]⟩)]⟩
noncomputable def fY (N : Nat) (G : (Nat × Nat × Int × Int × Int × (List (Int × ((List Int) × Unit)))) → Option ((List (Int × ((List Int) × Unit))))) : (Nat × Nat × Int × Int × Int × (List (Int × ((List Int) × Unit)))) → Option ((List (Int × ((List Int) × Unit))))
  | (x0,x1,x2,x3,x4,x5) =>
  ac (decide (x2 < x3)) (
    ac (decide (x3 < x4)) (
      Option.bind (G (x0,x1,x2,x3,x4,x5)) fun y0 =>
      some (y0)) (
      some (x5))) (
    some (x5))
noncomputable def kt (N : Nat) (G : (Nat × Nat × Int × Int × Int × (List (Int × ((List Int) × Unit)))) → Option ((List (Int × ((List Int) × Unit))))) (_ : Nat) : Cut := xe.cut (fY N G)
theorem ia (N : Nat) (G : (Nat × Nat × Int × Int × Int × (List (Int × ((List Int) × Unit)))) → Option ((List (Int × ((List Int) × Unit))))) (hG : au Tryz.prog 392 (ag s392 w392 G)) (k : Nat) : aj Tryz.prog false Tryz.f392 [0] 4095 (kt N G k) :=
  xe.pieceT af al (bZ N G hG) Tryz.f392 [0] (cuts := [(172,cQ N G N),(698,dA N G N),(428,eC N G N),(1722,dX N G N),(1020,gf N G N)]) ⟨bH N G hG N,bY N G hG N,cF N G hG N,cP N G hG N,dP N G hG N,trivial⟩ (by decide +kernel) (by kernel_rfl) (fY N G) (fun x => by kernel_rfl)
@[reducible] def xf : LD := ⟨2047,[1,20,0,18,24,3,4],[(.normal,[])],⟨[.int .i64,.int .i64,.slp 0 .h .h,.int .i64,.int .i64,.int .i64,.fn 385],[.row y5 391]⟩,[(.normal,⟨[],[.row y5 391]⟩)]⟩
noncomputable def fZ (N : Nat) (G : (Nat × Nat × Int × Int × Int × (List (Int × ((List Int) × Unit)))) → Option ((List (Int × ((List Int) × Unit))))) : (Int × Int × Nat × Nat × Int × Int × Int × (List (Int × ((List Int) × Unit)))) → Option ((List (Int × ((List Int) × Unit))))
  | (x0,x1,x2,x3,x4,x5,x6,x7) =>
  ac (decide (x0 < x1)) (
    ac (decide (x1 < x4)) (
      Option.bind (G (x2,x3,x0,x1,x4,x7)) fun y0 =>
      Option.bind (fY N G (x2,x3,x4,x5,x6,y0)) fun y1 =>
      some (y1)) (
      Option.bind (fY N G (x2,x3,x4,x5,x6,x7)) fun y2 =>
      some (y2))) (
    Option.bind (fY N G (x2,x3,x4,x5,x6,x7)) fun y3 =>
    some (y3))
noncomputable def pn (N : Nat) (G : (Nat × Nat × Int × Int × Int × (List (Int × ((List Int) × Unit)))) → Option ((List (Int × ((List Int) × Unit))))) (_ : Nat) : Cut := xf.cut (fZ N G)
theorem nj (N : Nat) (G : (Nat × Nat × Int × Int × Int × (List (Int × ((List Int) × Unit)))) → Option ((List (Int × ((List Int) × Unit))))) (hG : au Tryz.prog 392 (ag s392 w392 G)) (k : Nat) : aj Tryz.prog false Tryz.f392 [0] 2047 (pn N G k) :=
  xf.pieceT af al (bZ N G hG) Tryz.f392 [0] (cuts := [(172,cQ N G N),(698,dA N G N),(428,eC N G N),(1722,dX N G N),(1020,gf N G N),(4095,kt N G N)]) ⟨bH N G hG N,bY N G hG N,cF N G hG N,cP N G hG N,dP N G hG N,ia N G hG N,trivial⟩ (by decide +kernel) (by kernel_rfl) (fZ N G) (fun x => by kernel_rfl)
@[reducible] def C9 : LD := ⟨127,[20,3,18,1,2,19,21,4,0],[(.normal,[])],⟨[.int .i64,.int .i64,.int .i64,.int .i64,.int .i64,.int .i64,.int .i64,.fn 385,.slp 0 .h .h],[.row y5 391]⟩,[(.normal,⟨[],[.row y5 391]⟩)]⟩
noncomputable def mL (N : Nat) (G : (Nat × Nat × Int × Int × Int × (List (Int × ((List Int) × Unit)))) → Option ((List (Int × ((List Int) × Unit))))) : (Int × Int × Int × Int × Int × Int × Int × Nat × Nat × (List (Int × ((List Int) × Unit)))) → Option ((List (Int × ((List Int) × Unit))))
  | (x0,x1,x2,x3,x4,x5,x6,x7,x8,x9) =>
  Option.bind (j9 N G N (x0,x1,x2,x3,x4,x5,x6,IntKind.wrap IntKind.i64 (x5 - (1 : Int)),x7,x8,x9)) fun (y0_0,y0_1,y0_2,y0_3,y0_4,y0_5,y0_6,y0_7,y0_8) =>
  ac (decide (y0_3 < y0_1)) (
    ac (decide (y0_1 < IntKind.wrap IntKind.i64 (y0_0 - y0_3))) (
      Option.bind (ag3 N (y0_4,y0_5,y0_3,y0_1,IntKind.wrap IntKind.i64 (y0_0 - y0_3),y0_8)) fun y1 =>
      Option.bind (fZ N G (y0_2,y0_3,y0_4,y0_5,y0_6,IntKind.wrap IntKind.i64 (y0_0 - y0_3),y0_7,y1)) fun y2 =>
      some (y2)) (
      Option.bind (fZ N G (y0_2,y0_3,y0_4,y0_5,y0_6,IntKind.wrap IntKind.i64 (y0_0 - y0_3),y0_7,y0_8)) fun y3 =>
      some (y3))) (
    Option.bind (fZ N G (y0_2,y0_3,y0_4,y0_5,y0_6,IntKind.wrap IntKind.i64 (y0_0 - y0_3),y0_7,y0_8)) fun y4 =>
    some (y4))
noncomputable def Ed (N : Nat) (G : (Nat × Nat × Int × Int × Int × (List (Int × ((List Int) × Unit)))) → Option ((List (Int × ((List Int) × Unit))))) (_ : Nat) : Cut := C9.cut (mL N G)
theorem Ec (N : Nat) (G : (Nat × Nat × Int × Int × Int × (List (Int × ((List Int) × Unit)))) → Option ((List (Int × ((List Int) × Unit))))) (hG : au Tryz.prog 392 (ag s392 w392 G)) (k : Nat) : aj Tryz.prog false Tryz.f392 [0] 127 (Ed N G k) :=
  C9.pieceT af al (bZ N G hG) Tryz.f392 [0] (cuts := [(172,cQ N G N),(698,dA N G N),(428,eC N G N),(1722,dX N G N),(1020,gf N G N),(4095,kt N G N),(2047,pn N G N)]) ⟨bH N G hG N,bY N G hG N,cF N G hG N,cP N G hG N,dP N G hG N,ia N G hG N,nj N G hG N,trivial⟩ (by decide +kernel) (by kernel_rfl) (mL N G) (fun x => by kernel_rfl)
noncomputable def aH4 (N : Nat) (G : (Nat × Nat × Int × Int × Int × (List (Int × ((List Int) × Unit)))) → Option ((List (Int × ((List Int) × Unit))))) : (Nat × Nat × Int × Int × Int × (List (Int × ((List Int) × Unit)))) → Option ((List (Int × ((List Int) × Unit))))
  | (x0,x1,x2,x3,x4,x5) =>
  ac (IntKind.wrap IntKind.i64 (x3 - x2) == (1 : Int)) (
    Option.bind (mK N G N (x3,x4,x0,x1,x2,x5)) fun y0 =>
    Option.bind (mI N G N (y0.1,y0.2.1,y0.2.2.1,y0.2.2.2.1,y0.2.2.2.2)) fun y1 =>
    some (y1)) (
    ac (IntKind.wrap IntKind.i64 (x4 - x3) == (1 : Int)) (
      Option.bind (mJ N G N (x2,x3,x3,x0,x1,x5)) fun y2 =>
      Option.bind (j8 N G N (y2.1,y2.2.1,y2.2.2.1,y2.2.2.2.1,y2.2.2.2.2)) fun y3 =>
      some (y3)) (
      ac (decide (x3 > IntKind.wrap IntKind.i64 (Int.fdiv (IntKind.wrap IntKind.u64 (IntKind.wrap IntKind.i64 (x2 + x4))) (2 : Int)))) (
        Option.bind (mL N G (IntKind.wrap IntKind.i64 (IntKind.wrap IntKind.i64 (IntKind.wrap IntKind.i64 (Int.fdiv (IntKind.wrap IntKind.u64 (IntKind.wrap IntKind.i64 (x2 + x4))) (2 : Int)) + x3) - x4),x4,IntKind.wrap IntKind.i64 (Int.fdiv (IntKind.wrap IntKind.u64 (IntKind.wrap IntKind.i64 (x2 + x4))) (2 : Int)),x2,x3,IntKind.wrap IntKind.i64 (IntKind.wrap IntKind.i64 (Int.fdiv (IntKind.wrap IntKind.u64 (IntKind.wrap IntKind.i64 (x2 + x4))) (2 : Int)) + x3),IntKind.wrap IntKind.i64 (Int.fdiv (IntKind.wrap IntKind.u64 (IntKind.wrap IntKind.i64 (x2 + x4))) (2 : Int)),x0,x1,x5)) fun y4 =>
        some (y4)) (
        Option.bind (mL N G (x2,x4,IntKind.wrap IntKind.i64 (Int.fdiv (IntKind.wrap IntKind.u64 (IntKind.wrap IntKind.i64 (x2 + x4))) (2 : Int)),x2,x3,IntKind.wrap IntKind.i64 (IntKind.wrap IntKind.i64 (Int.fdiv (IntKind.wrap IntKind.u64 (IntKind.wrap IntKind.i64 (x2 + x4))) (2 : Int)) + x3),x3,x0,x1,x5)) fun y5 =>
        some (y5))))
noncomputable def ck (N : Nat) : Nat → (Nat × Nat × Int × Int × Int × (List (Int × ((List Int) × Unit)))) → Option ((List (Int × ((List Int) × Unit))))
  | 0,_ => none
  | k + 1,x => aH4 N (ck N k) x
noncomputable def ag4 (N : Nat) : (Nat × Nat × Int × Int × Int × (List (Int × ((List Int) × Unit)))) → Option ((List (Int × ((List Int) × Unit)))) := ck N N
noncomputable def aw2 (N : Nat) : Pk → Tr Pk := ag s392 w392 (ag4 N)
theorem ci (N : Nat) : ∀ k,au Tryz.prog 392 (ag s392 w392 (ck N k))
  | 0 => LF fun _ => rfl
  | k + 1 => ae af al (bZ N (ck N k) (ci N k)) Tryz.func392 s392 w392 [0] (cuts := [(172,cQ N (ck N k) N),(698,dA N (ck N k) N),(428,eC N (ck N k) N),(1722,dX N (ck N k) N),(1020,gf N (ck N k) N),(4095,kt N (ck N k) N),(2047,pn N (ck N k) N),(127,Ed N (ck N k) N)]) ⟨bH N (ck N k) (ci N k) N,bY N (ck N k) (ci N k) N,cF N (ck N k) (ci N k) N,cP N (ck N k) (ci N k) N,dP N (ck N k) (ci N k) N,ia N (ck N k) (ci N k) N,nj N (ck N k) (ci N k) N,Ec N (ck N k) (ci N k) N,trivial⟩ (fun _ => by kernel_rfl) (by decide +kernel) (ck N (k + 1)) (fun x => by kernel_rfl)
theorem Tk (N : Nat) : au Tryz.prog (392) (aw2 N) :=
  (ci N N)
@[reducible] def s389 : SP := ⟨[.slp 0 .h .h,.int .i64,.fn 385],[.row y5 391]⟩
noncomputable def WX (N : Nat) : List (Nat × (Pk → Tr Pk)) := [(391,aw3 N),(392,aw2 N)]
theorem jL (N : Nat) : ah Tryz.prog (WX N) := ⟨Tl N,Tk N,trivial⟩
@[reducible] def Jo : LD := ⟨28,[7,8,1,0,2,6],[(.exit 0,[7,1,0,2,6])],⟨[.int .i64,.int .i64,.int .i64,.slp 0 .h .h,.fn 385,.int .i64],[.row y5 391]⟩,[(.exit 0,⟨[.int .i64,.int .i64,.slp 0 .h .h,.fn 385,.int .i64],[.row y5 391]⟩)]⟩
abbrev AH : Type := Int × Int × Int × Nat × Nat × Int × (List (Int × ((List Int) × Unit)))
abbrev zQ : Type := Int × Int × Nat × Nat × Int × (List (Int × ((List Int) × Unit)))
noncomputable def K0 (N : Nat) (f : AH → Option zQ) : AH → Option zQ
  | (x0,x1,x2,x3,x4,x5,x6) =>
  ac (decide (x1 ≤ x2)) (
    Option.bind (Vy N (x3,x4,x0,x1,x6)) fun y0 =>
    Option.bind (f (x1,IntKind.wrap IntKind.i64 (x1 + x5),x2,x3,x4,x5,y0)) fun r => some r) (
    some ((x0,x2,x3,x4,x5,x6)))
noncomputable def qS (N : Nat) : Nat → AH → Option zQ
  | 0,_ => none
  | k + 1,x => K0 N (qS N k) x
noncomputable def rA (N : Nat) (k : Nat) : Cut := Jo.cut (qS N k)
theorem lH (N : Nat) (k : Nat) : aj Tryz.prog false Tryz.f389 [0] 28 (rA N k) :=
  Jo.loopT af al (jL N) Tryz.f389 [0] (cuts := []) trivial (by decide +kernel) (by kernel_rfl) (K0 N) (qS N) (fun _ => rfl) (fun _ _ => rfl) (fun f x => by kernel_rfl) k
@[reducible] def xi : LD := ⟨3988,[7,8,1,0,2,6],[(.exit 4,[7,6,1,0,2]),(.exit 3,[1,0,2,6])],⟨[.int .i64,.int .i64,.int .i64,.slp 0 .h .h,.fn 385,.int .i64],[.row y5 391]⟩,[(.exit 4,⟨[.int .i64,.int .i64,.int .i64,.slp 0 .h .h,.fn 385],[.row y5 391]⟩)]⟩
abbrev oU : Type := Int × Int × Int × Nat × Nat × Int × (List (Int × ((List Int) × Unit)))
abbrev oD : Type := Int × Int × Int × Nat × Nat × (List (Int × ((List Int) × Unit)))
noncomputable def ya (N : Nat) (f : oU → Option oD) : oU → Option oD
  | (x0,x1,x2,x3,x4,x5,x6) =>
  ac (decide (x1 ≤ x2)) (
    Option.bind (ag4 N (x3,x4,x0,IntKind.wrap IntKind.i64 (x0 + x5),x1,x6)) fun y0 =>
    Option.bind (f (x1,IntKind.wrap IntKind.i64 (x1 + IntKind.wrap IntKind.i64 ((2 : Int) * x5)),x2,x3,x4,x5,y0)) fun r => some r) (
    some ((x0,x5,x2,x3,x4,x6)))
noncomputable def kg (N : Nat) : Nat → oU → Option oD
  | 0,_ => none
  | k + 1,x => ya N (kg N k) x
noncomputable def po (N : Nat) (k : Nat) : Cut := xi.cut (kg N k)
theorem nk (N : Nat) (k : Nat) : aj Tryz.prog false Tryz.f389 [0] 3988 (po N k) :=
  xi.loopT af al (jL N) Tryz.f389 [0] (cuts := [(28,rA N N)]) ⟨lH N N,trivial⟩ (by decide +kernel) (by kernel_rfl) (ya N) (kg N) (fun _ => rfl) (fun _ _ => rfl) (fun f x => by kernel_rfl) k
@[reducible] def Jn : LD := ⟨62,[1,0,2,6],[(.exit 2,[])],⟨[.int .i64,.slp 0 .h .h,.fn 385,.int .i64],[.row y5 391]⟩,[(.exit 2,⟨[],[.row y5 391]⟩)]⟩
abbrev AG : Type := Int × Nat × Nat × Int × (List (Int × ((List Int) × Unit)))
abbrev zP : Type := (List (Int × ((List Int) × Unit)))
noncomputable def KZ (N : Nat) (f : AG → Option zP) : AG → Option zP
  | (x0,x1,x2,x3,x4) =>
  ac (decide (x3 < x0)) (
    Option.bind (kg N N ((0 : Int),IntKind.wrap IntKind.i64 ((2 : Int) * x3),x0,x1,x2,x3,x4)) fun (y0_0,y0_1,y0_2,y0_3,y0_4,y0_5) =>
    ac (decide (IntKind.wrap IntKind.i64 (y0_0 + y0_1) < y0_2)) (
      Option.bind (ag4 N (y0_3,y0_4,y0_0,IntKind.wrap IntKind.i64 (y0_0 + y0_1),y0_2,y0_5)) fun y1 =>
      Option.bind (f (y0_2,y0_3,y0_4,IntKind.wrap IntKind.i64 (y0_1 * (2 : Int)),y1)) fun r => some r) (
      Option.bind (f (y0_2,y0_3,y0_4,IntKind.wrap IntKind.i64 (y0_1 * (2 : Int)),y0_5)) fun r => some r)) (
    some (x4))
noncomputable def qR (N : Nat) : Nat → AG → Option zP
  | 0,_ => none
  | k + 1,x => KZ N (qR N k) x
noncomputable def Ki (N : Nat) (k : Nat) : Cut := Jn.cut (qR N k)
theorem Ho (N : Nat) (k : Nat) : aj Tryz.prog false Tryz.f389 [0] 62 (Ki N k) :=
  Jn.loopT af al (jL N) Tryz.f389 [0] (cuts := [(28,rA N N),(3988,po N N)]) ⟨lH N N,nk N N,trivial⟩ (by decide +kernel) (by kernel_rfl) (KZ N) (qR N) (fun _ => rfl) (fun _ _ => rfl) (fun f x => by kernel_rfl) k
@[reducible] def w389 : List SP := [⟨[.tup []],[.row y5 391]⟩]
noncomputable def ag5 (N : Nat) : (Nat × Nat × Int × (List (Int × ((List Int) × Unit)))) → Option ((List (Int × ((List Int) × Unit))))
  | (x0,x1,x2,x3) =>
  Option.bind (qS N N ((0 : Int),(20 : Int),x2,x0,x1,(20 : Int),x3)) fun (y0_0,y0_1,y0_2,y0_3,y0_4,y0_5) =>
  Option.bind (Vy N (y0_2,y0_3,y0_0,y0_1,y0_5)) fun y1 =>
  Option.bind (qR N N (y0_1,y0_2,y0_3,y0_4,y1)) fun y2 =>
  some (y2)
noncomputable def aw5 (N : Nat) : Pk → Tr Pk := ag s389 w389 (ag5 N)
theorem Tn (N : Nat) : au Tryz.prog (389) (aw5 N) :=
  (ae af al (jL N) Tryz.func389 s389 w389 [0] (cuts := [(28,rA N N),(3988,po N N),(62,Ki N N)]) ⟨lH N N,nk N N,Ho N N,trivial⟩ (fun _ => by kernel_rfl) (by decide +kernel) (ag5 N) (fun x => by kernel_rfl))
@[reducible] def s384 : SP := ⟨[.slp 0 .h .h,.fn 385],[.row y5 391]⟩
noncomputable def W2 (N : Nat) : List (Nat × (Pk → Tr Pk)) := [(389,aw5 N)]
theorem LN (N : Nat) : ah Tryz.prog (W2 N) := ⟨Tn N,trivial⟩
@[reducible] def w384 : List SP := [⟨[.tup []],[.row y5 391]⟩]
noncomputable def ag8 (N : Nat) : (Nat × Nat × (List (Int × ((List Int) × Unit)))) → Option ((List (Int × ((List Int) × Unit))))
  | (x0,x1,x2) =>
  Option.bind (ag5 N (x0,x1,(↑x1 : Int),x2)) fun y0 =>
  some (y0)
noncomputable def aw9 (N : Nat) : Pk → Tr Pk := ag s384 w384 (ag8 N)
theorem Tt (N : Nat) : au Tryz.prog (384) (aw9 N) :=
  (ae af al (LN N) Tryz.func384 s384 w384 [0] (cuts := []) trivial (fun _ => by kernel_rfl) (by decide +kernel) (ag8 N) (fun x => by kernel_rfl))
@[reducible] def s376 : SP := ⟨[.ro y5,.ro y5],[]⟩
noncomputable def Xa (N : Nat) : List (Nat × (Pk → Tr Pk)) := [(383,ax0 N),(384,aw9 N)]
theorem LQ (N : Nat) : ah Tryz.prog (Xa N) := ⟨Tu N,Tt N,trivial⟩
@[reducible] def w376 : List SP := [⟨[.sl 0],[.row y5 391]⟩]
noncomputable def VD (N : Nat) : ((List (Int × ((List Int) × Unit))) × (List (Int × ((List Int) × Unit)))) → Option ((List (Int × ((List Int) × Unit))))
  | (x0,x1) =>
  Option.bind (ag9 N [x0,x1]) fun y0 =>
  Option.bind (ag8 N ((0 : Nat),List.length y0,y0)) fun y1 =>
  some (y1)
noncomputable def ac5 (N : Nat) : Pk → Tr Pk := r8 PP (ag s376 w376 (VD N))
theorem IN (N : Nat) : au Tryz.prog (376) (ac5 N) :=
  iJ yT (ae af al (LQ N) Tryz.func376 s376 w376 [] (cuts := []) trivial (fun _ => by kernel_rfl) (by decide +kernel) (VD N) (fun x => by kernel_rfl)) (by decide +kernel)
@[reducible] def s375 : SP := ⟨[.ro (.int .i64)],[]⟩
noncomputable def Xb (N : Nat) : List (Nat × (Pk → Tr Pk)) := [(376,ac5 N)]
theorem vN (N : Nat) : ah Tryz.prog (Xb N) := ⟨IN N,trivial⟩
@[reducible] def Jv : LD := ⟨58,[8,7,9,4],[(.ret,[2,3]),(.exit 0,[4])],⟨[.int .i64,.ro (.int .i64),.int .i64,.sl 0],[.row y5 391]⟩,[(.ret,⟨[.sl 0,.int .i64],[.row y5 391]⟩),(.exit 0,⟨[.sl 0],[.row y5 391]⟩)]⟩
abbrev AO : Type := Int × (List Int) × Int × (List (Int × ((List Int) × Unit)))
abbrev zX : Type := ((Int × (List (Int × ((List Int) × Unit)))) ⊕ ((List (Int × ((List Int) × Unit)))))
noncomputable def K8 (N : Nat) (f : AO → Option zX) : AO → Option zX
  | (x0,x1,x2,x3) =>
  ac (decide (x2 < x0)) (
    ac (within x2 (List.length x1)) (
      Option.bind (x1[Int.toNat x2]?) fun y0 =>
      ac (decide (y0 < (0 : Int))) (
        some (.inl (((1 : Int),[])))) (
        ac (decide (y0 > (1073741824 : Int))) (
          some (.inl (((1 : Int),[])))) (
          ac (decide (y0 > (0 : Int))) (
            ac (decide ((List.length x3 + List.length [(y0,[x2],())]) * (32 : Nat) ≤ (140737488355328 : Nat) ∧ List.length x3 + List.length [(y0,[x2],())] ≤ (140737488355328 : Nat))) (
              Option.bind (f (x0,x1,IntKind.wrap IntKind.i64 (x2 + (1 : Int)),x3 ++ [(y0,[x2],())])) fun r => match r with | .inl y => some (.inl y) | .inr y => some (.inr y)) (
              none )) (
            Option.bind (f (x0,x1,IntKind.wrap IntKind.i64 (x2 + (1 : Int)),x3)) fun r => match r with | .inl y => some (.inl y) | .inr y => some (.inr y))))) (
      none )) (
    some (.inr (x3)))
noncomputable def qY (N : Nat) : Nat → AO → Option zX
  | 0,_ => none
  | k + 1,x => K8 N (qY N k) x
noncomputable def Ko (N : Nat) (k : Nat) : Cut := Jv.cut (qY N k)
theorem Hu (N : Nat) (k : Nat) : aj Tryz.prog false Tryz.f375 [] 58 (Ko N k) :=
  Jv.loopT af al (vN N) Tryz.f375 [] (cuts := []) trivial (by decide +kernel) (by kernel_rfl) (K8 N) (qY N) (fun _ => rfl) (fun _ _ => rfl) (fun f x => by kernel_rfl) k
@[reducible] def w375 : List SP := [⟨[.tup [.sl 0,.int .i64]],[.row y5 391]⟩,⟨[.tup [.ro y5,.int .i64]],[]⟩]
noncomputable def ah4 (N : Nat) : ((List Int)) → Option (((Int × (List (Int × ((List Int) × Unit)))) ⊕ ((List (Int × ((List Int) × Unit))) × Int)))
  | x0 =>
  Option.bind (qY N N ((↑(List.length x0) : Int),x0,(0 : Int),[])) fun y0 =>
  match y0 with
  | .inl y1 =>
    some (.inl ((y1.1,y1.2)))
  | .inr y1 =>
    Option.bind (VD N (y1,[])) fun y2 =>
    some (.inr ((y2,(0 : Int))))
noncomputable def ax5 (N : Nat) : Pk → Tr Pk := r8 PP (ag s375 w375 (ah4 N))
theorem TA (N : Nat) : au Tryz.prog (375) (ax5 N) :=
  iJ yT (ae af al (vN N) Tryz.func375 s375 w375 [] (cuts := [(58,Ko N N)]) ⟨Hu N N,trivial⟩ (fun _ => by kernel_rfl) (by decide +kernel) (ah4 N) (fun x => by kernel_rfl)) (by decide +kernel)
@[reducible] def s379 : SP := ⟨[.nilsl,.int .i64],[]⟩
noncomputable def W7 (N : Nat) : List (Nat × (Pk → Tr Pk)) := []
theorem LP (N : Nat) : ah Tryz.prog (W7 N) := trivial
@[reducible] def w379 : List SP := [⟨[.slp 0 (.c 0) (.c 0)],[.row (.int .i64) 3]⟩,⟨[.sl 0],[.row (.int .i64) 3]⟩]
noncomputable def ah1 (N : Nat) : (Int) → Option ((((List Int)) ⊕ ((List Int))))
  | x0 =>
  ac (decide (x0 < (0 : Int))) (
    none ) (
    ac (decide (IntKind.wrap IntKind.i64 (x0 - (0 : Int)) > (0 : Int))) (
      ac (decide ((0 : Int) < IntKind.wrap IntKind.i64 (x0 - (0 : Int)) ∧ IntKind.wrap IntKind.i64 (x0 - (0 : Int)) * (8 : Int) ≤ (140737488355328 : Int) ∧ IntKind.wrap IntKind.i64 (x0 - (0 : Int)) ≤ (140737488355328 : Int))) (
        ac (decide ((0 : Int) ≤ (0 : Int) ∧ (0 : Int) ≤ (↑(List.length (List.replicate (Int.toNat (IntKind.wrap IntKind.i64 (x0 - (0 : Int)))) (0 : Int))) : Int))) (
          some (.inl (List.replicate (Int.toNat (IntKind.wrap IntKind.i64 (x0 - (0 : Int)))) (0 : Int)))) (
          none )) (
        none )) (
      some (.inr ([]))))
noncomputable def ax2 (N : Nat) : Pk → Tr Pk := r8 (H5 (Ty.int IntKind.i64) 3) (ag s379 w379 (ah1 N))
theorem Tw (N : Nat) : au Tryz.prog (379) (ax2 N) :=
  iJ (BN _ _) (ae af al (LP N) Tryz.func379 s379 w379 [] (cuts := []) trivial (fun _ => by kernel_rfl) (by decide +kernel) (ah1 N) (fun x => by kernel_rfl)) (by decide +kernel)
@[reducible] def s361 : SP := ⟨[.ro (.sl (.int .i64))],[]⟩
noncomputable def Xo (N : Nat) : List (Nat × (Pk → Tr Pk)) := [(379,ax2 N)]
theorem nG (N : Nat) : ah Tryz.prog (Xo N) := ⟨Tw N,trivial⟩
@[reducible] def JA : LD := ⟨58,[3,11,10,0,9],[(.ret,[2]),(.exit 0,[3,0])],⟨[.int .i64,.int .i64,.int .i64,.ro (.sl (.int .i64)),.ro (.sl (.int .i64))],[]⟩,[(.exit 0,⟨[.int .i64,.ro (.sl (.int .i64))],[]⟩)]⟩
abbrev AT : Type := Int × Int × Int × (List (List Int)) × (List (List Int))
abbrev Ac : Type := Int × (List (List Int))
noncomputable def Ld (N : Nat) (f : AT → Option Ac) : AT → Option Ac
  | (x0,x1,x2,x3,x4) =>
  ac (decide (x1 < x2)) (
    ac (within x1 (List.length x4)) (
      Option.bind (x4[Int.toNat x1]?) fun y0 =>
      ac (decide (IntKind.wrap IntKind.i64 (x0 + (↑(List.length y0) : Int)) < (0 : Int))) (
        none ) (
        Option.bind (f (IntKind.wrap IntKind.i64 (x0 + (↑(List.length y0) : Int)),IntKind.wrap IntKind.i64 (x1 + (1 : Int)),x2,x3,x4)) fun r => some r)) (
      none )) (
    some ((x0,x3)))
noncomputable def q7 (N : Nat) : Nat → AT → Option Ac
  | 0,_ => none
  | k + 1,x => Ld N (q7 N k) x
noncomputable def BD (N : Nat) (k : Nat) : Cut := JA.cut (q7 N k)
theorem uU (N : Nat) (k : Nat) : aj Tryz.prog false Tryz.f361 [] 58 (BD N k) :=
  JA.loopT af al (nG N) Tryz.f361 [] (cuts := []) trivial (by decide +kernel) (by kernel_rfl) (Ld N) (q7 N) (fun _ => rfl) (fun _ _ => rfl) (fun f x => by kernel_rfl) k
@[reducible] def Dj : LD := ⟨250,[6,27,26,25],[(.ret,[2]),(.exit 2,[6])],⟨[.sl 0,.int .i64,.int .i64,.ro (.sl (.int .i64))],[.row (.int .i64) 3]⟩,[(.exit 2,⟨[.sl 0],[.row (.int .i64) 3]⟩)]⟩
abbrev t8 : Type := Int × Int × (List (List Int)) × (List Int)
abbrev tg : Type := (List Int)
noncomputable def E9 (N : Nat) (f : t8 → Option tg) : t8 → Option tg
  | (x0,x1,x2,x3) =>
  ac (decide (x0 < x1)) (
    ac (within x0 (List.length x2)) (
      Option.bind (x2[Int.toNat x0]?) fun y0 =>
      ac (decide ((List.length x3 + List.length y0) * (8 : Nat) ≤ (140737488355328 : Nat) ∧ List.length x3 + List.length y0 ≤ (140737488355328 : Nat))) (
        Option.bind (f (IntKind.wrap IntKind.i64 (x0 + (1 : Int)),x1,x2,x3 ++ y0)) fun r => some r) (
        none )) (
      none )) (
    some (x3))
noncomputable def jk (N : Nat) : Nat → t8 → Option tg
  | 0,_ => none
  | k + 1,x => E9 N (jk N k) x
noncomputable def Es (N : Nat) (k : Nat) : Cut := Dj.cut (jk N k)
theorem Er (N : Nat) (k : Nat) : aj Tryz.prog false Tryz.f361 [] 250 (Es N k) :=
  Dj.loopT af al (nG N) Tryz.f361 [] (cuts := [(58,BD N N)]) ⟨uU N N,trivial⟩ (by decide +kernel) (by kernel_rfl) (E9 N) (jk N) (fun _ => rfl) (fun _ _ => rfl) (fun f x => by kernel_rfl) k
@[reducible] def w361 : List SP := [⟨[.sl 0],[.row (.int .i64) 3]⟩]
noncomputable def VI (N : Nat) : ((List (List Int))) → Option ((List Int))
  | x0 =>
  Option.bind (q7 N N ((0 : Int),(0 : Int),(↑(List.length x0) : Int),x0,x0)) fun y0 =>
  Option.bind (ah1 N y0.1) fun y1 =>
  match y1 with
  | .inl y2 =>
    Option.bind (jk N N ((0 : Int),(↑(List.length y0.2) : Int),y0.2,[])) fun y3 =>
    some (y3)
  | .inr y2 =>
    Option.bind (jk N N ((0 : Int),(↑(List.length y0.2) : Int),y0.2,y2)) fun y4 =>
    some (y4)
noncomputable def ad2 (N : Nat) : Pk → Tr Pk := ag s361 w361 (VI N)
theorem IW (N : Nat) : au Tryz.prog (361) (ad2 N) :=
  (ae af al (nG N) Tryz.func361 s361 w361 [] (cuts := [(58,BD N N),(250,Es N N)]) ⟨uU N N,Er N N,trivial⟩ (fun _ => by kernel_rfl) (by decide +kernel) (VI N) (fun x => by kernel_rfl))
@[reducible] def s377 : SP := ⟨[.ro y5],[]⟩
noncomputable def W9 (N : Nat) : List (Nat × (Pk → Tr Pk)) := [(361,ad2 N)]
theorem vM (N : Nat) : ah Tryz.prog (W9 N) := ⟨IW N,trivial⟩
@[reducible] def Ju : LD := ⟨58,[3,4,0],[(.ret,[2]),(.exit 0,[3])],⟨[.sl 0,.int .i64,.ro y5],[.row y5 391]⟩,[(.exit 0,⟨[.sl 0],[.row y5 391]⟩)]⟩
abbrev AN : Type := Int × (List (Int × ((List Int) × Unit))) × (List (Int × ((List Int) × Unit)))
abbrev zW : Type := (List (Int × ((List Int) × Unit)))
noncomputable def K7 (N : Nat) (f : AN → Option zW) : AN → Option zW
  | (x0,x1,x2) =>
  ac (decide (IntKind.wrap IntKind.i64 (x0 + (1 : Int)) < (↑(List.length x1) : Int))) (
    ac (within x0 (List.length x1)) (
      Option.bind (x1[Int.toNat x0]?) fun y0 =>
      ac (within (IntKind.wrap IntKind.i64 (x0 + (1 : Int))) (List.length x1)) (
        Option.bind (x1[Int.toNat (IntKind.wrap IntKind.i64 (x0 + (1 : Int)))]?) fun y1 =>
        ac (within x0 (List.length x1)) (
          Option.bind (x1[Int.toNat x0]?) fun y2 =>
          ac (within (IntKind.wrap IntKind.i64 (x0 + (1 : Int))) (List.length x1)) (
            Option.bind (x1[Int.toNat (IntKind.wrap IntKind.i64 (x0 + (1 : Int)))]?) fun y3 =>
            Option.bind (VI N [y2.2.1,y3.2.1]) fun y4 =>
            ac (decide ((List.length x2 + List.length [(IntKind.wrap IntKind.i64 (y0.1 + y1.1),y4,())]) * (32 : Nat) ≤ (140737488355328 : Nat) ∧ List.length x2 + List.length [(IntKind.wrap IntKind.i64 (y0.1 + y1.1),y4,())] ≤ (140737488355328 : Nat))) (
              Option.bind (f (IntKind.wrap IntKind.i64 (x0 + (2 : Int)),x1,x2 ++ [(IntKind.wrap IntKind.i64 (y0.1 + y1.1),y4,())])) fun r => some r) (
              none )) (
            none )) (
          none )) (
        none )) (
      none )) (
    some (x2))
noncomputable def qX (N : Nat) : Nat → AN → Option zW
  | 0,_ => none
  | k + 1,x => K7 N (qX N k) x
noncomputable def Kn (N : Nat) (k : Nat) : Cut := Ju.cut (qX N k)
theorem Ht (N : Nat) (k : Nat) : aj Tryz.prog false Tryz.f377 [] 58 (Kn N k) :=
  Ju.loopT af al (vM N) Tryz.f377 [] (cuts := []) trivial (by decide +kernel) (by kernel_rfl) (K7 N) (qX N) (fun _ => rfl) (fun _ _ => rfl) (fun f x => by kernel_rfl) k
@[reducible] def w377 : List SP := [⟨[.sl 0],[.row y5 391]⟩]
noncomputable def ah3 (N : Nat) : ((List (Int × ((List Int) × Unit)))) → Option ((List (Int × ((List Int) × Unit))))
  | x0 =>
  Option.bind (qX N N ((0 : Int),x0,[])) fun y0 =>
  some (y0)
noncomputable def ax4 (N : Nat) : Pk → Tr Pk := r8 PP (ag s377 w377 (ah3 N))
theorem Tz (N : Nat) : au Tryz.prog (377) (ax4 N) :=
  iJ yT (ae af al (vM N) Tryz.func377 s377 w377 [] (cuts := [(58,Kn N N)]) ⟨Ht N N,trivial⟩ (fun _ => by kernel_rfl) (by decide +kernel) (ah3 N) (fun x => by kernel_rfl)) (by decide +kernel)
@[reducible] def s358 : SP := ⟨[.ro (.int .i64),.int .i64],[]⟩
noncomputable def Xr (N : Nat) : List (Nat × (Pk → Tr Pk)) := [(375,ax5 N),(377,ax4 N),(376,ac5 N)]
theorem fx (N : Nat) : ah Tryz.prog (Xr N) := ⟨TA N,Tz N,IN N,trivial⟩
@[reducible] def xl : LD := ⟨4090,[9,61,60,8,6],[(.ret,[4,5]),(.exit 1,[9,6,8])],⟨[.ro y5,.int .i64,.int .i64,.sl 0,.ro y5],[.row (.int .i64) 3]⟩,[(.exit 1,⟨[.ro y5,.ro y5,.sl 0],[.row (.int .i64) 3]⟩)]⟩
abbrev oW : Type := (List (Int × ((List Int) × Unit))) × Int × Int × (List (Int × ((List Int) × Unit))) × (List Int)
abbrev oF : Type := (List (Int × ((List Int) × Unit))) × (List (Int × ((List Int) × Unit))) × (List Int)
noncomputable def yc (N : Nat) (f : oW → Option oF) : oW → Option oF
  | (x0,x1,x2,x3,x4) =>
  ac (decide (x1 < x2)) (
    Option.bind (ah3 N x0) fun y0 =>
    Option.bind (VD N (x3,y0)) fun y1 =>
    Option.bind (f (y1,IntKind.wrap IntKind.i64 (x1 + (1 : Int)),x2,x3,x4)) fun r => some r) (
    some ((x0,x3,x4)))
noncomputable def dh (N : Nat) : Nat → oW → Option oF
  | 0,_ => none
  | k + 1,x => yc N (dh N k) x
noncomputable def gg (N : Nat) (k : Nat) : Cut := xl.cut (dh N k)
theorem dQ (N : Nat) (k : Nat) : aj Tryz.prog false Tryz.f358 [] 4090 (gg N k) :=
  xl.loopT af al (fx N) Tryz.f358 [] (cuts := []) trivial (by decide +kernel) (by kernel_rfl) (yc N) (dh N) (fun _ => rfl) (fun _ _ => rfl) (fun f x => by kernel_rfl) k
@[reducible] def mG : LD := ⟨2095718,[82,81,73,74,75,80,8],[(.ret,[4,5]),(.exit 5,[75,74,73,8]),(.exit 4,[75,74,73,8]),(.exit 3,[8])],⟨[.int .i64,.int .i64,.ro y5,.int .i64,.int .i64,.ro (.int .i64),.sl 0],[.row (.int .i64) 3]⟩,[(.exit 5,⟨[.int .i64,.int .i64,.ro y5,.sl 0],[.row (.int .i64) 3]⟩)]⟩
abbrev gR : Type := Int × Int × (List (Int × ((List Int) × Unit))) × Int × Int × (List Int) × (List Int)
abbrev gP : Type := Int × Int × (List (Int × ((List Int) × Unit))) × (List Int)
noncomputable def nA (N : Nat) (f : gR → Option gP) : gR → Option gP
  | (x0,x1,x2,x3,x4,x5,x6) =>
  ac (decide (x0 < x1)) (
    ac (within x0 (List.length x5)) (
      Option.bind (x5[Int.toNat x0]?) fun y0 =>
      ac (within y0 (List.length x6)) (
        Option.bind (x6[Int.toNat y0]?) fun y1 =>
        ac (within y0 (List.length x6)) (
          Option.bind (x6[Int.toNat y0]?) fun y2 =>
          Option.bind (f (IntKind.wrap IntKind.i64 (x0 + (1 : Int)),x1,x2,x3,x4,x5,List.set x6 (Int.toNat y0) (IntKind.wrap IntKind.i64 (y1 + (1 : Int))))) fun r => some r) (
          none )) (
        none )) (
      none )) (
    some ((x4,x3,x2,x6)))
noncomputable def dL (N : Nat) : Nat → gR → Option gP
  | 0,_ => none
  | k + 1,x => nA N (dL N k) x
noncomputable def dR (N : Nat) (k : Nat) : Cut := mG.cut (dL N k)
theorem dE (N : Nat) (k : Nat) : aj Tryz.prog false Tryz.f358 [] 2095718 (dR N k) :=
  mG.loopT af al (fx N) Tryz.f358 [] (cuts := [(4090,gg N N)]) ⟨dQ N N,trivial⟩ (by decide +kernel) (by kernel_rfl) (nA N) (dL N) (fun _ => rfl) (fun _ _ => rfl) (fun f x => by kernel_rfl) k
@[reducible] def xk : LD := ⟨8186,[74,73,75,8],[(.ret,[4,5]),(.exit 3,[8])],⟨[.int .i64,.ro y5,.int .i64,.sl 0],[.row (.int .i64) 3]⟩,[(.exit 3,⟨[.sl 0],[.row (.int .i64) 3]⟩)]⟩
abbrev oV : Type := Int × (List (Int × ((List Int) × Unit))) × Int × (List Int)
abbrev oE : Type := (List Int)
noncomputable def yb (N : Nat) (f : oV → Option oE) : oV → Option oE
  | (x0,x1,x2,x3) =>
  ac (decide (x2 < x0)) (
    ac (within x2 (List.length x1)) (
      Option.bind (x1[Int.toNat x2]?) fun y0 =>
      Option.bind (dL N N ((0 : Int),(↑(List.length y0.2.1) : Int),x1,x0,x2,y0.2.1,x3)) fun y1 =>
      Option.bind (f (y1.2.1,y1.2.2.1,IntKind.wrap IntKind.i64 (y1.1 + (1 : Int)),y1.2.2.2)) fun r => some r) (
      none )) (
    some (x3))
noncomputable def de (N : Nat) : Nat → oV → Option oE
  | 0,_ => none
  | k + 1,x => yb N (de N k) x
noncomputable def pr (N : Nat) (k : Nat) : Cut := xk.cut (de N k)
theorem np (N : Nat) (k : Nat) : aj Tryz.prog false Tryz.f358 [] 8186 (pr N k) :=
  xk.loopT af al (fx N) Tryz.f358 [] (cuts := [(4090,gg N N),(2095718,dR N N)]) ⟨dQ N N,dE N N,trivial⟩ (by decide +kernel) (by kernel_rfl) (yb N) (de N) (fun _ => rfl) (fun _ _ => rfl) (fun f x => by kernel_rfl) k
@[reducible] def QT : LD := ⟨7,[0,1],[(.ret,[4,5]),(.normal,[4,5])],⟨[.ro (.int .i64),.int .i64],[]⟩,[(.ret,⟨[.sl 0,.int .i64],[.row (.int .i64) 3]⟩)]⟩
noncomputable def G5 (N : Nat) : ((List Int) × Int) → Option (Int × (List Int))
  | (x0,x1) =>
  Option.bind (ah4 N x0) fun y0 =>
  match y0 with
  | .inl y1 =>
    ac (y1.1 != (0 : Int)) (
      some ((y1.1,[]))) (
      ac (decide (x1 < (0 : Int))) (
        none ) (
        ac (decide ((↑(List.length y1.2) : Int) > IntKind.wrap IntKind.i64 ((1 : Int) * (2 : Int) ^ min (Int.toNat x1) (64 : Nat)))) (
          some (((50 : Int),[]))) (
          ac (decide ((0 : Int) ≤ (↑(List.length x0) : Int) ∧ (↑(List.length x0) : Int) ≤ (↑(List.length x0) : Int) ∧ (↑(List.length x0) : Int) * (8 : Int) ≤ (140737488355328 : Int) ∧ (↑(List.length x0) : Int) ≤ (140737488355328 : Int))) (
            ac ((↑(List.length y1.2) : Int) == (1 : Int)) (
              ac (within (0 : Int) (List.length y1.2)) (
                Option.bind (y1.2[(0 : Nat)]?) fun y2 =>
                ac (within (0 : Int) (List.length y2.2.1)) (
                  Option.bind (y2.2.1[(0 : Nat)]?) fun y3 =>
                  ac (within y3 (List.length (List.replicate (Int.toNat (↑(List.length x0) : Int)) (0 : Int)))) (
                    Option.bind ((List.replicate (Int.toNat (↑(List.length x0) : Int)) (0 : Int))[Int.toNat y3]?) fun y4 =>
                    ac (decide ((↑(List.length y1.2) : Int) < (2 : Int))) (
                      some (((0 : Int),List.set (List.replicate (Int.toNat (↑(List.length x0) : Int)) (0 : Int)) (Int.toNat y3) (1 : Int)))) (
                      Option.bind (dh N N (y1.2,(0 : Int),IntKind.wrap IntKind.i64 (x1 - (1 : Int)),y1.2,List.set (List.replicate (Int.toNat (↑(List.length x0) : Int)) (0 : Int)) (Int.toNat y3) (1 : Int))) fun y5 =>
                      ac (decide ((0 : Int) ≤ IntKind.wrap IntKind.i64 (IntKind.wrap IntKind.i64 ((2 : Int) * (↑(List.length y5.2.1) : Int)) - (2 : Int)) ∧ IntKind.wrap IntKind.i64 (IntKind.wrap IntKind.i64 ((2 : Int) * (↑(List.length y5.2.1) : Int)) - (2 : Int)) ≤ (↑(List.length y5.1) : Int))) (
                        Option.bind (de N N ((↑(List.length (List.take (Int.toNat (IntKind.wrap IntKind.i64 (IntKind.wrap IntKind.i64 ((2 : Int) * (↑(List.length y5.2.1) : Int)) - (2 : Int))) - (0 : Nat)) (List.drop (0 : Nat) y5.1))) : Int),List.take (Int.toNat (IntKind.wrap IntKind.i64 (IntKind.wrap IntKind.i64 ((2 : Int) * (↑(List.length y5.2.1) : Int)) - (2 : Int))) - (0 : Nat)) (List.drop (0 : Nat) y5.1),(0 : Int),y5.2.2)) fun y6 =>
                        some (((0 : Int),y6))) (
                        none ))) (
                    none )) (
                  none )) (
                none )) (
              ac (decide ((↑(List.length y1.2) : Int) < (2 : Int))) (
                some (((0 : Int),List.replicate (Int.toNat (↑(List.length x0) : Int)) (0 : Int)))) (
                Option.bind (dh N N (y1.2,(0 : Int),IntKind.wrap IntKind.i64 (x1 - (1 : Int)),y1.2,List.replicate (Int.toNat (↑(List.length x0) : Int)) (0 : Int))) fun y7 =>
                ac (decide ((0 : Int) ≤ IntKind.wrap IntKind.i64 (IntKind.wrap IntKind.i64 ((2 : Int) * (↑(List.length y7.2.1) : Int)) - (2 : Int)) ∧ IntKind.wrap IntKind.i64 (IntKind.wrap IntKind.i64 ((2 : Int) * (↑(List.length y7.2.1) : Int)) - (2 : Int)) ≤ (↑(List.length y7.1) : Int))) (
                  Option.bind (de N N ((↑(List.length (List.take (Int.toNat (IntKind.wrap IntKind.i64 (IntKind.wrap IntKind.i64 ((2 : Int) * (↑(List.length y7.2.1) : Int)) - (2 : Int))) - (0 : Nat)) (List.drop (0 : Nat) y7.1))) : Int),List.take (Int.toNat (IntKind.wrap IntKind.i64 (IntKind.wrap IntKind.i64 ((2 : Int) * (↑(List.length y7.2.1) : Int)) - (2 : Int))) - (0 : Nat)) (List.drop (0 : Nat) y7.1),(0 : Int),y7.2.2)) fun y8 =>
                  some (((0 : Int),y8))) (
                  none )))) (
            none ))))
  | .inr y1 =>
    ac (y1.2 != (0 : Int)) (
      some ((y1.2,[]))) (
      ac (decide (x1 < (0 : Int))) (
        none ) (
        ac (decide ((↑(List.length y1.1) : Int) > IntKind.wrap IntKind.i64 ((1 : Int) * (2 : Int) ^ min (Int.toNat x1) (64 : Nat)))) (
          some (((50 : Int),[]))) (
          ac (decide ((0 : Int) ≤ (↑(List.length x0) : Int) ∧ (↑(List.length x0) : Int) ≤ (↑(List.length x0) : Int) ∧ (↑(List.length x0) : Int) * (8 : Int) ≤ (140737488355328 : Int) ∧ (↑(List.length x0) : Int) ≤ (140737488355328 : Int))) (
            ac ((↑(List.length y1.1) : Int) == (1 : Int)) (
              ac (within (0 : Int) (List.length y1.1)) (
                Option.bind (y1.1[(0 : Nat)]?) fun y9 =>
                ac (within (0 : Int) (List.length y9.2.1)) (
                  Option.bind (y9.2.1[(0 : Nat)]?) fun y10 =>
                  ac (within y10 (List.length (List.replicate (Int.toNat (↑(List.length x0) : Int)) (0 : Int)))) (
                    Option.bind ((List.replicate (Int.toNat (↑(List.length x0) : Int)) (0 : Int))[Int.toNat y10]?) fun y11 =>
                    ac (decide ((↑(List.length y1.1) : Int) < (2 : Int))) (
                      some (((0 : Int),List.set (List.replicate (Int.toNat (↑(List.length x0) : Int)) (0 : Int)) (Int.toNat y10) (1 : Int)))) (
                      Option.bind (dh N N (y1.1,(0 : Int),IntKind.wrap IntKind.i64 (x1 - (1 : Int)),y1.1,List.set (List.replicate (Int.toNat (↑(List.length x0) : Int)) (0 : Int)) (Int.toNat y10) (1 : Int))) fun y12 =>
                      ac (decide ((0 : Int) ≤ IntKind.wrap IntKind.i64 (IntKind.wrap IntKind.i64 ((2 : Int) * (↑(List.length y12.2.1) : Int)) - (2 : Int)) ∧ IntKind.wrap IntKind.i64 (IntKind.wrap IntKind.i64 ((2 : Int) * (↑(List.length y12.2.1) : Int)) - (2 : Int)) ≤ (↑(List.length y12.1) : Int))) (
                        Option.bind (de N N ((↑(List.length (List.take (Int.toNat (IntKind.wrap IntKind.i64 (IntKind.wrap IntKind.i64 ((2 : Int) * (↑(List.length y12.2.1) : Int)) - (2 : Int))) - (0 : Nat)) (List.drop (0 : Nat) y12.1))) : Int),List.take (Int.toNat (IntKind.wrap IntKind.i64 (IntKind.wrap IntKind.i64 ((2 : Int) * (↑(List.length y12.2.1) : Int)) - (2 : Int))) - (0 : Nat)) (List.drop (0 : Nat) y12.1),(0 : Int),y12.2.2)) fun y13 =>
                        some (((0 : Int),y13))) (
                        none ))) (
                    none )) (
                  none )) (
                none )) (
              ac (decide ((↑(List.length y1.1) : Int) < (2 : Int))) (
                some (((0 : Int),List.replicate (Int.toNat (↑(List.length x0) : Int)) (0 : Int)))) (
                Option.bind (dh N N (y1.1,(0 : Int),IntKind.wrap IntKind.i64 (x1 - (1 : Int)),y1.1,List.replicate (Int.toNat (↑(List.length x0) : Int)) (0 : Int))) fun y14 =>
                ac (decide ((0 : Int) ≤ IntKind.wrap IntKind.i64 (IntKind.wrap IntKind.i64 ((2 : Int) * (↑(List.length y14.2.1) : Int)) - (2 : Int)) ∧ IntKind.wrap IntKind.i64 (IntKind.wrap IntKind.i64 ((2 : Int) * (↑(List.length y14.2.1) : Int)) - (2 : Int)) ≤ (↑(List.length y14.1) : Int))) (
                  Option.bind (de N N ((↑(List.length (List.take (Int.toNat (IntKind.wrap IntKind.i64 (IntKind.wrap IntKind.i64 ((2 : Int) * (↑(List.length y14.2.1) : Int)) - (2 : Int))) - (0 : Nat)) (List.drop (0 : Nat) y14.1))) : Int),List.take (Int.toNat (IntKind.wrap IntKind.i64 (IntKind.wrap IntKind.i64 ((2 : Int) * (↑(List.length y14.2.1) : Int)) - (2 : Int))) - (0 : Nat)) (List.drop (0 : Nat) y14.1),(0 : Int),y14.2.2)) fun y15 =>
                  some (((0 : Int),y15))) (
                  none )))) (
            none ))))
noncomputable def Sc (N : Nat) (_ : Nat) : Cut := QT.cut (G5 N)
theorem Oq (N : Nat) (k : Nat) : aj Tryz.prog false Tryz.f358 [] 7 (Sc N k) :=
  QT.pieceT af al (fx N) Tryz.f358 [] (cuts := [(4090,gg N N),(2095718,dR N N),(8186,pr N N)]) ⟨dQ N N,dE N N,np N N,trivial⟩ (by decide +kernel) (by kernel_rfl) (G5 N) (fun x => by kernel_rfl)
@[reducible] def w358 : List SP := [⟨[.tup [.sl 0,.int .i64]],[.row (.int .i64) 3]⟩]
noncomputable def VJ (N : Nat) : ((List Int) × Int) → Option (Int × (List Int))
  | (x0,x1) =>
  ac (decide ((↑(List.length x0) : Int) > (320 : Int))) (
    some (((1 : Int),[]))) (
    ac (decide (x1 < (1 : Int))) (
      some (((1 : Int),[]))) (
      ac (decide (x1 > (15 : Int))) (
        some (((1 : Int),[]))) (
        Option.bind (G5 N (x0,x1)) fun y0 =>
        some ((y0.1,y0.2)))))
noncomputable def ad3 (N : Nat) : Pk → Tr Pk := ag s358 w358 (VJ N)
theorem IX (N : Nat) : au Tryz.prog (358) (ad3 N) :=
  (ae af al (fx N) Tryz.func358 s358 w358 [] (cuts := [(4090,gg N N),(2095718,dR N N),(8186,pr N N),(7,Sc N N)]) ⟨dQ N N,dE N N,np N N,Oq N N,trivial⟩ (fun _ => by kernel_rfl) (by decide +kernel) (VJ N) (fun x => by kernel_rfl))
@[reducible] def s340 : SP := ⟨[.ro (.int .i64)],[]⟩
noncomputable def XG (N : Nat) : List (Nat × (Pk → Tr Pk)) := [(358,ad3 N)]
theorem Mf (N : Nat) : ah Tryz.prog (XG N) := ⟨IX N,trivial⟩
@[reducible] def w340 : List SP := [⟨[.sl 0],[.row (.int .i64) 3]⟩]
noncomputable def VN (N : Nat) : ((List Int)) → Option ((List Int))
  | x0 =>
  Option.bind (VJ N (x0,(15 : Int))) fun y0 =>
  some y0.2
noncomputable def az3 (N : Nat) : Pk → Tr Pk := ag s340 w340 (VN N)
theorem TU (N : Nat) : au Tryz.prog (340) (az3 N) :=
  (ae af al (Mf N) Tryz.func340 s340 w340 [] (cuts := []) trivial (fun _ => by kernel_rfl) (by decide +kernel) (VN N) (fun x => by kernel_rfl))
@[reducible] def s339 : SP := ⟨[.ro (.int .i64),.int .i64],[]⟩
noncomputable def XH (N : Nat) : List (Nat × (Pk → Tr Pk)) := []
theorem vW (N : Nat) : ah Tryz.prog (XH N) := trivial
@[reducible] def JG : LD := ⟨28,[5,1,0],[(.ret,[4]),(.exit 0,[0,5])],⟨[.int .i64,.int .i64,.ro (.int .i64)],[]⟩,[(.exit 0,⟨[.ro (.int .i64),.int .i64],[]⟩)]⟩
abbrev AX : Type := Int × Int × (List Int)
abbrev Ag : Type := (List Int) × Int
noncomputable def Lj (N : Nat) (f : AX → Option Ag) : AX → Option Ag
  | (x0,x1,x2) =>
  ac (decide (x0 > x1)) (
    ac (within (IntKind.wrap IntKind.i64 (x0 - (1 : Int))) (List.length x2)) (
      Option.bind (x2[Int.toNat (IntKind.wrap IntKind.i64 (x0 - (1 : Int)))]?) fun y0 =>
      ac (y0 == (0 : Int)) (
        Option.bind (f (IntKind.wrap IntKind.i64 (x0 - (1 : Int)),x1,x2)) fun r => some r) (
        some ((x2,x0)))) (
      none )) (
    some ((x2,x0)))
noncomputable def rf (N : Nat) : Nat → AX → Option Ag
  | 0,_ => none
  | k + 1,x => Lj N (rf N k) x
noncomputable def Kz (N : Nat) (k : Nat) : Cut := JG.cut (rf N k)
theorem HF (N : Nat) (k : Nat) : aj Tryz.prog false Tryz.f339 [] 28 (Kz N k) :=
  JG.loopT af al (vW N) Tryz.f339 [] (cuts := []) trivial (by decide +kernel) (by kernel_rfl) (Lj N) (rf N) (fun _ => rfl) (fun _ _ => rfl) (fun f x => by kernel_rfl) k
@[reducible] def w339 : List SP := [⟨[.ro (.int .i64)],[]⟩]
noncomputable def VO (N : Nat) : ((List Int) × Int) → Option ((List Int))
  | (x0,x1) =>
  Option.bind (rf N N ((↑(List.length x0) : Int),x1,x0)) fun y0 =>
  ac (decide ((0 : Int) ≤ y0.2 ∧ y0.2 ≤ (↑(List.length y0.1) : Int))) (
    some (List.take (Int.toNat y0.2 - (0 : Nat)) (List.drop (0 : Nat) y0.1))) (
    none )
noncomputable def az4 (N : Nat) : Pk → Tr Pk := ag s339 w339 (VO N)
theorem TW (N : Nat) : au Tryz.prog (339) (az4 N) :=
  (ae af al (vW N) Tryz.func339 s339 w339 [] (cuts := [(28,Kz N N)]) ⟨HF N N,trivial⟩ (fun _ => by kernel_rfl) (by decide +kernel) (VO N) (fun x => by kernel_rfl))
@[reducible] def s359 : SP := ⟨[.int .i64],[]⟩
noncomputable def Xq (N : Nat) : List (Nat × (Pk → Tr Pk)) := []
theorem LX (N : Nat) : ah Tryz.prog (Xq N) := trivial
@[reducible] def w359 : List SP := [⟨[.bool],[]⟩]
noncomputable def ai0 (N : Nat) : (Int) → Option (Bool)
  | x0 =>
  ac (decide (x0 < (0 : Int))) (
    some (true)) (
    some (decide (x0 > (15 : Int))))
noncomputable def ay2 (N : Nat) : Pk → Tr Pk := ag s359 w359 (ai0 N)
theorem TJ (N : Nat) : au Tryz.prog (359) (ay2 N) :=
  (ae af al (LX N) Tryz.func359 s359 w359 [] (cuts := []) trivial (fun _ => by kernel_rfl) (by decide +kernel) (ai0 N) (fun x => by kernel_rfl))
@[reducible] def s109 : SP := ⟨[.ro (.int .i64),.fn 359],[]⟩
noncomputable def Zo (N : Nat) : List (Nat × (Pk → Tr Pk)) := [(359,ay2 N)]
theorem wF (N : Nat) : ah Tryz.prog (Zo N) := ⟨TJ N,trivial⟩
@[reducible] def J5 : LD := ⟨26,[7,1,0,8],[(.ret,[4]),(.exit 0,[])],⟨[.int .i64,.fn 359,.ro (.int .i64),.int .i64],[]⟩,[(.ret,⟨[.int .i64],[]⟩),(.exit 0,⟨[],[]⟩)]⟩
abbrev Bh : Type := Int × (List Int) × Int
abbrev AB : Type := ((Int) ⊕ (Unit))
noncomputable def Lw (N : Nat) (f : Bh → Option AB) : Bh → Option AB
  | (x0,x1,x2) =>
  ac (decide (x2 < x0)) (
    ac (within x2 (List.length x1)) (
      Option.bind (x1[Int.toNat x2]?) fun y0 =>
      Option.bind (ai0 N y0) fun y1 =>
      ac (y1) (
        some (.inl (x2))) (
        Option.bind (f (x0,x1,IntKind.wrap IntKind.i64 (x2 + (1 : Int)))) fun r => match r with | .inl y => some (.inl y) | .inr y => some (.inr y))) (
      none )) (
    some (.inr (())))
noncomputable def rz (N : Nat) : Nat → Bh → Option AB
  | 0,_ => none
  | k + 1,x => Lw N (rz N k) x
noncomputable def KW (N : Nat) (k : Nat) : Cut := J5.cut (rz N k)
theorem H3 (N : Nat) (k : Nat) : aj Tryz.prog false Tryz.f109 [] 26 (KW N k) :=
  J5.loopT af al (wF N) Tryz.f109 [] (cuts := []) trivial (by decide +kernel) (by kernel_rfl) (Lw N) (rz N) (fun _ => rfl) (fun _ _ => rfl) (fun f x => by kernel_rfl) k
@[reducible] def w109 : List SP := [⟨[.int .i64],[]⟩]
noncomputable def al7 (N : Nat) : ((List Int)) → Option (Int)
  | x0 =>
  Option.bind (rz N N ((↑(List.length x0) : Int),x0,(0 : Int))) fun y0 =>
  match y0 with
  | .inl y1 =>
    some (y1)
  | .inr y1 =>
    some ((-1 : Int))
noncomputable def aG3 (N : Nat) : Pk → Tr Pk := ag s109 w109 (al7 N)
theorem Vp (N : Nat) : au Tryz.prog (109) (aG3 N) :=
  (ae af al (wF N) Tryz.func109 s109 w109 [] (cuts := [(26,KW N N)]) ⟨H3 N N,trivial⟩ (fun _ => by kernel_rfl) (by decide +kernel) (al7 N) (fun x => by kernel_rfl))
@[reducible] def s77 : SP := ⟨[.ro (.int .i64),.fn 359],[]⟩
noncomputable def ap6 (N : Nat) : List (Nat × (Pk → Tr Pk)) := [(109,aG3 N)]
theorem O2 (N : Nat) : ah Tryz.prog (ap6 N) := ⟨Vp N,trivial⟩
@[reducible] def w77 : List SP := [⟨[.bool],[]⟩]
noncomputable def F77 (N : Nat) : ((List Int)) → Option (Bool)
  | x0 =>
  Option.bind (al7 N x0) fun y0 =>
  some (decide (y0 ≥ (0 : Int)))
noncomputable def T77 (N : Nat) : Pk → Tr Pk := ag s77 w77 (F77 N)
theorem ab8 (N : Nat) : au Tryz.prog (77) (T77 N) :=
  (ae af al (O2 N) Tryz.func77 s77 w77 [] (cuts := []) trivial (fun _ => by kernel_rfl) (by decide +kernel) (F77 N) (fun x => by kernel_rfl))
@[reducible] def s378 : SP := ⟨[.ro (.int .i64),.int .i64,.int .i64],[]⟩
noncomputable def W8 (N : Nat) : List (Nat × (Pk → Tr Pk)) := []
theorem vL (N : Nat) : ah Tryz.prog (W8 N) := trivial
@[reducible] def Jt : LD := ⟨28,[7,2,0,1],[(.ret,[6]),(.exit 0,[7])],⟨[.int .i64,.int .i64,.ro (.int .i64),.int .i64],[]⟩,[(.exit 0,⟨[.int .i64],[]⟩)]⟩
abbrev AM : Type := Int × Int × (List Int) × Int
abbrev zV : Type := Int
noncomputable def K6 (N : Nat) (f : AM → Option zV) : AM → Option zV
  | (x0,x1,x2,x3) =>
  ac (decide (x0 < x1)) (
    ac (decide (IntKind.wrap IntKind.i64 (x3 + x0) < (↑(List.length x2) : Int))) (
      ac (within (IntKind.wrap IntKind.i64 (x3 + x0)) (List.length x2)) (
        Option.bind (x2[Int.toNat (IntKind.wrap IntKind.i64 (x3 + x0))]?) fun y0 =>
        ac (within x3 (List.length x2)) (
          Option.bind (x2[Int.toNat x3]?) fun y1 =>
          ac (y0 == y1) (
            Option.bind (f (IntKind.wrap IntKind.i64 (x0 + (1 : Int)),x1,x2,x3)) fun r => some r) (
            some (x0))) (
          none )) (
        none )) (
      some (x0))) (
    some (x0))
noncomputable def qW (N : Nat) : Nat → AM → Option zV
  | 0,_ => none
  | k + 1,x => K6 N (qW N k) x
noncomputable def Km (N : Nat) (k : Nat) : Cut := Jt.cut (qW N k)
theorem Hs (N : Nat) (k : Nat) : aj Tryz.prog false Tryz.f378 [] 28 (Km N k) :=
  Jt.loopT af al (vL N) Tryz.f378 [] (cuts := []) trivial (by decide +kernel) (by kernel_rfl) (K6 N) (qW N) (fun _ => rfl) (fun _ _ => rfl) (fun f x => by kernel_rfl) k
@[reducible] def w378 : List SP := [⟨[.int .i64],[]⟩]
noncomputable def ah2 (N : Nat) : ((List Int) × Int × Int) → Option (Int)
  | (x0,x1,x2) =>
  Option.bind (qW N N ((1 : Int),x2,x0,x1)) fun y0 =>
  some (y0)
noncomputable def ax3 (N : Nat) : Pk → Tr Pk := ag s378 w378 (ah2 N)
theorem Tx (N : Nat) : au Tryz.prog (378) (ax3 N) :=
  (ae af al (vL N) Tryz.func378 s378 w378 [] (cuts := [(28,Km N N)]) ⟨Hs N N,trivial⟩ (fun _ => by kernel_rfl) (by decide +kernel) (ah2 N) (fun x => by kernel_rfl))
end Go.Proofs.YtfcamlibbfnldaaGreat.Am
